/- Zones: plain lemmas, for chapter 5. Chapter 5: maps, lists that are filtered. Chapter 5: slices.DeleteFunc. Chapter 5: what the device's functions compute, in plain terms. Chapter 5: the power comes. Chapter 5: the power goes. Chapter 5: the power goes: the loop. Chapter 5: what the zones' acts change; overlays. Chapter 5: the reference's disk, in plain terms. Chapter 5: the device's invariant. Chapter 5: the invariant, when the power goes. Chapter 5: device and disk, side by side. Chapter 5: the reference's crash. Chapter 5: one act on both sides. Chapter 5: the laws' means. Chapter 5: what is flushed stays. Chapter 5: what lasts is what was written, but for a torn page. Chapter 5: what was flushed outlasts a crash, and of what was written behind it a beginning lasts. -/
import Derived.KernelRfl
import Derived.Test.YthecmjmlkoomiaaRM
import Derived.Test.YthecmjmlkoomiaaRR
import Derived.Test.YthecmjmlkoomiaaKc
namespace Go.AX
set_option autoImplicit false
set_option linter.unusedVariables false
set_option linter.unusedSimpArgs false
set_option maxRecDepth 4000
set_option maxHeartbeats 4000000




/-- What a right measure tells. -/
structure Geo (g : TGeom) : Prop where
  c : 2 ≤ g.Conv
  cs : g.Conv + g.Seq ≤ 64
  s : 6 ≤ g.Seq
  z : 8 ≤ g.Size ∧ g.Size ≤ 256

theorem ref03_Blocks (g : TGeom) (h : Geo g) : ∃ n, m_ref03_Blocks g = some n ∧ 0 ≤ n ∧ n ≤ 4096 := by
  obtain ⟨h1, h2, h3, h4⟩ := h
  unfold m_ref03_Blocks
  have hq : binI .quo .i64 g.Size 2 = g.Size / 2 := by
    show IntKind.wrap .i64 (g.Size.tdiv 2) = _
    rw [IntKind.wrap_i64, Int.tdiv_eq_ediv_of_nonneg (by omega)]; omega
  obtain ⟨r, h5, h6⟩ := loop_inv (σ := Int × Int) (ρ := Int) (s0 := (0, 5)) (step := fun s18 => Let (clt s18.2 g.Seq) fun b20 => bif b20 then (Bnd (nz? 2) fun _ => Let (binI .quo .i64 g.Size 2) fun v21 => Let (iadd s18.1 v21) fun v22 => Let (iadd s18.2 1) fun v23 => some (.inl (v22, v23))) else (some (.inr (s18.1))))
    (fun s => 0 ≤ s.1 ∧ s.1 ≤ 128 * s.2 ∧ 5 ≤ s.2 ∧ s.2 ≤ g.Seq) (fun s => (g.Seq - s.2).toNat) (fun r => 0 ≤ r) (by simp; omega) (by simp; omega) (by
      rintro ⟨a, i⟩ ⟨k1, k2, k3, k4⟩
      simp only at k1 k2 k3 k4
      by_cases hi : i < g.Seq
      · left
        refine ⟨(a + g.Size / 2, i + 1), ?_, ⟨?_, ?_, ?_, ?_⟩, ?_⟩
        · simp [hi, nz?, hq, iadd, add_ok (a := a) (b := g.Size / 2) (by omega), add_ok (a := i) (b := 1) (by omega)]
        all_goals simp only; omega
      · right
        exact ⟨a, by simp [hi], k1⟩)
  rw [h5]
  by_cases hr : 4096 < r
  · exact ⟨4096, by simp [hr], by omega, by omega⟩
  · exact ⟨r, by simp [hr], h6, by omega⟩

theorem ref03_Pages (g : TGeom) (h : Geo g) : ∃ n, m_ref03_Pages g = some n ∧ 0 ≤ n ∧ n ≤ 4096 := by
  obtain ⟨B, hB, hB0, hB1⟩ := ref03_Blocks g h
  unfold m_ref03_Pages
  rw [hB]
  obtain ⟨r, h5, h6⟩ := loop_inv (σ := Int) (ρ := Int) (s0 := 0) (step := fun s18 => Let (imul 10 s18) fun v19 => Bnd (some B) fun r20 => Let (clt v19 r20) fun b23 => bif b23 then (Let (iadd s18 1) fun v24 => some (.inl (v24))) else (some (.inr (s18))))
    (fun s => 0 ≤ s ∧ s ≤ 4096) (fun s => (4096 - s).toNat) (fun r => 0 ≤ r ∧ r ≤ 4096) (by omega) (by simp) (by
      rintro i ⟨k1, k2⟩
      have e : imul 10 i = 10 * i := mul_ok (by omega)
      by_cases hi : 10 * i < B
      · left
        refine ⟨i + 1, ?_, ⟨by omega, by omega⟩, by omega⟩
        simp [e, hi, iadd, add_ok (a := i) (b := 1) (by omega)]
      · right
        exact ⟨i, by simp [e, hi], k1, k2⟩)
  rw [h5]
  exact ⟨r, rfl, h6⟩

theorem ref03_Right (g : TGeom) (w : BGeom g) : ∃ b, m_ref03_Right g = some b ∧ (b = true → Geo g ∧ 3 ≤ g.Open ∧ g.Soft ≤ 65536) := by
  obtain ⟨w1, w2, w3, w4, w5⟩ := w
  have w1 := wf_i64 w1
  have w3 := wf_i64 w3
  unfold m_ref03_Right
  simp only [jn_eq, let_eq, ceq_eq, cne_eq, clt_eq, cgt_eq, cge_eq, cond_dec]
  by_cases k1 : g.Conv < 2
  · exact ⟨false, by simp [k1], by simp⟩
  by_cases k2 : 64 < g.Conv
  · exact ⟨false, by simp [k1, k2], by simp⟩
  by_cases k3 : g.Seq < 6
  · exact ⟨false, by simp [k1, k2, k3], by simp⟩
  by_cases k4 : 64 < g.Seq
  · exact ⟨false, by simp [k1, k2, k3, k4], by simp⟩
  rw [show iadd g.Conv g.Seq = g.Conv + g.Seq from add_ok (by omega)]
  by_cases k5 : 64 < g.Conv + g.Seq
  · exact ⟨false, by simp [k1, k2, k3, k4, k5], by simp⟩
  by_cases k6 : g.Size < 8
  · exact ⟨false, by simp [k1, k2, k3, k4, k5, k6], by simp⟩
  by_cases k7 : 256 < g.Size
  · exact ⟨false, by simp [k1, k2, k3, k4, k5, k6, k7], by simp⟩
  have hg : Geo g := ⟨by omega, by omega, by omega, by omega, by omega⟩
  obtain ⟨n, hn, hn0, hn1⟩ := ref03_Pages g hg
  rw [hn]
  simp only [k1, k2, k3, k4, k5, k6, k7, if_false, bnd_some]
  by_cases k8 : g.Open < 3
  · exact ⟨false, by simp [k8], by simp⟩
  by_cases k9 : 65536 < g.Soft
  · exact ⟨false, by simp [k8, k9], by simp⟩
  · exact ⟨decide (iadd n 3 ≤ g.Soft), by simp [k8, k9], fun _ => ⟨hg, by omega, by omega⟩⟩

theorem geomZones (g : TGeom) (h : Geo g) : m_geom_Zones g = some (g.Conv + g.Seq) := by
  obtain ⟨h1, h2, h3, h4⟩ := h
  unfold m_geom_Zones
  rw [let_eq, show iadd g.Conv g.Seq = g.Conv + g.Seq from add_ok (by omega)]

def Sect (g : TGeom) (z : Int) : Int := if z < 0 then 0 else if g.Conv + g.Seq ≤ z then 0 else if z < g.Conv then g.Soft else g.Size
theorem geomSectors (g : TGeom) (h : Geo g) (z : Int) : m_geom_Sectors g z = some (Sect g z) := by
  unfold m_geom_Sectors Sect
  simp only [jn_eq, let_eq, clt_eq, cge_eq, cond_dec, geomZones g h, bnd_some]
  by_cases k1 : z < 0
  · simp [k1]
  by_cases k2 : g.Conv + g.Seq ≤ z
  · simp [k1, k2]
  by_cases k3 : z < g.Conv <;> simp [k1, k2, k3]
theorem ref03Sectors (g : TGeom) (h : Geo g) (z : Int) : m_ref03_Sectors g z = some (Sect g z) := by
  have e : iadd g.Conv g.Seq = g.Conv + g.Seq := by obtain ⟨h1, h2, h3, h4⟩ := h; exact add_ok (by omega)
  unfold m_ref03_Sectors Sect
  simp only [jn_eq, let_eq, clt_eq, cge_eq, cond_dec, e]
  repeat' split
  all_goals rfl

/-- How many zones are open. -/
def cnt (l : List TZone) : Int := (l.countP (fun y => decide (y.State = 1)) : Nat)
theorem cnt_take (l : List TZone) {i : Nat} (h : i < l.length) : (((l.take (i + 1)).countP (fun y => decide (y.State = 1)) : Nat) : Int) = ((l.take i).countP (fun y => decide (y.State = 1)) : Nat) + if l[i].State = 1 then 1 else 0 := by
  rw [List.take_succ_eq_append_getElem h, List.countP_append]
  simp only [List.countP_singleton, decide_eq_true_eq]
  split <;> simp
theorem zone_open (l : List TZone) (hl : l.length ≤ 1000) : m_zone_open l = some (cnt l) := by
  unfold m_zone_open
  simp only [let_eq]
  refine bnd_run (fun i => ((((l.take i).countP (fun y => decide (y.State = 1)) : Nat) : Int), (i : Int))) l.length (cnt l) (by omega) (by simp) ?_ ?_ rfl
  · intro i hi
    have h1 := cnt_take l hi
    have h2 := List.countP_le_length (p := fun y : TZone => decide (y.State = 1)) (l := l.take i)
    rw [List.length_take] at h2
    simp only [clt_eq, ln, cond_dec, ceq_eq]
    rw [if_pos (by omega), at?_nat, List.getElem?_eq_getElem hi, bnd_some]
    rw [show iadd (i : Int) 1 = (i : Int) + 1 from add_ok (by omega), show iadd ((List.countP (fun y : TZone => decide (y.State = 1)) (l.take i) : Nat) : Int) 1 = _ + 1 from add_ok (by omega)]
    by_cases k : l[i].State = 1
    · rw [if_pos k, h1, if_pos k]; simp
    · rw [if_neg k, h1, if_neg k]; simp
  · simp [ln, cnt]
theorem ref04_opened (l : List TZone) (hl : l.length ≤ 1000) : m_ref04_opened l = some (cnt l) := by
  have := zone_open l hl
  unfold m_zone_open at this
  unfold m_ref04_opened
  simp only [let_eq] at this ⊢
  exact this

/-- A right zone of a number. -/
structure Cell (g : TGeom) (i : Int) (y : TZone) : Prop where
  conv : i < g.Conv → y.State = 4 ∧ y.Point = 0
  seq : g.Conv ≤ i → (y.State = 0 ∧ y.Point = 0) ∨ (y.State = 1 ∧ 0 ≤ y.Point ∧ y.Point < g.Size) ∨ (y.State = 2 ∧ 0 < y.Point ∧ y.Point < g.Size) ∨ (y.State = 3 ∧ 0 ≤ y.Point ∧ y.Point ≤ g.Size)
/-- Right zones. -/
structure ZR (g : TGeom) (l : List TZone) : Prop where
  len : (l.length : Int) = g.Conv + g.Seq
  cell : ∀ (i : Nat) (h : i < l.length), Cell g i l[i]

/-- A loop that looks whether all are right. -/
theorem loop_all {step : Int → Option (Sum Int (Sum Unit Unit))} (n : Nat) (P : Nat → Prop) (hn : n < 1099511627776)
    (h1 : ∀ i, i < n → P i → step i = some (.inl ((i : Int) + 1))) (h2 : ∀ i, i < n → ¬ P i → step i = some (.inr (.inr ()))) (he : step n = some (.inr (.inl ()))) :
    (∃ q, loop step 0 = some q ∧ ((∀ i, i < n → P i) → q = .inl ()) ∧ ((¬ ∀ i, i < n → P i) → q = .inr ())) := by
  classical
  obtain ⟨q, h3, h4⟩ := loop_inv (σ := Int) (ρ := Sum Unit Unit) (s0 := 0) (step := step) (fun s => 0 ≤ s ∧ s ≤ n ∧ ∀ i : Nat, (i : Int) < s → P i) (fun s => (n - s).toNat)
    (fun q : Sum Unit Unit => ((∀ i, i < n → P i) → q = .inl ()) ∧ ((¬ ∀ i, i < n → P i) → q = .inr ())) ⟨by omega, by omega, fun i hi => by omega⟩ (by omega) (by
      rintro s ⟨k1, k2, k3⟩
      obtain ⟨i, rfl⟩ := Int.eq_ofNat_of_zero_le k1
      by_cases hi : i < n
      · by_cases hP : P i
        · left
          refine ⟨(i : Int) + 1, h1 i hi hP, ⟨by omega, by omega, fun j hj => ?_⟩, by omega⟩
          by_cases e : j = i
          · subst e; exact hP
          · exact k3 j (by omega)
        · right
          exact ⟨_, h2 i hi hP, fun h => absurd (h i hi) hP, fun _ => rfl⟩
      · right
        obtain rfl : i = n := by omega
        exact ⟨_, he, fun _ => rfl, fun h => absurd (fun j hj => k3 j (by omega)) h⟩)
  exact ⟨q, h3, h4⟩



theorem ref04_Right (g : TGeom) (hg : Geo g) (l : List TZone) (hl : l.length ≤ 1000) : ∃ b, m_ref04_Right g l = some b ∧ (b = true ↔ ZR g l ∧ cnt l ≤ g.Open) := by
  obtain ⟨g1, g2, g3, g4⟩ := id hg
  unfold m_ref04_Right
  simp only [jn_eq, let_eq, show iadd g.Conv g.Seq = g.Conv + g.Seq from add_ok (by omega), bnd_some, ref04_opened l hl, cne_eq, cgt_eq, cond_dec]
  by_cases k1 : ln l = g.Conv + g.Seq
  · rw [if_neg (by simpa using k1)]
    by_cases k2 : g.Open < cnt l
    · rw [if_pos k2]; exact ⟨false, rfl, by simp; intro h; omega⟩
    · rw [if_neg k2]
      refine Exists.elim (loop_all (step := fun s25 => Let (ln l) fun v26 => Let (clt s25 v26) fun b27 => bif b27 then (Bnd (at? l s25) fun y28 => Bnd (at? l s25) fun y34 => Let (clt s25 g.Conv) fun b40 => bif b40 then (Let (cne y28.State 4) fun b41 => bif b41 then (some (.inr (.inr ()))) else (Let (cne y34.Point 0) fun b42 => bif b42 then (some (.inr (.inr ()))) else (Let (iadd s25 1) fun v43 => some (.inl (v43))))) else (Let (clt y28.State 0) fun b41 => bif b41 then (some (.inr (.inr ()))) else (Let (cgt y28.State 3) fun b42 => bif b42 then (some (.inr (.inr ()))) else (Let (clt y34.Point 0) fun b43 => bif b43 then (some (.inr (.inr ()))) else (Let (cgt y34.Point g.Size) fun b44 => bif b44 then (some (.inr (.inr ()))) else (Let (ceq y28.State 0) fun b45 => bif b45 then (Let (cne y34.Point 0) fun b46 => bif b46 then (some (.inr (.inr ()))) else (Let (ceq y28.State 1) fun b47 => bif b47 then (Let (ceq y34.Point g.Size) fun b48 => bif b48 then (some (.inr (.inr ()))) else (Let (ceq y28.State 2) fun b49 => bif b49 then (Let (ceq y34.Point 0) fun b50 => bif b50 then (some (.inr (.inr ()))) else (Let (iadd s25 1) fun v51 => some (.inl (v51)))) else (Let (iadd s25 1) fun v50 => some (.inl (v50))))) else (Let (ceq y28.State 2) fun b48 => bif b48 then (Let (ceq y34.Point g.Size) fun b49 => bif b49 then (some (.inr (.inr ()))) else (Let (ceq y28.State 2) fun b50 => bif b50 then (Let (ceq y34.Point 0) fun b51 => bif b51 then (some (.inr (.inr ()))) else (Let (iadd s25 1) fun v52 => some (.inl (v52)))) else (Let (iadd s25 1) fun v51 => some (.inl (v51))))) else (Let (ceq y28.State 2) fun b49 => bif b49 then (Let (ceq y34.Point 0) fun b50 => bif b50 then (some (.inr (.inr ()))) else (Let (iadd s25 1) fun v51 => some (.inl (v51)))) else (Let (iadd s25 1) fun v50 => some (.inl (v50))))))) else (Let (ceq y28.State 1) fun b46 => bif b46 then (Let (ceq y34.Point g.Size) fun b47 => bif b47 then (some (.inr (.inr ()))) else (Let (ceq y28.State 2) fun b48 => bif b48 then (Let (ceq y34.Point 0) fun b49 => bif b49 then (some (.inr (.inr ()))) else (Let (iadd s25 1) fun v50 => some (.inl (v50)))) else (Let (iadd s25 1) fun v49 => some (.inl (v49))))) else (Let (ceq y28.State 2) fun b47 => bif b47 then (Let (ceq y34.Point g.Size) fun b48 => bif b48 then (some (.inr (.inr ()))) else (Let (ceq y28.State 2) fun b49 => bif b49 then (Let (ceq y34.Point 0) fun b50 => bif b50 then (some (.inr (.inr ()))) else (Let (iadd s25 1) fun v51 => some (.inl (v51)))) else (Let (iadd s25 1) fun v50 => some (.inl (v50))))) else (Let (ceq y28.State 2) fun b48 => bif b48 then (Let (ceq y34.Point 0) fun b49 => bif b49 then (some (.inr (.inr ()))) else (Let (iadd s25 1) fun v50 => some (.inl (v50)))) else (Let (iadd s25 1) fun v49 => some (.inl (v49)))))))))))) else (some (.inr (.inl ())))) l.length (fun i => ∀ h : i < l.length, Cell g i l[i]) (by omega) ?_ ?_ ?_) ?_
      · intro i hi hP
        have hc := hP hi
        obtain ⟨c1, c2⟩ := hc
        simp only [let_eq, clt_eq, cge_eq, cgt_eq, cne_eq, cond_dec, ln, at?_nat, List.getElem?_eq_getElem hi, bnd_some, ceq_eq]
        rw [if_pos (by omega), show iadd (i : Int) 1 = (i : Int) + 1 from add_ok (by omega)]
        by_cases e : (i : Int) < g.Conv
        · have h1 := c1 e
          clear c1 c2 hP
          revert h1
          generalize l[i].State = s
          generalize l[i].Point = p
          rintro ⟨rfl, rfl⟩
          simp [e]
        · have h1 := c2 (by omega)
          clear c1 c2 hP
          revert h1
          generalize l[i].State = s
          generalize l[i].Point = p
          intro h1
          rw [if_neg e]
          rcases h1 with ⟨rfl, rfl⟩ | ⟨rfl, h, h'⟩ | ⟨rfl, h, h'⟩ | ⟨rfl, h, h'⟩
          · simp [show ¬ g.Size < 0 by omega]
          · simp [show ¬ p < 0 by omega, show ¬ g.Size < p by omega, show ¬ p = g.Size by omega]
          · simp [show ¬ p < 0 by omega, show ¬ g.Size < p by omega, show ¬ p = g.Size by omega, show ¬ p = 0 by omega]
          · simp [show ¬ p < 0 by omega, show ¬ g.Size < p by omega]
      · intro i hi hP
        have hc : ¬ Cell g i l[i] := fun h => hP (fun _ => h)
        have h1 : (i : Int) < g.Conv → ¬ (l[i].State = 4 ∧ l[i].Point = 0) := fun h h' => hc ⟨fun _ => h', fun h' => by omega⟩
        have h2 : g.Conv ≤ (i : Int) → ¬ ((l[i].State = 0 ∧ l[i].Point = 0) ∨ (l[i].State = 1 ∧ 0 ≤ l[i].Point ∧ l[i].Point < g.Size) ∨ (l[i].State = 2 ∧ 0 < l[i].Point ∧ l[i].Point < g.Size) ∨ (l[i].State = 3 ∧ 0 ≤ l[i].Point ∧ l[i].Point ≤ g.Size)) := fun h h' => hc ⟨fun _ => by omega, fun _ => h'⟩
        clear hc hP
        simp only [let_eq, clt_eq, cge_eq, cgt_eq, cne_eq, cond_dec, ln, at?_nat, List.getElem?_eq_getElem hi, bnd_some, ceq_eq]
        rw [if_pos (by omega), show iadd (i : Int) 1 = (i : Int) + 1 from add_ok (by omega)]
        by_cases e : (i : Int) < g.Conv
        · have h3 := h1 e
          clear h1 h2
          revert h3
          generalize l[i].State = s
          generalize l[i].Point = p
          intro h3
          rw [if_pos e]
          repeat' split
          all_goals first | rfl | (exfalso; omega)
        · have h3 := h2 (by omega)
          clear h1 h2
          revert h3
          generalize l[i].State = s
          generalize l[i].Point = p
          intro h3
          rw [if_neg e]
          by_cases a1 : s < 0
          · simp [a1]
          by_cases a2 : 3 < s
          · simp [a1, a2]
          by_cases a3 : p < 0
          · simp [a1, a2, a3]
          by_cases a4 : g.Size < p
          · simp [a1, a2, a3, a4]
          rw [if_neg a1, if_neg a2, if_neg a3, if_neg a4]
          by_cases b0 : s = 0
          · subst b0
            simp [show ¬ p = 0 by omega]
          by_cases b1 : s = 1
          · subst b1
            simp [show p = g.Size by omega]
          by_cases b2 : s = 2
          · subst b2
            by_cases c0 : p = g.Size
            · simp [c0]
            · simp [c0, show p = 0 by omega, show ¬ 0 = g.Size by omega]
          · exfalso; omega
      · simp [ln]
      · rintro q ⟨hq, q1, q2⟩
        refine ⟨match q with | .inl _ => true | .inr _ => false, ?_, ?_⟩
        · simp only [let_eq] at hq ⊢
          simp only [clt_eq, cge_eq, cgt_eq, cne_eq, ceq_eq, cond_dec] at hq ⊢
          rw [hq]
          cases q <;> rfl
        · by_cases ha : ∀ i, i < l.length → ∀ h : i < l.length, Cell g i l[i]
          · obtain rfl := q1 ha; exact ⟨fun _ => ⟨⟨k1, fun i h => ha i h h⟩, by omega⟩, fun _ => rfl⟩
          · obtain rfl := q2 ha; exact ⟨fun h => (by cases h), fun h => absurd (fun i _ h' => h.1.cell i h') ha⟩
  · rw [if_pos (by simpa using k1)]
    exact ⟨false, rfl, by simp; intro h; exact absurd h.len k1⟩

def newZ (g : TGeom) : List TZone := List.replicate g.Conv.toNat ⟨4, 0⟩ ++ List.replicate g.Seq.toNat ⟨0, 0⟩
theorem newZ_len (g : TGeom) (hg : Geo g) : (newZ g).length ≤ 1000 := by
  obtain ⟨g1, g2, g3, g4⟩ := hg
  simp [newZ]; omega
theorem zone_New (g : TGeom) (hg : Geo g) : m_zone_New g = some (newZ g) := by
  obtain ⟨g1, g2, g3, g4⟩ := id hg
  unfold m_zone_New
  rw [geomZones g hg, bnd_some]
  have hm : mk? 16 (TZone.mk 0 0) (g.Conv + g.Seq) (g.Conv + g.Seq) = some (List.replicate (g.Conv.toNat + g.Seq.toNat) (TZone.mk 0 0)) := by
    unfold mk?
    rw [if_pos (by omega), show (g.Conv + g.Seq).toNat = g.Conv.toNat + g.Seq.toNat by omega]
  rw [hm, bnd_some]
  refine bnd_run (fun i => ((i : Int), List.replicate i (TZone.mk 4 0) ++ List.replicate (g.Conv.toNat + g.Seq.toNat - i) (TZone.mk 0 0))) g.Conv.toNat (newZ g) (by omega) (by simp) ?_ ?_ ?_
  · intro i hi
    obtain ⟨k, hk⟩ : ∃ k, g.Conv.toNat + g.Seq.toNat - i = k + 1 := ⟨g.Conv.toNat + g.Seq.toNat - i - 1, by omega⟩
    have hk2 : g.Conv.toNat + g.Seq.toNat - (i + 1) = k := by omega
    simp only [let_eq, clt_eq, cond_dec]
    rw [if_pos (by omega), hk, hk2, at?_nat, List.getElem?_append_right (by simp), show iadd (i : Int) 1 = (i : Int) + 1 from add_ok (by omega)]
    rw [List.replicate_succ' (n := i), List.replicate_succ (n := k)]
    simp [set']
  · simp only [let_eq, clt_eq, cond_dec]
    rw [if_neg (by omega)]
    simp [newZ]
  · rfl
theorem ref04_New (g : TGeom) (hg : Geo g) : m_ref04_New g = some (newZ g) := by
  obtain ⟨g1, g2, g3, g4⟩ := id hg
  unfold m_ref04_New
  refine bnd_run (fun i => ((i : Int), (newZ g).take i)) (newZ g).length (newZ g) (by have := newZ_len g hg; omega) (by simp) ?_ ?_ rfl
  · intro i hi
    have hi' : i < g.Conv.toNat + g.Seq.toNat := by simpa [newZ] using hi
    rw [List.take_succ_eq_append_getElem hi]
    simp only [let_eq, clt_eq, cond_dec]
    rw [show iadd g.Conv g.Seq = g.Conv + g.Seq from add_ok (by omega), if_pos (by omega), show iadd (i : Int) 1 = (i : Int) + 1 from add_ok (by omega)]
    have hap : ∀ z : TZone, app? 16 ((newZ g).take i) [z] = some ((newZ g).take i ++ [z]) := fun z => app_ok (by simp; omega)
    rw [hap, hap]
    by_cases k : (i : Int) < g.Conv
    · rw [if_pos k]
      have : (newZ g)[i] = ⟨4, 0⟩ := by simp only [newZ]; rw [List.getElem_append_left (by simp; omega)]; simp
      rw [this]; simp
    · rw [if_neg k]
      have : (newZ g)[i] = ⟨0, 0⟩ := by simp only [newZ]; rw [List.getElem_append_right (by simp; omega)]; simp
      rw [this]; simp
  · simp only [let_eq, clt_eq, cond_dec]
    rw [show iadd g.Conv g.Seq = g.Conv + g.Seq from add_ok (by omega), if_neg (by simp [newZ]; omega)]
    simp


theorem slices_Clone (l : List TZone) (hl : l.length ≤ 1000) : m_slices_Clone l = some l := by
  unfold m_slices_Clone
  rw [app_ok (by simp; omega)]; simp
theorem ref04_with (l : List TZone) (hl : l.length ≤ 1000) (z : Int) (h0 : 0 ≤ z) (h1 : z < l.length) (y : TZone) : m_ref04_with l z y = some (l.set z.toNat y) := by
  unfold m_ref04_with
  rw [app_ok (by simp; omega)]
  obtain ⟨i, rfl⟩ := Int.eq_ofNat_of_zero_le h0
  simp [at?_nat, List.getElem?_eq_getElem (show i < l.length by omega), set']
theorem ZR.small {g : TGeom} {l : List TZone} (hg : Geo g) (h : ZR g l) : l.length ≤ 1000 := by
  have := h.len; have := hg.cs; omega
theorem ZR.at {g : TGeom} {l : List TZone} (h : ZR g l) {z : Int} (h0 : 0 ≤ z) (h1 : z < g.Conv + g.Seq) : ∃ y, at? l z = some y ∧ Cell g z y ∧ z < l.length ∧ l[z.toNat]? = some y := by
  obtain ⟨i, rfl⟩ := Int.eq_ofNat_of_zero_le h0
  have hi : i < l.length := by have := h.len; omega
  refine ⟨l[i], by rw [at?_nat, List.getElem?_eq_getElem hi], h.cell i hi, by omega, by simp [List.getElem?_eq_getElem hi]⟩
theorem Sect.inn {g : TGeom} {z : Int} (h : Sect g z ≠ 0) : 0 ≤ z ∧ z < g.Conv + g.Seq := by
  unfold Sect at h
  split at h
  · exact absurd rfl h
  split at h
  · exact absurd rfl h
  · omega
theorem Sect.seq {g : TGeom} {z : Int} (h : g.Conv ≤ z) (h1 : z < g.Conv + g.Seq) (hg : Geo g) : Sect g z = g.Size := by
  have := hg.c
  unfold Sect
  rw [if_neg (by omega), if_neg (by omega), if_neg (by omega)]
theorem at?_set {l : List TZone} {z : Int} {y : TZone} (h0 : 0 ≤ z) (h1 : z < l.length) : at? (l.set z.toNat y) z = some y := by
  unfold at?
  rw [if_pos h0, List.getElem?_set_self (by omega)]
theorem zone_there (g : TGeom) (hg : Geo g) (a : TAt) : m_zone_there g a = some (decide (0 ≤ a.Off ∧ a.Off < Sect g a.Zone)) := by
  unfold m_zone_there
  simp only [let_eq, cge_eq, clt_eq, cond_dec, geomSectors g hg, bnd_some]
  by_cases h : 0 ≤ a.Off <;> simp [h]
theorem zone_sequential (g : TGeom) (hg : Geo g) (z : Int) : m_zone_sequential g z = some (if Sect g z = 0 then 6 else if z < g.Conv then 3 else 0) := by
  unfold m_zone_sequential
  simp only [let_eq, ceq_eq, clt_eq, cond_dec, geomSectors g hg, bnd_some]
  by_cases h : Sect g z = 0
  · simp [h]
  · by_cases h2 : z < g.Conv <;> simp [h, h2]

/-- What is asked of zones, by kind. -/
def m_law04_act (g : TGeom) (l : List TZone) (k : Int) (a : TAt) : Option (List TZone × Int) :=
  Let (ceq k 0) fun b => bif b then m_zone_Write g l a else (Let (ceq k 2) fun b => bif b then m_zone_Reset g l a.Zone else (Let (ceq k 3) fun b => bif b then m_zone_Finish g l a.Zone else none))
/-- What both answer. -/
def Both (g : TGeom) (l : List TZone) (k : Int) (a : TAt) : Prop := ∃ m e, m_law04_act g l k a = some (m, e) ∧ m_ref04_Act g l k a = some (m, e) ∧ m.length = l.length

theorem act0 (g : TGeom) (hg : Geo g) (l : List TZone) (h : ZR g l) (a : TAt) : Both g l 0 a := by
  have hl := h.small hg
  unfold Both m_law04_act m_zone_Write m_ref04_Act
  simp only [jn_eq, let_eq, ceq_eq, cne_eq, clt_eq, cgt_eq, cge_eq, cle_eq, cond_dec, slices_Clone l hl, zone_there g hg, bnd_some, ref03Sectors g hg, zone_open l hl, ref04_opened l hl]
  by_cases ht : 0 ≤ a.Off ∧ a.Off < Sect g a.Zone
  · obtain ⟨z0, z1⟩ := Sect.inn (g := g) (z := a.Zone) (by omega)
    obtain ⟨y, hy, hc, hz, _⟩ := h.at z0 z1
    obtain ⟨c1, c2⟩ := hc
    simp only [hy, bnd_some, show ¬ Sect g a.Zone = 0 by omega, show ¬ a.Off < 0 by omega, show ¬ Sect g a.Zone ≤ a.Off by omega, ht, and_self, decide_true, Bool.not_true, cond_false, if_false, if_true, show ¬ (5 : Int) < 0 by decide, show ¬ (0 : Int) < 0 by decide, show (0 : Int) ≤ 1 by decide]
    by_cases k4 : a.Zone < g.Conv
    · obtain ⟨c3, c4⟩ := c1 k4
      simp only [c3, k4, if_true]
      exact ⟨l, 0, rfl, rfl, rfl⟩
    · have c3 := c2 (by omega)
      have hS := Sect.seq (g := g) (z := a.Zone) (by omega) z1 hg
      have hn4 : ¬ y.State = 4 := by omega
      simp only [k4, hn4, if_false, show ¬ (0 : Int) = 1 by decide, show ¬ (0 : Int) = 2 by decide, show ¬ (0 : Int) = 5 by decide, show ¬ (0 : Int) = 3 by decide, cond_false]
      by_cases k3 : y.State = 3
      · simp only [k3, if_true]; exact ⟨l, 3, rfl, rfl, rfl⟩
      simp only [k3, if_false]
      by_cases kp : a.Off = y.Point
      · have hz4 := hg.z
        have e1 : iadd y.Point 1 = y.Point + 1 := add_ok (by omega)
        simp only [kp, ne_eq, not_true_eq_false, if_false, set', at?_set z0 hz, bnd_some, List.set_set, e1, ref04_with l hl a.Zone z0 hz, at?_set z0 hz]
        by_cases k1 : y.State = 1
        · simp only [k1, not_true_eq_false, if_false]
          by_cases kf : y.Point + 1 = g.Size
          · simp only [kf, if_true]; exact ⟨_, 0, rfl, rfl, by simp⟩
          · simp only [kf, if_false]; exact ⟨_, 0, rfl, rfl, by simp⟩
        · simp only [k1, not_false_eq_true, if_true]
          by_cases ko : g.Open ≤ cnt l
          · simp only [ko, if_true]; exact ⟨_, _, rfl, rfl, rfl⟩
          · simp only [ko, if_false]
            by_cases kf : y.Point + 1 = g.Size
            · simp only [kf, if_true]; exact ⟨_, 0, rfl, rfl, by simp⟩
            · simp only [kf, if_false]; exact ⟨_, 0, rfl, rfl, by simp⟩
      · simp only [kp, ne_eq, not_false_eq_true, if_true]
        exact ⟨_, _, rfl, rfl, rfl⟩
  · refine ⟨l, 6, by simp [ht], ?_, rfl⟩
    by_cases k1 : Sect g a.Zone = 0
    · simp [k1]
    by_cases k2 : a.Off < 0
    · simp [k1, k2]
    · simp [k1, k2, show Sect g a.Zone ≤ a.Off by omega]

theorem actS (g : TGeom) (hg : Geo g) (l : List TZone) (h : ZR g l) (k : Int) (hk : 2 ≤ k ∧ k ≤ 3) (a : TAt) : Both g l k a := by
  have hl := h.small hg
  have e : k = 2 ∨ k = 3 := by omega
  unfold Both m_law04_act m_zone_Reset m_zone_Finish m_ref04_Act
  simp only [jn_eq, let_eq, ceq_eq, cne_eq, clt_eq, cgt_eq, cge_eq, cle_eq, cond_dec, slices_Clone l hl, zone_sequential g hg, bnd_some, ref03Sectors g hg, zone_open l hl, ref04_opened l hl]
  by_cases hS : Sect g a.Zone = 0
  · refine ⟨l, 6, ?_, ?_, rfl⟩ <;> rcases e with rfl | rfl <;> simp [hS]
  obtain ⟨z0, z1⟩ := Sect.inn hS
  obtain ⟨y, hy, hc, hz, hyl⟩ := h.at z0 z1
  obtain ⟨c1, c2⟩ := hc
  simp only [hy, bnd_some, hS, if_false, show ¬ k ≤ 1 by omega, show ¬ k = 0 by omega, show ¬ k = 1 by omega, show ¬ 5 < k by omega, show ¬ k < 0 by omega]
  by_cases k4 : a.Zone < g.Conv
  · refine ⟨l, 3, ?_, ?_, rfl⟩ <;> rcases e with rfl | rfl <;> simp [k4]
  have c3 := c2 (by omega)
  simp only [k4, if_false, ne_eq, not_true_eq_false, decide_false, set', bnd_some, ref04_with l hl a.Zone z0 hz, cond_false]
  rcases e with rfl | rfl
  · exact ⟨_, 0, by simp; rfl, by simp, by simp⟩
  · by_cases k3 : y.State = 3
    · exact ⟨l, 3, by simp [k3], by simp [k3], rfl⟩
    · exact ⟨_, 0, by simp [k3]; rfl, by simp [k3], by simp⟩

theorem lenq_ok {α β : Type} {a : List α} {b : List β} (h : a.length = b.length) : lenq a b = some () := by simp [lenq, h]
def pz (y : TZone) : TZone := if y.State = 1 then (if y.Point = 0 then ⟨0, y.Point⟩ else ⟨2, y.Point⟩) else y
theorem zone_Power (l : List TZone) (hl : l.length ≤ 1000) : m_zone_Power l = some (l.map pz) := by
  unfold m_zone_Power
  simp only [let_eq, slices_Clone l hl, bnd_some]
  refine bnd_run (fun i => ((i : Int), (l.take i).map pz ++ l.drop i)) l.length (l.map pz) (by omega) (by simp) ?_ ?_ rfl
  · intro i hi
    have hd : l.drop i = l[i] :: l.drop (i + 1) := List.drop_eq_getElem_cons hi
    have ht : (l.take (i + 1)).map pz = (l.take i).map pz ++ [pz l[i]] := by rw [List.take_succ_eq_append_getElem hi, List.map_append]; rfl
    have hlen : ((l.take i).map pz).length = i := by simp; omega
    have hat : ∀ (y : TZone) (t : List TZone), at? ((l.take i).map pz ++ y :: t) (i : Int) = some y := by
      intro y t; rw [at?_nat, List.getElem?_append_right (by omega), hlen]; simp
    have hset : ∀ (y z : TZone) (t : List TZone), ((l.take i).map pz ++ y :: t).set i z = (l.take i).map pz ++ z :: t := by
      intro y z t
      rw [List.set_append_right _ _ (by omega), hlen]; simp
    simp only [clt_eq, ln, cond_dec, ceq_eq]
    rw [if_pos (by omega), show iadd (i : Int) 1 = (i : Int) + 1 from add_ok (by omega), hd, hat, ht]
    simp only [bnd_some]
    unfold m_zone_shut
    by_cases k1 : l[i].State = 1
    · simp only [k1, if_true, let_eq, set', Int.toNat_natCast, hset, hat, bnd_some, ceq_eq, cond_dec]
      by_cases k0 : l[i].Point = 0
      · have hp : pz l[i] = ⟨0, l[i].Point⟩ := by simp [pz, k1, k0]
        simp only [k0, if_true, hp, bnd_some]
        rw [lenq_ok (by simp; omega), bnd_some]; simp
      · have hp : pz l[i] = ⟨2, l[i].Point⟩ := by simp [pz, k1, k0]
        simp only [k0, if_false, hp, bnd_some]
        rw [lenq_ok (by simp; omega), bnd_some]; simp
    · have hp : pz l[i] = l[i] := by simp [pz, k1]
      simp [k1, hp, -List.map_take]
  · simp [ln]

end Go.AX

namespace Go.AX
set_option autoImplicit false
set_option linter.unusedVariables false
set_option linter.unusedSimpArgs false
set_option maxRecDepth 4000
set_option maxHeartbeats 4000000

/-! #### maps -/
section
variable {α β : Type} {f : α → List D}
/-- Keys are told apart by their data. -/
def Inj (f : α → List D) : Prop := ∀ a b, sameL (f a) (f b) = true ↔ a = b
theorem inj_at : Inj eAt := by
  rintro ⟨a, b⟩ ⟨c, d⟩
  simp [eAt, sameL, D.same]
theorem inj_int (k : IntKind) : Inj (eI k) := by
  intro a b; simp [eI, sameL, D.same]
theorem gGet_set (hf : Inj f) (m : List (α × β)) (k k' : α) (v : β) [Decidable (k' = k)] : gGet f (gSet f m k v) k' = if k' = k then some v else gGet f m k' := by
  induction m with
  | nil =>
    simp only [gSet, gGet]
    by_cases h : k' = k
    · rw [if_pos ((hf _ _).2 h), if_pos h]
    · rw [if_neg (fun q => h ((hf _ _).1 q)), if_neg h]
  | cons p t ih =>
    simp only [gSet]
    by_cases h1 : k = p.1
    · rw [if_pos ((hf _ _).2 h1)]
      simp only [gGet]
      by_cases h : k' = k
      · rw [if_pos ((hf _ _).2 h), if_pos h]
      · rw [if_neg (fun q => h ((hf _ _).1 q)), if_neg h, if_neg (fun q => h (h1 ▸ (hf _ _).1 q))]
    · rw [if_neg (fun q => h1 ((hf _ _).1 q))]
      simp only [gGet]
      by_cases h2 : k' = p.1
      · have h3 : ¬ k' = k := fun q => h1 (q ▸ h2)
        rw [if_pos ((hf _ _).2 h2), if_neg h3]
        rw [if_pos ((hf _ _).2 h2)]
      · rw [if_neg (fun q => h2 ((hf _ _).1 q)), ih, if_neg (fun q => h2 ((hf _ _).1 q))]
theorem gNod_set (hf : Inj f) (k : α) (v : β) : ∀ (m : List (α × β)), gNod f m = true → gNod f (gSet f m k v) = true
  | [], _ => by simp [gSet, gNod]
  | p :: t, h => by
    simp only [gNod, Bool.and_eq_true, List.all_eq_true, Bool.not_eq_true'] at h
    simp only [gSet]
    by_cases h1 : k = p.1
    · rw [if_pos ((hf _ _).2 h1)]
      simp only [gNod, Bool.and_eq_true, List.all_eq_true, Bool.not_eq_true']
      exact ⟨fun q hq => by rw [h1]; exact h.1 q hq, h.2⟩
    · rw [if_neg (fun q => h1 ((hf _ _).1 q))]
      simp only [gNod, Bool.and_eq_true, List.all_eq_true, Bool.not_eq_true']
      refine ⟨?_, gNod_set hf k v t h.2⟩
      have mem : ∀ (t : List (α × β)) q, q ∈ gSet f t k v → q.1 = k ∨ q ∈ t := by
        intro t
        induction t with
        | nil => intro q hq; simp [gSet] at hq; exact .inl (by rw [hq])
        | cons r s ih =>
          intro q hq
          simp only [gSet] at hq
          split at hq
          · rcases List.mem_cons.1 hq with e | e
            · exact .inl (by rw [e])
            · exact .inr (List.mem_cons_of_mem _ e)
          · rcases List.mem_cons.1 hq with e | e
            · exact .inr (by rw [e]; exact List.mem_cons_self)
            · rcases ih q e with e | e
              · exact .inl e
              · exact .inr (List.mem_cons_of_mem _ e)
      intro q hq
      rcases mem t q hq with e | e
      · cases hs : sameL (f p.1) (f q.1) with
        | false => rfl
        | true => exact absurd (((hf _ _).1 hs).trans e).symm h1
      · exact h.1 q e
theorem gGet_del (hf : Inj f) (k k' : α) [Decidable (k' = k)] : ∀ (m : List (α × β)), gNod f m = true → gGet f (gDel f m k) k' = if k' = k then none else gGet f m k'
  | [], _ => by simp [gDel, gGet]
  | p :: t, h => by
    simp only [gNod, Bool.and_eq_true, List.all_eq_true, Bool.not_eq_true'] at h
    have none_of : ∀ t : List (α × β), (∀ q ∈ t, sameL (f p.1) (f q.1) = false) → gGet f t p.1 = none := by
      intro t
      induction t with
      | nil => intro _; rfl
      | cons q s ih =>
        intro h
        simp only [gGet]
        rw [if_neg (by rw [h q List.mem_cons_self]; exact Bool.false_ne_true)]
        exact ih fun r hr => h r (List.mem_cons_of_mem _ hr)
    simp only [gDel]
    by_cases h1 : k = p.1
    · rw [if_pos ((hf _ _).2 h1)]
      by_cases h2 : k' = k
      · rw [if_pos h2, h2, h1]; exact none_of t h.1
      · rw [if_neg h2]
        simp only [gGet]
        rw [if_neg (fun q => h2 (h1 ▸ (hf _ _).1 q))]
    · rw [if_neg (fun q => h1 ((hf _ _).1 q))]
      simp only [gGet]
      by_cases h2 : k' = p.1
      · have h3 : ¬ k' = k := fun q => h1 (q ▸ h2)
        rw [if_pos ((hf _ _).2 h2), if_neg h3, if_pos ((hf _ _).2 h2)]
      · rw [if_neg (fun q => h2 ((hf _ _).1 q)), gGet_del hf k k' t h.2, if_neg (fun q => h2 ((hf _ _).1 q))]
theorem gDel_sub (k : α) : ∀ (m : List (α × β)), (gDel f m k).Sublist m
  | [] => .slnil
  | p :: t => by
    simp only [gDel]
    split
    · exact List.sublist_cons_self _ _
    · exact (gDel_sub k t).cons_cons _
/-- maps.DeleteFunc. -/
theorem mFilt_tot {g : α → β → Option Bool} {q : α → β → Bool} (h : ∀ a b, g a b = some (q a b)) : ∀ (m : List (α × β)), mFilt g m = some (m.filter fun p => !q p.1 p.2)
  | [] => rfl
  | p :: t => by
    simp only [mFilt, h, mFilt_tot h t]
    cases hq : q p.1 p.2 <;> simp [hq]
theorem gGet_filter (hf : Inj f) (q : α → Bool) (k : α) : ∀ (m : List (α × β)), gGet f (m.filter fun p => !q p.1) k = if q k then none else gGet f m k
  | [] => by simp [gGet]
  | p :: t => by
    by_cases hp : q p.1 = true
    · have : (p :: t).filter (fun p => !q p.1) = t.filter fun p => !q p.1 := by simp [hp]
      rw [this, gGet_filter hf q k t]
      simp only [gGet]
      by_cases h : k = p.1
      · subst h; simp [hp]
      · rw [if_neg (fun r => h ((hf _ _).1 r))]
    · have : (p :: t).filter (fun p => !q p.1) = p :: t.filter fun p => !q p.1 := by simp [hp]
      rw [this]
      simp only [gGet]
      by_cases h : k = p.1
      · subst h; simp [hp, (hf p.1 p.1).2 rfl]
      · rw [if_neg (fun r => h ((hf _ _).1 r)), gGet_filter hf q k t, if_neg (fun r => h ((hf _ _).1 r))]
end
end Go.AX

namespace Go.AX
set_option autoImplicit false
set_option linter.unusedVariables false
set_option linter.unusedSimpArgs false
set_option maxRecDepth 4000
set_option maxHeartbeats 4000000

section
variable {α : Type}
def idxF (pr : α → Option Bool) (x0 : List α) : Option Int :=
  Let (ln x0) fun v7 => Bnd (loop (σ := Int) (ρ := Sum Unit Int) (fun s18 => Let (clt s18 v7) fun b19 => bif b19 then (Bnd (at? x0 s18) fun y20 => Bnd (pr y20) fun r29 => bif r29 then (some (.inr (.inr (s18)))) else (Let (iadd s18 1) fun v32 => some (.inl (v32)))) else (some (.inr (.inl ())))) (0)) fun q8 => (match q8 with | (.inl q8') => some (-1) | (.inr q8'') => some q8'')
def delF (z : α) (pr : α → Option Bool) (x0 : List α) : Option (List α) :=
  Bnd (idxF pr x0) fun r11 => Let (ceq r11 (-1)) fun b14 => bif b14 then (some x0) else (Let (iadd r11 1) fun v15 => Bnd (loop (σ := Int × Int × (List α)) (ρ := (Int × (List α))) (fun s26 => Let (ln s26.2.2) fun v32 => Let (clt s26.2.1 v32) fun b33 => bif b33 then (Bnd (at? s26.2.2 s26.2.1) fun y34 => Bnd (pr y34) fun r43 => Let (!r43) fun b46 => bif b46 then (Bnd (at? s26.2.2 s26.1) fun y47 => Let (set' s26.2.2 s26.1 y34) fun l56 => Let (iadd s26.1 1) fun v59 => Let (iadd s26.2.1 1) fun v60 => some (.inl (v59, v60, l56))) else (Let (iadd s26.2.1 1) fun v47 => some (.inl (s26.1, v47, s26.2.2)))) else (some (.inr (s26.1, s26.2.2)))) (r11, v15, x0)) fun q16 => Bnd (from1? q16.2 q16.1) fun l37 => Let (overL q16.2 q16.1.toNat (List.replicate (l37.length) z)) fun l44 => Bnd (upto? l44 q16.1) fun l47 => some l47)

theorem idxF_eq {pr : α → Option Bool} {q : α → Bool} (hq : ∀ y, pr y = some (q y)) (x : List α) (hl : x.length ≤ 1000000) :
    (idxF pr x = some (-1) ∧ ∀ y ∈ x, q y = false) ∨ ∃ i : Nat, idxF pr x = some (i : Int) ∧ ∃ h : i < x.length, q x[i] = true ∧ ∀ y ∈ x.take i, q y = false := by
  unfold idxF
  simp only [let_eq]
  obtain ⟨r, h1, h2⟩ := loop_inv (σ := Int) (ρ := Sum Unit Int) (s0 := 0) (step := fun s18 => bif clt s18 (ln x) then (Bnd (at? x s18) fun y20 => Bnd (pr y20) fun r29 => bif r29 then (some (.inr (.inr (s18)))) else some (.inl (iadd s18 1))) else (some (.inr (.inl ()))))
    (fun s => 0 ≤ s ∧ s ≤ x.length ∧ ∀ y ∈ x.take s.toNat, q y = false) (fun s => (x.length - s).toNat)
    (fun r => (r = .inl () ∧ ∀ y ∈ x, q y = false) ∨ ∃ i : Nat, r = .inr (i : Int) ∧ ∃ h : i < x.length, q x[i] = true ∧ ∀ y ∈ x.take i, q y = false)
    ⟨by omega, by omega, by simp⟩ (by omega) (by
      rintro s ⟨k1, k2, k3⟩
      obtain ⟨i, rfl⟩ := Int.eq_ofNat_of_zero_le k1
      simp only [Int.toNat_natCast] at k3
      by_cases hi : i < x.length
      · simp only [clt_eq, ln, cond_dec]
        rw [if_pos (by omega), at?_nat, List.getElem?_eq_getElem hi, bnd_some, hq, bnd_some]
        cases hc : q x[i] with
        | true => exact .inr ⟨_, rfl, .inr ⟨i, rfl, hi, hc, k3⟩⟩
        | false =>
          refine .inl ⟨(i : Int) + 1, by rw [cond_false, show iadd (i : Int) 1 = (i : Int) + 1 from add_ok (by omega)], ⟨by omega, by omega, ?_⟩, by omega⟩
          rw [show ((i : Int) + 1).toNat = i + 1 by omega, List.take_succ_eq_append_getElem hi]
          intro y hy
          rcases List.mem_append.1 hy with e | e
          · exact k3 y e
          · rw [List.mem_singleton.1 e]; exact hc
      · refine .inr ⟨.inl (), by simp only [clt_eq, ln, cond_dec]; rw [if_neg (by omega)], .inl ⟨rfl, ?_⟩⟩
        rw [List.take_of_length_le (by omega)] at k3; exact k3)
  rw [h1, bnd_some]
  rcases h2 with ⟨rfl, h3⟩ | ⟨i, rfl, h3⟩
  · exact .inl ⟨rfl, h3⟩
  · exact .inr ⟨i, rfl, h3⟩

theorem delF_eq {pr : α → Option Bool} {q : α → Bool} (hq : ∀ y, pr y = some (q y)) (z : α) (x : List α) (hl : x.length ≤ 1000000) : delF z pr x = some (x.filter fun y => !q y) := by
  unfold delF
  rcases idxF_eq hq x hl with ⟨h1, h2⟩ | ⟨i0, h1, hi0, h2, h3⟩
  · rw [h1, bnd_some]
    simp only [let_eq, ceq_eq, cond_dec, if_true]
    rw [List.filter_eq_self.2 (fun y hy => by rw [h2 y hy]; rfl)]
  · rw [h1, bnd_some]
    simp only [let_eq, ceq_eq, cond_dec]
    rw [if_neg (by omega), show iadd (i0 : Int) 1 = ((i0 + 1 : Nat) : Int) from (add_ok (by omega)).trans (by omega)]
    obtain ⟨⟨a, L⟩, h4, h5, i, e1, e2, e3⟩ := loop_inv (σ := Int × Int × List α) (ρ := Int × List α) (s0 := ((i0 : Int), ((i0 + 1 : Nat) : Int), x)) (step := fun s26 => bif clt s26.2.1 (ln s26.2.2) then (Bnd (at? s26.2.2 s26.2.1) fun y34 => Bnd (pr y34) fun r43 => bif !r43 then (Bnd (at? s26.2.2 s26.1) fun y47 => some (.inl (iadd s26.1 1, iadd s26.2.1 1, set' s26.2.2 s26.1 y34))) else some (.inl (s26.1, iadd s26.2.1 1, s26.2.2))) else (some (.inr (s26.1, s26.2.2))))
      (fun s => ∃ i j : Nat, s.1 = i ∧ s.2.1 = j ∧ i < j ∧ j ≤ x.length ∧ s.2.2.length = x.length ∧ s.2.2.take i = (x.take j).filter (fun y => !q y) ∧ s.2.2.drop j = x.drop j) (fun s => (x.length - s.2.1).toNat)
      (fun r => r.2.length = x.length ∧ ∃ i : Nat, r.1 = i ∧ i < x.length ∧ r.2.take i = x.filter (fun y => !q y))
      (by
        refine ⟨i0, i0 + 1, rfl, rfl, by omega, by omega, rfl, ?_, rfl⟩
        rw [List.take_succ_eq_append_getElem hi0, List.filter_append, List.filter_eq_self.2 (fun y hy => by rw [h3 y hy]; rfl)]
        simp [h2])
      (by simp only; omega) (by
        rintro ⟨a, b, L⟩ ⟨i, j, rfl, rfl, k1, k2, k3, k4, k5⟩
        simp only at k3 k4 k5
        by_cases hj : j < x.length
        · have hjL : j < L.length := by omega
          have hLj : L[j] = x[j] := by
            have e1 := List.drop_eq_getElem_cons hjL
            have e2 := List.drop_eq_getElem_cons hj
            rw [k5, e2] at e1
            exact (List.cons.inj e1).1.symm
          have hd : L.drop (j + 1) = x.drop (j + 1) := by
            have e1 := congrArg (List.drop 1) k5
            simpa [List.drop_drop, Nat.add_comm] using e1
          simp only [clt_eq, ln, cond_dec]
          rw [if_pos (by omega), at?_nat, List.getElem?_eq_getElem hjL, bnd_some, hq, bnd_some, hLj, show iadd (j : Int) 1 = ((j + 1 : Nat) : Int) from (add_ok (by omega)).trans (by omega)]
          cases hc : q x[j] with
          | true =>
            refine .inl ⟨((i : Int), ((j + 1 : Nat) : Int), L), rfl, ⟨i, j + 1, rfl, rfl, by omega, by omega, k3, ?_, hd⟩, by simp only; omega⟩
            rw [List.take_succ_eq_append_getElem hj, List.filter_append, k4]; simp [hc]
          | false =>
            rw [Bool.not_false, cond_true, at?_nat, List.getElem?_eq_getElem (by omega), bnd_some, show iadd (i : Int) 1 = ((i + 1 : Nat) : Int) from (add_ok (by omega)).trans (by omega)]
            refine .inl ⟨(((i + 1 : Nat) : Int), ((j + 1 : Nat) : Int), L.set i x[j]), rfl, ⟨i + 1, j + 1, rfl, rfl, by omega, by omega, by simp [k3], ?_, ?_⟩, by simp only; omega⟩
            · rw [List.take_succ_eq_append_getElem (by simp; omega), List.take_succ_eq_append_getElem hj, List.filter_append, ← k4, List.take_set_of_le (by omega)]
              simp [hc]
            · rw [List.drop_set_of_lt (by omega)]; exact hd
        · refine .inr ⟨((i : Int), L), by simp only [clt_eq, ln, cond_dec]; rw [if_neg (by omega)], k3, i, rfl, by omega, ?_⟩
          rw [List.take_of_length_le (l := x) (by omega)] at k4; exact k4)
    simp only at h5 e1 e2 e3
    subst e1
    rw [h4, bnd_some]
    have hi : i ≤ L.length := by omega
    have hfr : from1? L (i : Int) = some (L.drop i) := by
      unfold from1? from?
      rw [if_pos (by omega), if_pos (by omega)]; simp
    rw [hfr, bnd_some]
    have hov : (overL L i (List.replicate (L.drop i).length z)).take i = L.take i := by
      unfold overL
      rw [List.append_assoc, List.take_append_of_le_length (by simp; omega), List.take_take, Nat.min_self]
    have hle : (overL L i (List.replicate (L.drop i).length z)).length = L.length := overL_len (by simp; omega)
    unfold upto?
    rw [Int.toNat_natCast, if_pos (by rw [hle]; omega), hov, e3]
    rfl
end

theorem del_flush (l : List TDev_write) (hl : l.length ≤ 1000000) : m_slices_DeleteFunc l = some [] := by
  have h : m_slices_DeleteFunc l = delF (TDev_write.mk (TAt.mk 0 0) (Ar.zero 64)) m___dev_Device__Flush_1_1 l := rfl
  rw [h, delF_eq (pr := m___dev_Device__Flush_1_1) (q := fun _ => true) (fun y => rfl) _ l hl]; simp
theorem del_forget (l : List TDev_write) (z : Int) (hl : l.length ≤ 1000000) : m_slices_DeleteFunc_ l z = some (l.filter fun y => !decide (y.at_.Zone = z)) := by
  have h : m_slices_DeleteFunc_ l z = delF (TDev_write.mk (TAt.mk 0 0) (Ar.zero 64)) (fun y => m___dev_Device__forget_2 y z) l := rfl
  rw [h, delF_eq (q := fun y => decide (y.at_.Zone = z)) (fun y => by simp [m___dev_Device__forget_2]) _ l hl]
theorem del_finish (l : List TDev_write) (z : Int) (hl : l.length ≤ 1000000) : m_slices_DeleteFunc__ l z = some (l.filter fun y => !decide (y.at_.Zone = z)) := by
  have h : m_slices_DeleteFunc__ l z = delF (TDev_write.mk (TAt.mk 0 0) (Ar.zero 64)) (fun y => m___dev_Device__Finish_1_1 y z) l := rfl
  rw [h, delF_eq (q := fun y => decide (y.at_.Zone = z)) (fun y => by simp [m___dev_Device__Finish_1_1]) _ l hl]
end Go.AX

namespace Go.AX
set_option autoImplicit false
set_option linter.unusedVariables false
set_option linter.unusedSimpArgs false
set_option maxRecDepth 4000
set_option maxHeartbeats 4000000

abbrev Dv := TDev_Device
def countD (p : Dv) : Dv := if 0 < p.left_ then { p with left_ := isub p.left_ 1, down := decide (isub p.left_ 1 = 0) } else p
theorem count_eq (p : Dv) : m___dev_Device__count p = some (countD p) := by
  unfold m___dev_Device__count countD
  simp only [let_eq, cgt_eq, cond_dec, ceq_eq]
  split <;> rfl
def wrongD (p : Dv) : Dv := { p with illegal := iadd p.illegal 1 }
theorem check_eq (e : Int) (p : Dv) : m___dev_Device__check e p = some (e, if e = 0 then p else wrongD p) := by
  unfold m___dev_Device__check wrongD
  simp only [let_eq, cne_eq, cond_dec]
  by_cases h : e = 0 <;> simp [h]
theorem countD_zones (p : Dv) : (countD p).zones = p.zones := by unfold countD; split <;> rfl
theorem countD_cached (p : Dv) : (countD p).cached = p.cached := by unfold countD; split <;> rfl
/-- What a command comes to: what it does once the zones let it. -/
def comD (p : Dv) (e : Int) (q : Dv) : Int × Dv := if p.down = true then (2, p) else if e = 0 then (0, countD q) else (e, wrongD p)

def writeD (p : Dv) (m : List TZone) (a : TAt) (x : Ar 64) : Dv := { p with zones := m, now := gSet eAt p.now a x, cached := p.cached ++ [⟨a, x⟩] }
theorem Write_eq (p : Dv) (a : TAt) (x : Ar 64) {m : List TZone} {e : Int} (h : m_zone_Write p.g p.zones a = some (m, e)) (hm : m.length = p.zones.length) (hc : p.cached.length ≤ 1000000) :
    m___dev_Device__Write a x p = some (comD p e (writeD p m a x)) := by
  unfold m___dev_Device__Write m___dev_Device__command m___dev_Device__Write_1 comD
  rw [h]
  obtain ⟨g, zs, fi, sa, nw, ca, le, dn, il⟩ := p
  simp only at hm hc
  simp only [bnd_some, let_eq, check_eq, cne_eq, cond_dec]
  cases dn with
  | true => rfl
  | false =>
    simp only [cond_false]
    by_cases k : e = 0
    · subst k
      simp only [if_true, lenq_ok, bnd_some, ne_eq, not_true_eq_false, if_false, app_ok (show (ca.length + [(⟨a, x⟩ : TDev_write)].length) * 80 ≤ 140737488355328 ∧ ca.length + [(⟨a, x⟩ : TDev_write)].length ≤ 4611686018427387904 by simp; omega), count_eq]
      rw [lenq_ok (by rw [countD_zones]), lenq_ok (by rw [countD_cached])]
      rfl
    · simp [k, lenq, wrongD]

/-- Writes laid into a map, one behind the other. -/
def layD (m : List (TAt × Ar 64)) (l : List TDev_write) : List (TAt × Ar 64) := l.foldl (fun m w => gSet eAt m w.at_ w.page) m
theorem layD_take {m : List (TAt × Ar 64)} {l : List TDev_write} {i : Nat} (h : i < l.length) : layD m (l.take (i + 1)) = gSet eAt (layD m (l.take i)) l[i].at_ l[i].page := by
  unfold layD
  rw [List.take_succ_eq_append_getElem h, List.foldl_append]; rfl
def flushD (p : Dv) : Dv := { p with safe := layD p.safe p.cached, cached := [] }
theorem lasts_eq (p : Dv) (hc : p.cached.length ≤ 1000000) : m___dev_Device__lasts p = some (flushD p) := by
  unfold m___dev_Device__lasts
  simp only [let_eq]
  refine bnd_run (fun i => ((i : Int), layD p.safe (p.cached.take i))) p.cached.length (layD p.safe p.cached) (by omega) (by simp [layD]) ?_ ?_ ?_
  · intro i hi
    simp only [clt_eq, ln, cond_dec]
    rw [if_pos (by omega), at?_nat, List.getElem?_eq_getElem hi, layD_take hi, show iadd (i : Int) 1 = ((i + 1 : Nat) : Int) from (add_ok (by omega)).trans (by omega)]
    rfl
  · simp [ln]
  · rw [del_flush _ hc]; rfl
/-- Of a zone. -/
def ofZ (z : Int) (w : TDev_write) : Bool := decide (w.at_.Zone = z)
def finishD (p : Dv) (z : Int) : Dv := { p with safe := layD p.safe (p.cached.filter (ofZ z)), cached := p.cached.filter (fun w => !ofZ z w), finished := gSet (eI .i64) p.finished z true }
theorem lasts_eq' (p : Dv) (z : Int) (hc : p.cached.length ≤ 1000000) : m___dev_Device__lasts_ p z = some { p with safe := layD p.safe (p.cached.filter (ofZ z)), cached := p.cached.filter (fun w => !ofZ z w) } := by
  unfold m___dev_Device__lasts_
  simp only [let_eq]
  refine bnd_run (fun i => ((i : Int), layD p.safe ((p.cached.take i).filter (ofZ z)))) p.cached.length (layD p.safe (p.cached.filter (ofZ z))) (by omega) (by simp [layD]) ?_ ?_ ?_
  · intro i hi
    have hf : m___dev_Device__Finish_1_1 p.cached[i] z = some (ofZ z p.cached[i]) := by simp [m___dev_Device__Finish_1_1, ofZ]
    simp only [clt_eq, ln, cond_dec]
    rw [if_pos (by omega), at?_nat, List.getElem?_eq_getElem hi, bnd_some, hf, bnd_some, List.take_succ_eq_append_getElem hi, List.filter_append, show iadd (i : Int) 1 = ((i + 1 : Nat) : Int) from (add_ok (by omega)).trans (by omega)]
    cases hz : ofZ z p.cached[i] with
    | true => simp [layD, List.foldl_append, List.filter_cons, hz]
    | false => simp [List.filter_cons, hz]
  · simp [ln]
  · rw [del_finish _ _ hc]; rfl
/-- Keys of a map are told once each. -/
def Nod (m : List (TAt × Ar 64)) : Prop := gNod eAt m = true
def outM (z : Int) (m : List (TAt × Ar 64)) : List (TAt × Ar 64) := m.filter fun p => !decide (p.1.Zone = z)
theorem gFilt_eq (z : Int) (m : List (TAt × Ar 64)) (h : Nod m) : gFilt? eAt (fun k v => m___dev_Device__forget_1 k v z) m = some (outM z m) := by
  unfold gFilt? outM
  rw [if_pos (show gNod eAt m = true from h), mFilt_tot (q := fun k _ => decide (k.Zone = z)) (fun a b => by simp [m___dev_Device__forget_1])]
def forgetD (p : Dv) (z : Int) : Dv := { p with safe := outM z p.safe, now := outM z p.now, cached := p.cached.filter (fun w => !ofZ z w), finished := gDel (eI .i64) p.finished z }
theorem forget_eq (p : Dv) (z : Int) (hs : Nod p.safe) (hn : Nod p.now) (hc : p.cached.length ≤ 1000000) : m___dev_Device__forget z p = some (forgetD p z) := by
  unfold m___dev_Device__forget
  rw [gFilt_eq z _ hs, gFilt_eq z _ hn, bnd_some, bnd_some, del_forget _ _ hc]; rfl

theorem Reset_eq (p : Dv) (z : Int) {m : List TZone} {e : Int} (h : m_zone_Reset p.g p.zones z = some (m, e)) (hm : m.length = p.zones.length) (hs : Nod p.safe) (hn : Nod p.now) (hc : p.cached.length ≤ 1000000) :
    m___dev_Device__Reset z p = some (comD p e (forgetD { p with zones := m } z)) := by
  unfold m___dev_Device__Reset m___dev_Device__command__ m___dev_Device__Reset_1 comD
  rw [h]
  obtain ⟨g, zs, fi, sa, nw, ca, le, dn, il⟩ := p
  simp only at hm hc hs hn
  simp only [bnd_some, let_eq, check_eq, cne_eq, cond_dec]
  cases dn with
  | true => rfl
  | false =>
    simp only [cond_false]
    by_cases k : e = 0
    · subst k
      simp only [if_true, lenq_ok, bnd_some, ne_eq, not_true_eq_false, if_false, count_eq]
      rw [forget_eq _ _ hs hn hc]
      simp only [bnd_some]
      rw [lenq_ok (by rfl)]
      simp only [bnd_some]
      rw [lenq_ok (by rfl)]
      simp only [bnd_some]
      rw [lenq_ok (by rw [countD_zones]), lenq_ok (by rw [countD_cached])]
      rfl
    · simp [k, lenq, wrongD]
theorem Finish_eq (p : Dv) (z : Int) {m : List TZone} {e : Int} (h : m_zone_Finish p.g p.zones z = some (m, e)) (hm : m.length = p.zones.length) (hc : p.cached.length ≤ 1000000) :
    m___dev_Device__Finish z p = some (comD p e (finishD { p with zones := m } z)) := by
  unfold m___dev_Device__Finish m___dev_Device__command___ m___dev_Device__Finish_1 comD
  rw [h]
  obtain ⟨g, zs, fi, sa, nw, ca, le, dn, il⟩ := p
  simp only at hm hc
  simp only [bnd_some, let_eq, check_eq, cne_eq, cond_dec]
  cases dn with
  | true => rfl
  | false =>
    simp only [cond_false]
    by_cases k : e = 0
    · subst k
      simp only [if_true, lenq_ok, bnd_some, ne_eq, not_true_eq_false, if_false, count_eq]
      rw [lasts_eq' _ _ hc]
      simp only [bnd_some]
      rw [lenq_ok (by rfl)]
      simp only [bnd_some]
      rw [lenq_ok (by rfl)]
      simp only [bnd_some]
      rw [lenq_ok (by rw [countD_zones]), lenq_ok (by rw [countD_cached])]
      rfl
    · simp [k, lenq, wrongD]
theorem Flush_eq (p : Dv) (hc : p.cached.length ≤ 1000000) : m___dev_Device__Flush p = some (comD p 0 (flushD p)) := by
  unfold m___dev_Device__Flush m___dev_Device__command_ m___dev_Device__Flush_1 comD
  obtain ⟨g, zs, fi, sa, nw, ca, le, dn, il⟩ := p
  simp only at hc
  simp only [bnd_some, let_eq, check_eq, cne_eq, cond_dec]
  cases dn with
  | true => simp [lenq]
  | false =>
    simp only [cond_false, if_true, lenq_ok, bnd_some, ne_eq, not_true_eq_false, if_false, count_eq]
    rw [lasts_eq _ hc]
    simp only [bnd_some]
    rw [lenq_ok (by rfl)]
    simp only [bnd_some]
    rw [lenq_ok (by rfl)]
    simp only [bnd_some]
    rw [lenq_ok (by rw [countD_zones]), lenq_ok (by rw [countD_cached])]
    simp only [bnd_some]
    rw [lenq_ok (by rw [countD_zones]; rfl)]
    rfl
end Go.AX

namespace Go.AX
set_option autoImplicit false
set_option linter.unusedVariables false
set_option linter.unusedSimpArgs false
set_option maxRecDepth 4000
set_option maxHeartbeats 4000000

/-- The first number, from i on, that isn't there; at most i + k. -/
def gap (q : Nat → Bool) : Nat → Nat → Nat
  | i, 0 => i
  | i, k + 1 => if q i = true then gap q (i + 1) k else i
theorem gap_le (q : Nat → Bool) : ∀ (k i : Nat), i ≤ gap q i k ∧ gap q i k ≤ i + k
  | 0, i => by simp [gap]
  | k + 1, i => by
    simp only [gap]
    split
    · have := gap_le q k (i + 1); omega
    · omega
theorem gap_all (q : Nat → Bool) : ∀ (k i j : Nat), i ≤ j → j < gap q i k → q j = true
  | 0, i, j, h1, h2 => by simp [gap] at h2; omega
  | k + 1, i, j, h1, h2 => by
    simp only [gap] at h2
    split at h2
    · rename_i h
      by_cases e : j = i
      · subst e; exact h
      · exact gap_all q k (i + 1) j (by omega) h2
    · omega
theorem gap_end (q : Nat → Bool) : ∀ (k i : Nat), gap q i k < i + k → q (gap q i k) = false
  | 0, i, h => by simp [gap] at h
  | k + 1, i, h => by
    simp only [gap] at h ⊢
    split
    · rename_i h1
      rw [if_pos h1] at h
      exact gap_end q k (i + 1) (by omega)
    · rename_i h1
      simpa using h1
/-- It is n where all ahead of n are there, and n isn't. -/
theorem gap_is {q : Nat → Bool} {n k : Nat} (h1 : ∀ j, j < n → q j = true) (h2 : n < k → q n = false) (h3 : n ≤ k) : gap q 0 k = n := by
  have a := gap_le q k 0
  by_cases e : gap q 0 k < n
  · have := gap_end q k 0 (by omega)
    rw [h1 _ e] at this; cases this
  · by_cases e2 : n < gap q 0 k
    · have := gap_all q k 0 n (by omega) e2
      rw [h2 (by omega)] at this; cases this
    · omega

def hasS (m : List (TAt × Ar 64)) (z : Int) (i : Nat) : Bool := (gGet eAt m ⟨z, (i : Int)⟩).isSome
def finS (p : Dv) (z : Int) : Bool := (gGet (eI .i64) p.finished z).getD false
def wakeC (p : Dv) (z : Int) (y : TZone) : TZone :=
  if z < p.g.Conv then y
  else
    let n : Int := gap (hasS p.safe z) 0 p.g.Size.toNat
    if finS p z = true then ⟨y.State, n⟩ else if n = 0 then ⟨0, n⟩ else if n < p.g.Size then ⟨2, n⟩ else ⟨y.State, n⟩
def wakeZ (p : Dv) : List TZone := (p.zones.map pz).mapIdx fun i y => wakeC p i y
def wakeD (p : Dv) : Dv := { p with zones := wakeZ p, now := p.safe, cached := [], left_ := -1, down := false }

theorem gap_loop (p : Dv) (z : Int) (hs : 0 ≤ p.g.Size ∧ p.g.Size ≤ 1000) :
    loop (σ := Int) (ρ := Int) (fun s88 => if s88 < p.g.Size then (if (!(gGet eAt p.safe (TAt.mk z s88)).isSome) = true then (some (.inr (s88))) else some (.inl (iadd s88 1))) else (some (.inr (s88)))) 0 = some ((gap (hasS p.safe z) 0 p.g.Size.toNat : Nat) : Int) := by
  have a := gap_le (hasS p.safe z) p.g.Size.toNat 0
  refine loop_run (fun i => (i : Int)) (gap (hasS p.safe z) 0 p.g.Size.toNat) (by omega) ?_ ?_ rfl
  · intro i hi
    have h := gap_all (hasS p.safe z) _ 0 i (by omega) hi
    unfold hasS at h
    rw [if_pos (by omega), h, show iadd (i : Int) 1 = ((i + 1 : Nat) : Int) from (add_ok (by omega)).trans (by omega)]
    rfl
  · by_cases e : gap (hasS p.safe z) 0 p.g.Size.toNat < p.g.Size.toNat
    · have h := gap_end (hasS p.safe z) p.g.Size.toNat 0 (by omega)
      rw [if_pos (by omega)]
      unfold hasS at h ⊢
      rw [h]; rfl
    · rw [if_neg (by omega)]

theorem wake_eq (p : Dv) (hc : 0 ≤ p.g.Conv) (hl : p.g.Conv ≤ p.zones.length) (hl2 : p.zones.length ≤ 1000) (hs : 0 ≤ p.g.Size ∧ p.g.Size ≤ 1000) : m___dev_Device__wake p = some (wakeD p) := by
  unfold m___dev_Device__wake
  rw [zone_Power p.zones hl2, bnd_some]
  simp only [let_eq, jn_eq, clt_eq, cond_dec, ceq_eq]
  obtain ⟨c, hcc⟩ := Int.eq_ofNat_of_zero_le hc
  have hlen : (wakeZ p).length = p.zones.length := by simp [wakeZ]
  have hlm : (p.zones.map pz).length = p.zones.length := by simp
  have hat : ∀ i (h : i < p.zones.length), (wakeZ p)[i]'(by omega) = wakeC p i (p.zones.map pz)[i] := by
    intro i h; simp [wakeZ]
  refine bnd_run (fun i => (((c + i : Nat) : Int), (wakeZ p).take (c + i) ++ (p.zones.map pz).drop (c + i))) (p.zones.length - c) (wakeZ p) (by omega) ?_ ?_ ?_ rfl
  · simp only [Nat.add_zero, hcc, Prod.mk.injEq, true_and]
    refine List.ext_getElem (by simp [hlen]; omega) fun i h1 h2 => ?_
    by_cases h : i < c
    · rw [List.getElem_append_left (by simp [hlen]; omega), List.getElem_take, hat i (by simpa using h1)]
      unfold wakeC
      rw [if_pos (by omega)]
    · rw [List.getElem_append_right (by simp [hlen]; omega), List.getElem_drop]
      congr 1
      simp [hlen]; omega
  · intro i hi
    have hj : c + i < p.zones.length := by omega
    obtain ⟨j, hjj⟩ : ∃ j, j = c + i := ⟨_, rfl⟩
    rw [← hjj] at hj ⊢
    have htl : ((wakeZ p).take j).length = j := by simp [hlen]; omega
    have hd : (p.zones.map pz).drop j = (p.zones.map pz)[j]'(by omega) :: (p.zones.map pz).drop (j + 1) := List.drop_eq_getElem_cons (by omega)
    have ht : (wakeZ p).take (j + 1) = (wakeZ p).take j ++ [wakeC p j ((p.zones.map pz)[j]'(by omega))] := by
      rw [List.take_succ_eq_append_getElem (by omega), hat j hj]
    have hg : ∀ (y : TZone) (t : List TZone), at? ((wakeZ p).take j ++ y :: t) (j : Int) = some y := by
      intro y t; rw [at?_nat, List.getElem?_append_right (by omega), htl]; simp
    have hset : ∀ (y z : TZone) (t : List TZone), set' ((wakeZ p).take j ++ y :: t) (j : Int) z = (wakeZ p).take j ++ z :: t := by
      intro y z t
      unfold set'
      rw [Int.toNat_natCast, List.set_append_right _ _ (by omega), htl]; simp
    have hln : (((wakeZ p).take j ++ (p.zones.map pz).drop j).length : Int) = p.zones.length := by simp [hlen]; omega
    have hgl := gap_loop p j hs
    simp only at hgl ⊢
    rw [if_pos (by unfold ln; rw [hln]; omega)]
    simp only [cond_eq_ite] at hgl ⊢
    rw [hgl, bnd_some, hd]
    rw [show c + (i + 1) = j + 1 by omega, ht, show iadd (j : Int) 1 = ((j + 1 : Nat) : Int) from (add_ok (by omega)).trans (by omega)]
    simp only [hg, hset, bnd_some]
    unfold wakeC finS
    generalize (p.zones.map pz)[j]'(by omega) = y
    generalize gap (hasS p.safe j) 0 p.g.Size.toNat = n
    have hcj : ¬ (j : Int) < p.g.Conv := by omega
    simp only [hcj, if_false]
    by_cases f1 : (gGet (eI .i64) p.finished (j : Int)).getD false = true
    · simp [f1]
    by_cases f2 : n = 0
    · simp [f1, f2]
    by_cases f3 : (n : Int) < p.g.Size
    · simp [f1, f2, f3]
    · simp [f1, f2, f3]
  · simp only
    rw [if_neg (by unfold ln; simp [hlen]; omega)]
    rw [show c + (p.zones.length - c) = p.zones.length by omega, List.take_of_length_le (by omega), List.drop_eq_nil_of_le (by omega), List.append_nil]
end Go.AX

namespace Go.AX
set_option autoImplicit false
set_option linter.unusedVariables false
set_option linter.unusedSimpArgs false
set_option maxRecDepth 4000
set_option maxHeartbeats 4000000

abbrev Mp64 := List (TAt × Ar 64)
def torn (b x : Ar 64) (n : Int) : Ar 64 := Ar.cp b (b.l.take (if 64 < n then 64 else n).toNat).length (x.l.take (if 64 < n then 64 else n).toNat)
def keepN (g : TGeom) (w : TWreck) (z : Int) : Int := if z - g.Conv < w.Keep.length then (let y := w.Keep.getD (z - g.Conv).toNat 0; if 0 > y then 0 else y) else 0
def bitC (w : TWreck) (soft : Int) : Bool := decide (binI .and .u64 (binI .shr .u64 w.Soft (IntKind.wrap .u64 (binI .rem .i64 soft 64))) 1 = 1)
def hadN (m : List (Int × Int)) (z : Int) : Int := (gGet (eI .i64) m z).getD 0
/-- One cached write, when the power goes: (soft writes so far, what lasts, how many of each zone so far). -/
def crS (g : TGeom) (w : TWreck) (n i : Nat) (x : TDev_write) (s : Int × Mp64 × List (Int × Int)) : Int × Mp64 × List (Int × Int) :=
  if x.at_.Zone < g.Conv then
    (iadd s.1 1, (if bitC w s.1 = true then gSet eAt s.2.1 x.at_ x.page else if i + 1 = n ∧ 0 < w.Tear then gSet eAt s.2.1 x.at_ (torn ((gGet eAt s.2.1 x.at_).getD (Ar.zero 64)) x.page w.Tear) else s.2.1), s.2.2)
  else
    (s.1, (if hadN s.2.2 x.at_.Zone < keepN g w x.at_.Zone then gSet eAt s.2.1 x.at_ x.page else if i + 1 = n ∧ hadN s.2.2 x.at_.Zone = keepN g w x.at_.Zone ∧ 0 < w.Tear then gSet eAt s.2.1 x.at_ (torn (Ar.zero 64) x.page w.Tear) else s.2.1), gSet (eI .i64) s.2.2 x.at_.Zone (iadd (hadN s.2.2 x.at_.Zone) 1))
def crN (p : Dv) (w : TWreck) : Nat → Int × Mp64 × List (Int × Int)
  | 0 => (0, p.safe, [])
  | i + 1 => match p.cached[i]? with
    | some x => crS p.g w p.cached.length i x (crN p w i)
    | none => crN p w i
def crashD (p : Dv) (w : TWreck) : Dv := wakeD { p with safe := (crN p w p.cached.length).2.1 }

theorem keep_eq (p : Dv) (w : TWreck) (z : Int) (h0 : p.g.Conv ≤ z) (h1 : 0 ≤ p.g.Conv) (h2 : z < 9223372036854775808) : m___dev_Device__keep w z p = some (keepN p.g w z) := by
  unfold m___dev_Device__keep keepN
  simp only [let_eq, clt_eq, ln, cond_dec]
  rw [show isub z p.g.Conv = z - p.g.Conv from sub_ok (by omega)]
  by_cases h : z - p.g.Conv < (w.Keep.length : Int)
  · obtain ⟨i, hi⟩ := Int.eq_ofNat_of_zero_le (show 0 ≤ z - p.g.Conv by omega)
    rw [if_pos h, if_pos h, hi, at?_nat, List.getElem?_eq_getElem (by omega), bnd_some, Int.toNat_natCast, List.getD_eq_getElem?_getD, List.getElem?_eq_getElem (by omega)]
    rfl
  · rw [if_neg h, if_neg h]
theorem tear_eq (p : Dv) (x : TDev_write) (n : Int) (hn : 0 < n) : m___dev_Device__tear x n p = some { p with safe := gSet eAt p.safe x.at_ (torn (if x.at_.Zone < p.g.Conv then (gGet eAt p.safe x.at_).getD (Ar.zero 64) else Ar.zero 64) x.page n) } := by
  have up : ∀ a : Ar 64, upto? a.l (if 64 < n then 64 else n) = some (a.l.take (if 64 < n then 64 else n).toNat) := by
    intro a
    unfold upto?
    rw [if_pos (by rw [a.h]; split <;> omega)]
  unfold m___dev_Device__tear torn
  simp only [let_eq, jn_eq, clt_eq, cond_dec, up, bnd_some]
  split <;> rfl
end Go.AX

namespace Go.AX
set_option autoImplicit false
set_option linter.unusedVariables false
set_option linter.unusedSimpArgs false
set_option maxRecDepth 4000
set_option maxHeartbeats 4000000

theorem rem64 (a : Int) : 0 ≤ a → binI .rem .i64 a 64 = a % 64 := by
  intro h
  show a.tmod 64 = _
  rw [Int.tmod_eq_emod_of_nonneg h]
theorem wrapu {a : Int} (h : 0 ≤ a) (h1 : a < 18446744073709551616) : IntKind.wrap .u64 a = a := by
  rw [IntKind.wrap_u64]; omega
theorem crash_eq (p : Dv) (w : TWreck) (hc : 0 ≤ p.g.Conv) (hl : p.g.Conv ≤ p.zones.length) (hl2 : p.zones.length ≤ 1000) (hs : 0 ≤ p.g.Size ∧ p.g.Size ≤ 1000)
    (hn : p.cached.length ≤ 1000000) (hz : ∀ x ∈ p.cached, x.at_.Zone < 9223372036854775808) : m___dev_Device__Crash w p = some (crashD p w) := by
  unfold m___dev_Device__Crash
  rw [let_eq]
  have hsoft : ∀ i, 0 ≤ (crN p w i).1 ∧ (crN p w i).1 ≤ i := by
    intro i
    induction i with
    | zero => simp [crN]
    | succ i ih =>
      simp only [crN]
      by_cases hi : i < p.cached.length
      · rw [List.getElem?_eq_getElem hi]
        simp only [crS]
        split
        · simp only
          rw [show iadd (crN p w i).1 1 = (crN p w i).1 + 1 from add_ok (by omega)]; omega
        · simp only; omega
      · rw [List.getElem?_eq_none (by omega)]; simp only; omega
  refine bnd_run (fun i => ((crN p w i).1, (i : Int), p.g.Conv, p.g.Soft, p.g.Seq, p.g.Size, p.g.Open, p.left_, p.down, p.illegal, p.finished, (crN p w i).2.1, (crN p w i).2.2, p.cached, p.zones, p.now)) p.cached.length (p.g.Conv, p.g.Soft, p.g.Seq, p.g.Size, p.g.Open, p.left_, p.down, p.illegal, p.finished, (crN p w p.cached.length).2.1, p.zones, p.now, p.cached) (by omega) rfl ?_ ?_ ?_
  · intro i hi
    have hsi := hsoft i
    have hx : crN p w (i + 1) = crS p.g w p.cached.length i p.cached[i] (crN p w i) := by simp [crN, List.getElem?_eq_getElem hi]
    have hzx := hz p.cached[i] (List.getElem_mem hi)
    revert hx hzx hsi
    generalize crN p w i = s
    generalize crN p w (i + 1) = s'
    have hat : at? p.cached (i : Int) = some p.cached[i] := by rw [at?_nat, List.getElem?_eq_getElem hi]
    revert hat
    generalize p.cached[i] = x
    intro hat hsi hx hzx
    subst hx
    obtain ⟨a, m, hd⟩ := s
    simp only at hsi
    simp only [let_eq, clt_eq, cond_dec, jn_eq, ln, ceq_eq, cgt_eq]
    rw [if_pos (by omega), hat, bnd_some, show iadd (i : Int) 1 = ((i + 1 : Nat) : Int) from (add_ok (by omega)).trans (by omega)]
    have e1 : isub (p.cached.length : Int) 1 = (p.cached.length : Int) - 1 := sub_ok (by omega)
    have elast : ((i : Int) = isub (p.cached.length : Int) 1) ↔ (i + 1 = p.cached.length) := by rw [e1]; omega
    by_cases k : x.at_.Zone < p.g.Conv
    · have e3 : nz? 64 = some () := rfl
      have e4 : IntKind.wrap .u64 (binI .rem .i64 a 64) = a % 64 := by rw [rem64 a hsi.1, wrapu (by omega) (by omega)]
      have e5 : sh? (a % 64) = some () := by unfold sh?; rw [if_pos (by omega)]
      have e6 : bitC w a = decide (binI .and .u64 (binI .shr .u64 w.Soft (a % 64)) 1 = 1) := by unfold bitC; rw [e4]
      simp only [k, if_true, e3, bnd_some, e4, e5, crS, e6, elast, decide_eq_true_eq]
      by_cases b : binI .and .u64 (binI .shr .u64 w.Soft (a % 64)) 1 = 1
      · simp only [b, decide_true, cond_true, if_true]
      · simp only [b, decide_false, cond_false, if_false]
        by_cases l : i + 1 = p.cached.length
        · by_cases t : 0 < w.Tear
          · rw [if_pos l, cond_true, if_pos t, tear_eq _ _ _ t, bnd_some, lenq_ok (by rfl), bnd_some, lenq_ok (by rfl), bnd_some]
            simp only [l, t, and_self, if_true, k]
          · simp only [l, t, and_false, if_false, if_true, decide_false, cond_true, cond_false]
        · simp only [l, false_and, if_false, cond_false]
    · simp only [k, if_false]
      have hk : ∀ q : TDev_Device, q.g.Conv = p.g.Conv → m___dev_Device__keep w x.at_.Zone q = some (keepN p.g w x.at_.Zone) := by
        intro q hq
        rw [keep_eq q w _ (by omega) (by omega) hzx]
        unfold keepN; rw [hq]
      simp only [hk, bnd_some, crS, k, if_false, elast]
      rw [show (gGet (eI .i64) hd x.at_.Zone).getD 0 = hadN hd x.at_.Zone from rfl]
      by_cases b : hadN hd x.at_.Zone < keepN p.g w x.at_.Zone
      · simp only [b, decide_true, cond_true, if_true]
      · simp only [b, decide_false, cond_false, if_false]
        by_cases l : i + 1 = p.cached.length
        · by_cases q : hadN hd x.at_.Zone = keepN p.g w x.at_.Zone
          · by_cases t : 0 < w.Tear
            · rw [if_pos l, if_pos q, if_pos t, tear_eq _ _ _ t, bnd_some, lenq_ok (by rfl), bnd_some, lenq_ok (by rfl), bnd_some]
              simp only [l, t, q, and_self, if_true, k, if_false]
            · simp only [l, t, q, and_false, if_false, if_true, decide_false, cond_true, cond_false, decide_true]
          · simp only [l, q, false_and, and_false, if_false, if_true, decide_false, cond_false]
        · simp only [l, false_and, if_false]
  · simp [ln]
  · simp only
    rw [wake_eq ⟨⟨p.g.Conv, p.g.Soft, p.g.Seq, p.g.Size, p.g.Open⟩, p.zones, p.finished, (crN p w p.cached.length).2.1, p.now, p.cached, p.left_, p.down, p.illegal⟩ hc hl hl2 hs]
    rfl
end Go.AX

namespace Go.AX
set_option autoImplicit false
set_option linter.unusedVariables false
set_option linter.unusedSimpArgs false
set_option maxRecDepth 4000
set_option maxHeartbeats 4000000

theorem ZR.set {g : TGeom} {l : List TZone} (h : ZR g l) {z : Int} {y : TZone} (h0 : 0 ≤ z) (hy : Cell g z y) : ZR g (l.set z.toNat y) := by
  refine ⟨by rw [List.length_set]; exact h.len, fun i hi => ?_⟩
  rw [List.length_set] at hi
  rw [List.getElem_set]
  split
  · rename_i e
    rw [show (i : Int) = z by omega]; exact hy
  · exact h.cell i hi

def WOK (g : TGeom) (l : List TZone) (a : TAt) (m : List TZone) : Prop :=
  0 ≤ a.Zone ∧ a.Zone < g.Conv + g.Seq ∧ 0 ≤ a.Off ∧ a.Off < Sect g a.Zone ∧ ((a.Zone < g.Conv ∧ m = l) ∨ (g.Conv ≤ a.Zone ∧ ∃ y, l[a.Zone.toNat]? = some y ∧ y.State ≠ 3 ∧ a.Off = y.Point ∧ m = l.set a.Zone.toNat ⟨if y.Point + 1 = g.Size then 3 else 1, y.Point + 1⟩))
theorem WOK.seq {g : TGeom} {l : List TZone} {a : TAt} {y : TZone} (z0 : 0 ≤ a.Zone) (z1 : a.Zone < g.Conv + g.Seq) (ht : 0 ≤ a.Off ∧ a.Off < Sect g a.Zone) (k : ¬ a.Zone < g.Conv) (hyl : l[a.Zone.toNat]? = some y) (k3 : ¬ y.State = 3) (kp : a.Off = y.Point) {s t : Int} (ht : t = y.Point + 1) (hs : s = if t = g.Size then 3 else 1) :
    WOK g l a (l.set a.Zone.toNat ⟨s, t⟩) := by
  subst hs; subst ht
  exact ⟨z0, z1, by omega, by omega, .inr ⟨by omega, y, hyl, k3, kp, rfl⟩⟩
theorem zW (g : TGeom) (hg : Geo g) (l : List TZone) (h : ZR g l) (a : TAt) : ∃ m e, m_zone_Write g l a = some (m, e) ∧ m_ref04_Act g l 0 a = some (m, e) ∧ m.length = l.length ∧
    (e = 0 → WOK g l a m) := by
  have hl := h.small hg
  unfold m_zone_Write m_ref04_Act
  simp only [jn_eq, let_eq, ceq_eq, cne_eq, clt_eq, cgt_eq, cge_eq, cle_eq, cond_dec, slices_Clone l hl, zone_there g hg, bnd_some, ref03Sectors g hg, zone_open l hl, ref04_opened l hl]
  by_cases ht : 0 ≤ a.Off ∧ a.Off < Sect g a.Zone
  · obtain ⟨z0, z1⟩ := Sect.inn (g := g) (z := a.Zone) (by omega)
    obtain ⟨y, hy, hc, hz, hyl⟩ := h.at z0 z1
    obtain ⟨c1, c2⟩ := hc
    simp only [hy, bnd_some, show ¬ Sect g a.Zone = 0 by omega, show ¬ a.Off < 0 by omega, show ¬ Sect g a.Zone ≤ a.Off by omega, ht, and_self, decide_true, Bool.not_true, cond_false, if_false, if_true, show ¬ (5 : Int) < 0 by decide, show ¬ (0 : Int) < 0 by decide, show (0 : Int) ≤ 1 by decide]
    by_cases k4 : a.Zone < g.Conv
    · obtain ⟨c3, c4⟩ := c1 k4
      simp only [c3, k4, if_true]
      exact ⟨l, 0, rfl, rfl, rfl, fun _ => (⟨z0, z1, ht.1, ht.2, .inl ⟨k4, rfl⟩⟩ : WOK g l a l)⟩
    · have c3 := c2 (by omega)
      have hS := Sect.seq (g := g) (z := a.Zone) (by omega) z1 hg
      have hn4 : ¬ y.State = 4 := by omega
      simp only [k4, hn4, if_false, show ¬ (0 : Int) = 1 by decide, show ¬ (0 : Int) = 2 by decide, show ¬ (0 : Int) = 5 by decide, show ¬ (0 : Int) = 3 by decide, cond_false]
      by_cases k3 : y.State = 3
      · simp only [k3, if_true]; exact ⟨l, 3, rfl, rfl, rfl, fun h => by cases h⟩
      simp only [k3, if_false]
      by_cases kp : a.Off = y.Point
      · have hz4 := hg.z
        have e1 : iadd y.Point 1 = y.Point + 1 := add_ok (by omega)
        simp only [kp, ne_eq, not_true_eq_false, if_false, set', at?_set z0 hz, bnd_some, List.set_set, e1, ref04_with l hl a.Zone z0 hz, at?_set z0 hz]
        by_cases k1 : y.State = 1
        · simp only [k1, not_true_eq_false, if_false]
          by_cases kf : y.Point + 1 = g.Size
          · simp only [kf, if_true]; exact ⟨_, 0, rfl, rfl, by simp, fun _ => WOK.seq z0 z1 ht k4 hyl k3 kp (by omega) (by simp)⟩
          · simp only [kf, if_false]; exact ⟨_, 0, rfl, rfl, by simp, fun _ => WOK.seq z0 z1 ht k4 hyl k3 kp rfl (by rw [if_neg kf])⟩
        · simp only [k1, not_false_eq_true, if_true]
          by_cases ko : g.Open ≤ cnt l
          · simp only [ko, if_true]; exact ⟨_, _, rfl, rfl, rfl, fun h => by cases h⟩
          · simp only [ko, if_false]
            by_cases kf : y.Point + 1 = g.Size
            · simp only [kf, if_true]; exact ⟨_, 0, rfl, rfl, by simp, fun _ => WOK.seq z0 z1 ht k4 hyl k3 kp (by omega) (by simp)⟩
            · simp only [kf, if_false]; exact ⟨_, 0, rfl, rfl, by simp, fun _ => WOK.seq z0 z1 ht k4 hyl k3 kp rfl (by rw [if_neg kf])⟩
      · simp only [kp, ne_eq, not_false_eq_true, if_true]
        exact ⟨_, _, rfl, rfl, rfl, fun h => by cases h⟩
  · refine ⟨l, 6, by simp [ht], ?_, rfl, fun h => by cases h⟩
    by_cases k1 : Sect g a.Zone = 0
    · simp [k1]
    by_cases k2 : a.Off < 0
    · simp [k1, k2]
    · simp [k1, k2, show Sect g a.Zone ≤ a.Off by omega]

theorem zR (g : TGeom) (hg : Geo g) (l : List TZone) (h : ZR g l) (a : TAt) : ∃ m e, m_zone_Reset g l a.Zone = some (m, e) ∧ m_ref04_Act g l 2 a = some (m, e) ∧ m.length = l.length ∧
    (e = 0 → g.Conv ≤ a.Zone ∧ a.Zone < g.Conv + g.Seq ∧ m = l.set a.Zone.toNat ⟨0, 0⟩) := by
  have hl := h.small hg
  unfold m_zone_Reset m_ref04_Act
  simp only [jn_eq, let_eq, ceq_eq, cne_eq, clt_eq, cgt_eq, cge_eq, cle_eq, cond_dec, slices_Clone l hl, zone_sequential g hg, bnd_some, ref03Sectors g hg, zone_open l hl, ref04_opened l hl]
  by_cases hS : Sect g a.Zone = 0
  · exact ⟨l, 6, by simp [hS], by simp [hS], rfl, fun h => by cases h⟩
  obtain ⟨z0, z1⟩ := Sect.inn hS
  obtain ⟨y, hy, hc, hz, hyl⟩ := h.at z0 z1
  obtain ⟨c1, c2⟩ := hc
  simp only [hy, bnd_some, hS, if_false]
  by_cases k4 : a.Zone < g.Conv
  · exact ⟨l, 3, by simp [k4], by simp [k4], rfl, fun h => by cases h⟩
  have c3 := c2 (by omega)
  simp only [k4, if_false, ne_eq, not_true_eq_false, decide_false, set', bnd_some, ref04_with l hl a.Zone z0 hz, cond_false]
  exact ⟨_, 0, by simp, by simp, by simp, fun _ => ⟨by omega, z1, rfl⟩⟩

theorem zF (g : TGeom) (hg : Geo g) (l : List TZone) (h : ZR g l) (a : TAt) : ∃ m e, m_zone_Finish g l a.Zone = some (m, e) ∧ m_ref04_Act g l 3 a = some (m, e) ∧ m.length = l.length ∧
    (e = 0 → g.Conv ≤ a.Zone ∧ a.Zone < g.Conv + g.Seq ∧ ∃ y, l[a.Zone.toNat]? = some y ∧ y.State ≠ 3 ∧ m = l.set a.Zone.toNat ⟨3, y.Point⟩) := by
  have hl := h.small hg
  unfold m_zone_Finish m_ref04_Act
  simp only [jn_eq, let_eq, ceq_eq, cne_eq, clt_eq, cgt_eq, cge_eq, cle_eq, cond_dec, slices_Clone l hl, zone_sequential g hg, bnd_some, ref03Sectors g hg, zone_open l hl, ref04_opened l hl]
  by_cases hS : Sect g a.Zone = 0
  · exact ⟨l, 6, by simp [hS], by simp [hS], rfl, fun h => by cases h⟩
  obtain ⟨z0, z1⟩ := Sect.inn hS
  obtain ⟨y, hy, hc, hz, hyl⟩ := h.at z0 z1
  obtain ⟨c1, c2⟩ := hc
  simp only [hy, bnd_some, hS, if_false]
  by_cases k4 : a.Zone < g.Conv
  · exact ⟨l, 3, by simp [k4], by simp [k4], rfl, fun h => by cases h⟩
  have c3 := c2 (by omega)
  simp only [k4, if_false, ne_eq, not_true_eq_false, decide_false, set', bnd_some, ref04_with l hl a.Zone z0 hz, cond_false]
  by_cases k3 : y.State = 3
  · exact ⟨l, 3, by simp [k3], by simp [k3], rfl, fun h => by cases h⟩
  · exact ⟨_, 0, by simp [k3], by simp [k3], by simp, fun _ => ⟨by omega, z1, y, hyl, k3, rfl⟩⟩

/-! #### overlays -/
theorem at_ext {a b : TAt} (h1 : a.Zone = b.Zone) (h2 : a.Off = b.Off) : a = b := by cases a; cases b; simp_all
instance : DecidableEq TAt := fun a b => if h : a.Zone = b.Zone ∧ a.Off = b.Off then Decidable.isTrue (at_ext h.1 h.2) else Decidable.isFalse fun e => h (by subst e; exact ⟨rfl, rfl⟩)
abbrev Cel := TRef05_Cell
/-- Pages by place. -/
abbrev Pl := TAt → Option (Ar 64)
def put1 (f : Pl) (a : TAt) (x : Ar 64) : Pl := fun b => if b = a then some x else f b
/-- Cells laid over. -/
def ovl (f : Pl) (l : List Cel) : Pl := l.foldl (fun f c => put1 f c.At c.Page) f
theorem ovl_app (f : Pl) (l m : List Cel) : ovl f (l ++ m) = ovl (ovl f l) m := List.foldl_append ..
theorem ovl_one (f : Pl) (l : List Cel) (c : Cel) : ovl f (l ++ [c]) = put1 (ovl f l) c.At c.Page := by rw [ovl_app]; rfl
theorem ovl_cons (f : Pl) (l : List Cel) (c : Cel) : ovl f (c :: l) = ovl (put1 f c.At c.Page) l := rfl
/-- What lies at a place hangs on what lay there alone. -/
theorem ovl_at {f g : Pl} {a : TAt} : ∀ (l : List Cel), f a = g a → ovl f l a = ovl g l a
  | [], h => h
  | c :: l, h => by
    rw [ovl_cons, ovl_cons]
    exact ovl_at l (by unfold put1; rw [h])
theorem ovl_filter (q : Int → Bool) {a : TAt} : ∀ (f : Pl) (l : List Cel), ovl f (l.filter fun c => q c.At.Zone) a = if q a.Zone = true then ovl f l a else f a
  | f, [] => by simp [ovl]
  | f, c :: l => by
    by_cases h : q c.At.Zone = true
    · rw [List.filter_cons_of_pos (p := fun c : Cel => q c.At.Zone) h, ovl_cons, ovl_cons, ovl_filter q _ l]
      by_cases h2 : q a.Zone = true
      · rw [if_pos h2, if_pos h2]
      · rw [if_neg h2, if_neg h2]
        unfold put1
        rw [if_neg (fun e => h2 (by rw [e]; exact h))]
    · rw [List.filter_cons_of_neg (p := fun c : Cel => q c.At.Zone) h, ovl_filter q _ l, ovl_cons]
      by_cases h2 : q a.Zone = true
      · rw [if_pos h2, if_pos h2]
        refine ovl_at l ?_
        unfold put1
        rw [if_neg (fun e => h (by rw [← e]; exact h2))]
      · rw [if_neg h2, if_neg h2]
/-- No cell there: what was there. -/
theorem ovl_no {f : Pl} {a : TAt} : ∀ (l : List Cel), (∀ c ∈ l, c.At ≠ a) → ovl f l a = f a
  | [], _ => rfl
  | c :: l, h => by
    rw [ovl_cons, ovl_no l (fun d hd => h d (List.mem_cons_of_mem _ hd))]
    unfold put1
    rw [if_neg (fun e => h c List.mem_cons_self e.symm)]
/-- Whether something lies there. -/
theorem ovl_some {f : Pl} {a : TAt} : ∀ (l : List Cel), (ovl f l a).isSome = true ↔ (f a).isSome = true ∨ ∃ c ∈ l, c.At = a
  | [] => by simp [ovl]
  | c :: l => by
    rw [ovl_cons, ovl_some l]
    unfold put1
    by_cases e : a = c.At
    · rw [if_pos e]; simp [e]
    · rw [if_neg e]
      simp [show ¬ c.At = a from fun h => e h.symm]
def cell (w : TDev_write) : Cel := ⟨w.at_, w.page⟩
abbrev G (m : Mp64) : Pl := fun a => gGet eAt m a
theorem G_set (m : Mp64) (a : TAt) (x : Ar 64) : G (gSet eAt m a x) = put1 (G m) a x := by
  funext b
  exact gGet_set inj_at m a b x
theorem G_lay : ∀ (l : List TDev_write) (m : Mp64), G (layD m l) = ovl (G m) (l.map cell)
  | [], _ => rfl
  | w :: l, m => by
    rw [List.map_cons, ovl_cons, show put1 (G m) (cell w).At (cell w).Page = G (gSet eAt m w.at_ w.page) from (G_set m _ _).symm, ← G_lay l]
    rfl
theorem G_out (z : Int) (m : Mp64) (a : TAt) : G (outM z m) a = if a.Zone = z then none else G m a := by
  have := gGet_filter inj_at (fun k => decide (k.Zone = z)) a m
  simp only [decide_eq_true_eq] at this
  exact this
end Go.AX

namespace Go.AX
set_option autoImplicit false
set_option linter.unusedVariables false
set_option linter.unusedSimpArgs false
set_option maxRecDepth 4000
set_option maxHeartbeats 4000000

/-- A loop that filters. -/
theorem filt_loop {α β : Type} {b : Nat} (q : α → Bool) (l : List α) (hb : b ≤ 80) (hl : l.length ≤ 1000000) {step : Int × List α → Option (Sum (Int × List α) (List α))} {k : List α → Option β} {x : Option β}
    (hs : ∀ (i : Nat) (h : i < l.length) m, step ((i : Int), m) = if q l[i] = true then (Bnd (app? b m [l[i]]) fun r => some (.inl (iadd (i : Int) 1, r))) else some (.inl (iadd (i : Int) 1, m)))
    (he : ∀ m, step ((l.length : Int), m) = some (.inr m)) (hk : k (l.filter q) = x) : Bnd (loop step (0, [])) k = x := by
  refine bnd_run (fun i => ((i : Int), (l.take i).filter q)) l.length (l.filter q) (by omega) (by simp) ?_ ?_ hk
  · intro i hi
    have hle : ((l.take i).filter q).length ≤ i := Nat.le_trans (List.length_filter_le _ _) (by simp; omega)
    rw [hs i hi, List.take_succ_eq_append_getElem hi, List.filter_append, show iadd (i : Int) 1 = ((i + 1 : Nat) : Int) from (add_ok (by omega)).trans (by omega)]
    by_cases h : q l[i] = true
    · have h3 : ([l[i]] : List α).filter q = [l[i]] := by simp [h]
      rw [if_pos h, h3, app_ok (by
        have h2 : (((l.take i).filter q).length + ([l[i]] : List α).length) * b ≤ (((l.take i).filter q).length + 1) * 80 := Nat.mul_le_mul (by simp) hb
        exact ⟨by omega, by simp; omega⟩)]
      rfl
    · have h3 : ([l[i]] : List α).filter q = [] := by simp [h]
      rw [if_neg h, h3, List.append_nil]
  · rw [he, List.take_of_length_le (Nat.le_refl _)]

theorem out_eq (l : List Cel) (z : Int) (hl : l.length ≤ 1000000) : m_ref05_out l z = some (l.filter fun c => !decide (c.At.Zone = z)) := by
  unfold m_ref05_out
  refine filt_loop (b := 80) _ l (by decide) hl ?_ ?_ rfl
  · intro i h m
    simp only [let_eq, clt_eq, ln, cond_dec, at?_nat, List.getElem?_eq_getElem h, bnd_some, cne_eq]
    rw [if_pos (by omega)]
    by_cases e : l[i].At.Zone = z <;> simp [e]
  · intro m
    simp [ln]
theorem only_eq (l : List Cel) (z : Int) (hl : l.length ≤ 1000000) : m_ref05_only l z = some (l.filter fun c => decide (c.At.Zone = z)) := by
  unfold m_ref05_only
  refine filt_loop (b := 80) _ l (by decide) hl ?_ ?_ rfl
  · intro i h m
    simp only [let_eq, clt_eq, ln, cond_dec, at?_nat, List.getElem?_eq_getElem h, bnd_some, ceq_eq]
    rw [if_pos (by omega)]
    by_cases e : l[i].At.Zone = z <;> simp [e]
  · intro m
    simp [ln]
theorem cat_eq (l m : List Cel) (h : l.length + m.length ≤ 1000000) : m_ref05_cat l m = some (l ++ m) := by
  unfold m_ref05_cat
  rw [app_ok (by simp; omega), bnd_some, List.nil_append, app_ok (by omega)]; rfl
theorem find_eq (l : List Cel) (a : TAt) (hl : l.length ≤ 1000000) : m_ref05_Find l a = some ((ovl (fun _ => none) l a).getD (Ar.zero 64), (ovl (fun _ => none) l a).isSome) := by
  unfold m_ref05_Find
  simp only [let_eq]
  have e1 : isub (ln l) 1 = (l.length : Int) - 1 := sub_ok (by unfold ln; omega)
  rw [e1]
  refine bnd_inv (G := fun r => r = some ((ovl (fun _ => none) l a).getD (Ar.zero 64), (ovl (fun _ => none) l a).isSome)) (fun s : Int => -1 ≤ s ∧ s < l.length ∧ ovl (fun _ => none) l a = ovl (fun _ => none) (l.take (s + 1).toNat) a) (fun s => (s + 1).toNat)
    (fun r : Sum Unit (Ar 64) => match r with | .inl _ => ovl (fun _ => none) l a = none | .inr x => ovl (fun _ => none) l a = some x) ⟨by omega, by omega, by rw [List.take_of_length_le (by omega)]⟩ (by omega) ?_ ?_
  · rintro s ⟨k1, k2, k3⟩
    simp only [cge_eq, cond_dec]
    by_cases h : 0 ≤ s
    · obtain ⟨i, rfl⟩ := Int.eq_ofNat_of_zero_le h
      have hi : i < l.length := by omega
      rw [if_pos h, at?_nat, List.getElem?_eq_getElem hi, bnd_some, bnd_some]
      rw [show ((i : Int) + 1).toNat = i + 1 by omega, List.take_succ_eq_append_getElem hi, ovl_one] at k3
      unfold put1 at k3
      by_cases e : a = l[i].At
      · rw [if_pos e] at k3
        have : (ceq l[i].At.Zone a.Zone && ceq l[i].At.Off a.Off) = true := by rw [← e]; simp
        rw [this]
        exact .inr ⟨_, rfl, k3⟩
      · rw [if_neg e] at k3
        have : (ceq l[i].At.Zone a.Zone && ceq l[i].At.Off a.Off) = false := by
          simp only [ceq_eq, Bool.and_eq_false_imp, decide_eq_true_eq, decide_eq_false_iff_not]
          exact fun h1 h2 => e (at_ext h1.symm h2.symm)
        rw [this]
        refine .inl ⟨_, rfl, ?_, ?_⟩
        · rw [show isub (i : Int) 1 = (i : Int) - 1 from sub_ok (by omega)]
          exact ⟨by omega, by omega, by rw [show ((i : Int) - 1 + 1).toNat = i by omega]; exact k3⟩
        · rw [show isub (i : Int) 1 = (i : Int) - 1 from sub_ok (by omega)]; omega
    · rw [if_neg h]
      rw [show (s + 1).toNat = 0 by omega] at k3
      exact .inr ⟨_, rfl, k3⟩
  · intro r hr
    rcases r with _ | x
    · simp only at hr; rw [hr]; rfl
    · simp only at hr; rw [hr]; rfl
theorem has_eq (l : List Int) (z : Int) (hl : l.length ≤ 1000000) : m_ref05_has l z = some (decide (z ∈ l)) := by
  unfold m_ref05_has
  refine Exists.elim (loop_all (step := fun s18 => Let (ln l) fun v19 => Let (clt s18 v19) fun b20 => bif b20 then (Bnd (at? l s18) fun y21 => Let (ceq y21 z) fun b26 => bif b26 then (some (.inr (.inr ()))) else (Let (iadd s18 1) fun v27 => some (.inl (v27)))) else (some (.inr (.inl ())))) l.length (fun i => ∀ h : i < l.length, l[i] ≠ z) (by omega) ?_ ?_ ?_) ?_
  · intro i hi hP
    simp only [let_eq, clt_eq, ln, cond_dec, at?_nat, List.getElem?_eq_getElem hi, bnd_some, ceq_eq]
    rw [if_pos (by omega), if_neg (hP hi), show iadd (i : Int) 1 = (i : Int) + 1 from add_ok (by omega)]
  · intro i hi hP
    have this : l[i] = z := by
      apply Classical.byContradiction
      intro h
      exact hP (fun _ => h)
    clear hP
    simp only [let_eq, clt_eq, ln, cond_dec, at?_nat, List.getElem?_eq_getElem hi, bnd_some, ceq_eq]
    rw [if_pos (by omega)]
    simp only [this, if_true]
  · simp [ln]
  · rintro q ⟨hq, q1, q2⟩
    rw [hq, bnd_some]
    by_cases hz : z ∈ l
    · rw [q2 (fun h => by obtain ⟨i, hi, e⟩ := List.getElem_of_mem hz; exact h i hi hi e)]
      simp [hz]
    · rw [q1 (fun i hi _ e => hz (e ▸ List.getElem_mem hi))]
      simp [hz]

abbrev Dk := TRef05_Disk
def tick (d : Dk) : Dk := if d.Armed = true then { d with Left := isub d.Left 1, Down := decide (isub d.Left 1 = 0) } else d
/-- An act's kind. -/
def kd (a : TRef05_Act) : Int := IntKind.wrap .i64 (binI .rem .u8 a.Kind 9)
theorem kd_le (a : TRef05_Act) : kd a ≤ 8 := by
  unfold kd
  rw [show binI .rem .u8 a.Kind 9 = a.Kind.tmod 9 from rfl, IntKind.wrap_i64]
  have h1 := Int.tmod_lt_of_pos a.Kind (show (0 : Int) < 9 by decide)
  have h2 := Int.lt_tmod_of_pos a.Kind (show (0 : Int) < 9 by decide)
  omega
def okD (d : Dk) (e : Int) (q : Dk) : Dk × Int := if e = 0 then (tick q, 0) else ({ d with Illegal := iadd d.Illegal 1 }, e)

theorem do_arm (d : Dk) (a : TRef05_Act) (hk : kd a = 7) : m_ref05_Do d a = some (if d.Down = true then d else { d with Armed := decide (0 ≤ a.N), Left := a.N, Down := decide (a.N = 0) }, 0) := by
  unfold m_ref05_Do
  rw [show nz? 9 = some () from rfl, bnd_some]
  unfold kd at hk
  simp only [let_eq, hk, ceq_eq, cond_dec, if_true, cge_eq]
  cases h : d.Down <;> simp
theorem do_crash (d : Dk) (a : TRef05_Act) (hk : kd a = 8) {o : Dk} (h : m_ref05_Crash d a.Wreck = some o) (ho : o.Cached = []) : m_ref05_Do d a = some (o, 0) := by
  unfold m_ref05_Do
  rw [show nz? 9 = some () from rfl, bnd_some]
  unfold kd at hk
  simp only [let_eq, hk, ceq_eq, cond_dec, if_true, cge_eq, show ¬ (8 : Int) = 7 by decide, if_false, h, bnd_some]
  obtain ⟨a, b, c, d, e, f, g, h, i⟩ := o
  simp only at ho
  subst ho; rfl
theorem do_down (d : Dk) (a : TRef05_Act) (h7 : kd a ≠ 7) (h8 : kd a ≠ 8) (hd : d.Down = true) : m_ref05_Do d a = some (d, 2) := by
  unfold m_ref05_Do
  rw [show nz? 9 = some () from rfl, bnd_some]
  unfold kd at h7 h8
  simp only [let_eq, ceq_eq, cond_dec, h7, h8, if_false, hd, cond_true]
  obtain ⟨a, b, c, d, e, f, g, h, i⟩ := d
  simp only at hd
  subst hd; rfl
theorem do_write (d : Dk) (a : TRef05_Act) (hk : kd a ≤ 3) (hd : d.Down = false) {m : List TZone} {e : Int} (h : m_ref04_Act d.G d.Zones 0 a.At = some (m, e)) (hl : d.Cached.length ≤ 100000) :
    m_ref05_Do d a = some (okD d e { d with Zones := m, Cached := d.Cached ++ [⟨a.At, a.Page⟩] }) := by
  unfold m_ref05_Do okD tick
  rw [show nz? 9 = some () from rfl, bnd_some]
  unfold kd at hk
  simp only [let_eq]
  revert hk
  generalize IntKind.wrap .i64 (binI .rem .u8 a.Kind 9) = k
  intro hk
  simp only [let_eq, ceq_eq, cond_dec, show ¬ k = 7 by omega, show ¬ k = 8 by omega, show ¬ k = 4 by omega, show ¬ k = 5 by omega, show ¬ k = 6 by omega, hk, if_false, if_true, hd, cond_false, jn_eq, cle_eq, h, bnd_some, cne_eq]
  by_cases he : e = 0
  · subst he
    rw [cat_eq _ _ (by simp; omega)]
    obtain ⟨a, b, c, d, e, f, g, h, i⟩ := d
    simp only at hd
    subst hd
    cases f <;> rfl
  · obtain ⟨a, b, c, d, e, f, g, h, i⟩ := d
    simp only at hd
    subst hd
    simp [he]
theorem do_reset (d : Dk) (a : TRef05_Act) (hk : kd a = 4) (hd : d.Down = false) {m : List TZone} {e : Int} (h : m_ref04_Act d.G d.Zones 2 a.At = some (m, e)) (hl : d.Cached.length ≤ 100000) (hl2 : d.Safe.length ≤ 100000) (hl3 : d.Done.length ≤ 100000) :
    m_ref05_Do d a = some (okD d e { d with Zones := m, Safe := d.Safe.filter (fun c => !decide (c.At.Zone = a.At.Zone)), Cached := d.Cached.filter (fun c => !decide (c.At.Zone = a.At.Zone)), Done := d.Done.filter (fun z => !decide (z = a.At.Zone)) }) := by
  unfold m_ref05_Do okD tick
  rw [show nz? 9 = some () from rfl, bnd_some]
  unfold kd at hk
  simp only [let_eq]
  revert hk
  generalize IntKind.wrap .i64 (binI .rem .u8 a.Kind 9) = k
  intro hk
  subst hk
  simp only [let_eq, ceq_eq, cond_dec, show ¬ (4 : Int) = 7 by decide, show ¬ (4 : Int) = 8 by decide, show ¬ (4 : Int) = 5 by decide, show ¬ (4 : Int) = 6 by decide, show ¬ (4 : Int) ≤ 3 by decide, show (4 : Int) ≤ 5 by decide, show isub 4 2 = 2 from rfl, if_false, if_true, hd, cond_false, jn_eq, cle_eq, h, bnd_some, cne_eq]
  by_cases he : e = 0
  · subst he
    rw [out_eq _ _ (by omega), out_eq _ _ (by omega)]
    simp only [bnd_some, not_true_eq_false, if_false, ne_eq, if_true]
    refine filt_loop (b := 8) (fun z => !decide (z = a.At.Zone)) d.Done (by decide) (by omega) ?_ ?_ ?_
    · intro i h m
      simp only [clt_eq, ln, cond_dec, at?_nat, List.getElem?_eq_getElem h, bnd_some, cne_eq]
      rw [if_pos (by omega)]
      by_cases e : d.Done[i] = a.At.Zone <;> simp [e]
    · intro m
      simp [ln]
    · obtain ⟨a, b, c, d, e, f, g, h, i⟩ := d
      simp only at hd
      subst hd
      cases f <;> rfl
  · obtain ⟨a, b, c, d, e, f, g, h, i⟩ := d
    simp only at hd
    subst hd
    simp [he]
theorem do_finish (d : Dk) (a : TRef05_Act) (hk : kd a = 5) (hd : d.Down = false) {m : List TZone} {e : Int} (h : m_ref04_Act d.G d.Zones 3 a.At = some (m, e)) (hl : d.Cached.length ≤ 100000) (hl2 : d.Safe.length ≤ 100000) (hl3 : d.Done.length ≤ 100000) :
    m_ref05_Do d a = some (okD d e { d with Zones := m, Safe := d.Safe ++ d.Cached.filter (fun c => decide (c.At.Zone = a.At.Zone)), Cached := d.Cached.filter (fun c => !decide (c.At.Zone = a.At.Zone)), Done := d.Done ++ [a.At.Zone] }) := by
  unfold m_ref05_Do okD tick
  rw [show nz? 9 = some () from rfl, bnd_some]
  unfold kd at hk
  simp only [let_eq]
  revert hk
  generalize IntKind.wrap .i64 (binI .rem .u8 a.Kind 9) = k
  intro hk
  subst hk
  simp only [let_eq, ceq_eq, cond_dec, show ¬ (5 : Int) = 7 by decide, show ¬ (5 : Int) = 8 by decide, show ¬ (5 : Int) = 4 by decide, show ¬ (5 : Int) = 6 by decide, show ¬ (5 : Int) ≤ 3 by decide, show (5 : Int) ≤ 5 by decide, show isub 5 2 = 3 from rfl, if_false, if_true, hd, cond_false, jn_eq, cle_eq, h, bnd_some, cne_eq]
  by_cases he : e = 0
  · subst he
    have hf := List.length_filter_le (fun c : Cel => decide (c.At.Zone = a.At.Zone)) d.Cached
    rw [only_eq _ _ (by omega), bnd_some, cat_eq _ _ (by revert hf; generalize (List.filter (fun c : Cel => decide (c.At.Zone = a.At.Zone)) d.Cached).length = x; omega), out_eq _ _ (by omega), bnd_some, bnd_some, app_ok (by simp; omega), bnd_some, app_ok (by simp; omega)]
    simp only [bnd_some, not_true_eq_false, if_false, ne_eq, if_true]
    obtain ⟨a, b, c, d, e, f, g, h, i⟩ := d
    simp only at hd
    subst hd
    cases f <;> rfl
  · obtain ⟨a, b, c, d, e, f, g, h, i⟩ := d
    simp only at hd
    subst hd
    simp [he]
theorem do_flush (d : Dk) (a : TRef05_Act) (hk : kd a = 6) (hd : d.Down = false) (hl : d.Cached.length ≤ 100000) (hl2 : d.Safe.length ≤ 100000) :
    m_ref05_Do d a = some (okD d 0 { d with Safe := d.Safe ++ d.Cached, Cached := [] }) := by
  unfold m_ref05_Do okD tick
  rw [show nz? 9 = some () from rfl, bnd_some]
  unfold kd at hk
  simp only [let_eq]
  revert hk
  generalize IntKind.wrap .i64 (binI .rem .u8 a.Kind 9) = k
  intro hk
  subst hk
  simp only [let_eq, ceq_eq, cond_dec, show ¬ (6 : Int) = 7 by decide, show ¬ (6 : Int) = 8 by decide, show ¬ (6 : Int) = 4 by decide, show ¬ (6 : Int) = 5 by decide, show ¬ (6 : Int) ≤ 3 by decide, show ¬ (6 : Int) ≤ 5 by decide, if_false, if_true, hd, cond_false, jn_eq, cle_eq, bnd_some, cne_eq]
  rw [cat_eq _ _ (by omega)]
  simp only [bnd_some, not_true_eq_false, if_false, ne_eq, if_true]
  obtain ⟨a, b, c, d, e, f, g, h, i⟩ := d
  simp only at hd
  subst hd
  cases f <;> rfl
end Go.AX

namespace Go.AX
set_option autoImplicit false
set_option linter.unusedVariables false
set_option linter.unusedSimpArgs false
set_option maxRecDepth 4000
set_option maxHeartbeats 4000000

/-- A zone's offsets are just 0 .. s-1. -/
def Pre (m : Mp64) (z s : Int) : Prop := ∀ i : Int, (G m ⟨z, i⟩).isSome = true ↔ 0 ≤ i ∧ i < s
/-- A zone's cached writes are those of s .. t-1, in order. -/
def Rows (c : List TDev_write) (z s t : Int) : Prop := s + (c.filter (ofZ z)).length = t ∧ ∀ (j : Nat) w, (c.filter (ofZ z))[j]? = some w → w.at_.Off = s + j
structure DI (n : Nat) (p : Dv) : Prop where
  geo : Geo p.g
  zr : ZR p.g p.zones
  ns : Nod p.safe
  nn : Nod p.now
  nf : gNod (eI .i64) p.finished = true
  now : ∀ a, G p.now a = ovl (G p.safe) (p.cached.map cell) a
  fin : ∀ (i : Nat) y, p.zones[i]? = some y → finS p i = true → y.State = 3
  seq : ∀ (i : Nat) y, p.zones[i]? = some y → p.g.Conv ≤ i → ∃ s : Int, 0 ≤ s ∧ Pre p.safe i s ∧ Rows p.cached i s y.Point
  cz : ∀ w ∈ p.cached, 0 ≤ w.at_.Zone ∧ w.at_.Zone < p.g.Conv + p.g.Seq
  le : p.left_ < 9223372036854775808
  ln : p.cached.length ≤ n

theorem DI.wrong {n : Nat} {p : Dv} (h : DI n p) : DI n (wrongD p) := ⟨h.geo, h.zr, h.ns, h.nn, h.nf, h.now, h.fin, h.seq, h.cz, h.le, h.ln⟩
theorem DI.more {n m : Nat} {p : Dv} (h : DI n p) (hm : n ≤ m) : DI m p := ⟨h.geo, h.zr, h.ns, h.nn, h.nf, h.now, h.fin, h.seq, h.cz, h.le, Nat.le_trans h.ln hm⟩
theorem DI.count {n : Nat} {p : Dv} (h : DI n p) : DI n (countD p) := by
  have hl := h.le
  unfold countD
  split
  · rename_i h0
    refine ⟨h.geo, h.zr, h.ns, h.nn, h.nf, h.now, h.fin, h.seq, h.cz, ?_, h.ln⟩
    simp only
    rw [show isub p.left_ 1 = p.left_ - 1 from sub_ok (by omega)]; omega
  · exact h

theorem gNod_filter {α β : Type} {f : α → List D} (q : α × β → Bool) : ∀ (m : List (α × β)), gNod f m = true → gNod f (m.filter q) = true
  | [], _ => rfl
  | p :: t, h => by
    simp only [gNod, Bool.and_eq_true, List.all_eq_true] at h
    by_cases hp : q p = true
    · rw [List.filter_cons_of_pos hp]
      simp only [gNod, Bool.and_eq_true, List.all_eq_true]
      exact ⟨fun r hr => h.1 r (List.mem_filter.1 hr).1, gNod_filter q t h.2⟩
    · rw [List.filter_cons_of_neg hp]
      exact gNod_filter q t h.2
theorem gNod_del {α β : Type} {f : α → List D} (k : α) : ∀ (m : List (α × β)), gNod f m = true → gNod f (gDel f m k) = true
  | [], _ => rfl
  | p :: t, h => by
    simp only [gNod, Bool.and_eq_true, List.all_eq_true] at h
    simp only [gDel]
    split
    · exact h.2
    · simp only [gNod, Bool.and_eq_true, List.all_eq_true]
      exact ⟨fun r hr => h.1 r ((gDel_sub k t).subset hr), gNod_del k t h.2⟩
theorem Nod_lay : ∀ (l : List TDev_write) (m : Mp64), Nod m → Nod (layD m l)
  | [], _, h => h
  | w :: l, m, h => Nod_lay l _ (gNod_set inj_at _ _ _ h)

theorem mem_filter_idx {c : List TDev_write} {z : Int} {P : TDev_write → Prop} : (∃ w ∈ c, w.at_.Zone = z ∧ P w) ↔ ∃ (j : Nat) (w : TDev_write), (c.filter (ofZ z))[j]? = some w ∧ P w := by
  constructor
  · rintro ⟨w, hw, hz, hp⟩
    have : w ∈ c.filter (ofZ z) := List.mem_filter.2 ⟨hw, by simp [ofZ, hz]⟩
    obtain ⟨j, hj, e⟩ := List.getElem_of_mem this
    exact ⟨j, w, by rw [List.getElem?_eq_getElem hj, e], hp⟩
  · rintro ⟨j, w, hj, hp⟩
    have := List.mem_of_getElem? hj
    obtain ⟨h1, h2⟩ := List.mem_filter.1 this
    exact ⟨w, h1, by simpa [ofZ] using h2, hp⟩
theorem Pre_lay {m : Mp64} {z s t : Int} {c : List TDev_write} (hs : 0 ≤ s) (hp : Pre m z s) (hr : Rows c z s t) : Pre (layD m c) z t := by
  intro i
  rw [G_lay, ovl_some, hp i]
  have : (∃ d ∈ c.map cell, d.At = (⟨z, i⟩ : TAt)) ↔ ∃ w ∈ c, w.at_.Zone = z ∧ w.at_.Off = i := by
    constructor
    · rintro ⟨d, hd, e⟩
      obtain ⟨w, hw, rfl⟩ := List.mem_map.1 hd
      have e' : w.at_ = ⟨z, i⟩ := e
      exact ⟨w, hw, by rw [e'], by rw [e']⟩
    · rintro ⟨w, hw, e1, e2⟩
      exact ⟨cell w, List.mem_map.2 ⟨w, hw, rfl⟩, at_ext e1 e2⟩
  rw [this, mem_filter_idx]
  obtain ⟨h1, h2⟩ := hr
  constructor
  · rintro (h | ⟨j, w, hj, e⟩)
    · omega
    · have := h2 j w hj
      have hlt : j < (c.filter (ofZ z)).length := by
        rcases Nat.lt_or_ge j (c.filter (ofZ z)).length with h | h
        · exact h
        · rw [List.getElem?_eq_none h] at hj; cases hj
      omega
  · intro h
    by_cases hi : i < s
    · exact .inl ⟨h.1, hi⟩
    · have hlt : (i - s).toNat < (c.filter (ofZ z)).length := by omega
      refine .inr ⟨(i - s).toNat, _, List.getElem?_eq_getElem hlt, ?_⟩
      rw [h2 _ _ (List.getElem?_eq_getElem hlt)]; omega
theorem filt_other {c : List TDev_write} {z i : Int} (h : i ≠ z) : (c.filter (fun w => !ofZ z w)).filter (ofZ i) = c.filter (ofZ i) := by
  rw [List.filter_filter]
  congr 1
  funext w
  unfold ofZ
  by_cases e : w.at_.Zone = i
  · simp [e, h]
  · simp [e]
theorem filt_gone {c : List TDev_write} {z : Int} : (c.filter (fun w => !ofZ z w)).filter (ofZ z) = [] := by
  rw [List.filter_filter, List.filter_eq_nil_iff]
  intro w _
  cases h : ofZ z w <;> simp
theorem map_filt (c : List TDev_write) (q : Int → Bool) : (c.filter (fun w => q w.at_.Zone)).map cell = (c.map cell).filter (fun d => q d.At.Zone) := by
  rw [List.filter_map]; rfl
theorem map_in (c : List TDev_write) (z : Int) : (c.filter (ofZ z)).map cell = (c.map cell).filter (fun d => decide (d.At.Zone = z)) := map_filt c fun a => decide (a = z)
theorem map_out (c : List TDev_write) (z : Int) : (c.filter (fun w => !ofZ z w)).map cell = (c.map cell).filter (fun d => !decide (d.At.Zone = z)) := map_filt c fun a => !decide (a = z)

theorem zones_set {l : List TZone} {z : Int} {y' y : TZone} {i : Nat} (h0 : 0 ≤ z) (h : (l.set z.toNat y')[i]? = some y) : ((i : Int) = z ∧ y = y') ∨ ((i : Int) ≠ z ∧ l[i]? = some y) := by
  rw [List.getElem?_set] at h
  split at h
  · rename_i e
    split at h
    · exact .inl ⟨by omega, (Option.some.inj h).symm⟩
    · cases h
  · exact .inr ⟨by omega, h⟩

theorem Rows_app {c : List TDev_write} {w : TDev_write} {z s t : Int} (h : Rows c z s t) : (w.at_.Zone ≠ z → Rows (c ++ [w]) z s t) ∧ (w.at_.Zone = z → w.at_.Off = t → Rows (c ++ [w]) z s (t + 1)) := by
  obtain ⟨h1, h2⟩ := h
  constructor
  · intro e
    have : (c ++ [w]).filter (ofZ z) = c.filter (ofZ z) := by simp [List.filter_append, ofZ, e]
    unfold Rows
    rw [this]; exact ⟨h1, h2⟩
  · intro e e2
    have : (c ++ [w]).filter (ofZ z) = c.filter (ofZ z) ++ [w] := by simp [List.filter_append, ofZ, e]
    unfold Rows
    rw [this]
    refine ⟨by simp; omega, fun j v hj => ?_⟩
    by_cases hlt : j < (c.filter (ofZ z)).length
    · rw [List.getElem?_append_left hlt] at hj; exact h2 j v hj
    · rw [List.getElem?_append_right (by omega)] at hj
      by_cases e0 : j - (c.filter (ofZ z)).length = 0
      · rw [e0] at hj
        obtain rfl : w = v := by simpa using hj
        omega
      · rw [List.getElem?_eq_none (by simp; omega)] at hj; cases hj

theorem DI.write {n : Nat} {p : Dv} (h : DI n p) {a : TAt} {x : Ar 64} {m : List TZone} (hw : WOK p.g p.zones a m) : DI (n + 1) (writeD p m a x) := by
  obtain ⟨w0, w1, w2, w3, w4⟩ := hw
  have hln := h.ln
  have hz4 := h.geo.z
  unfold writeD
  refine ⟨h.geo, ?_, h.ns, gNod_set inj_at _ _ _ h.nn, h.nf, ?_, ?_, ?_, ?_, h.le, by simp; omega⟩
  · show ZR p.g m
    rcases w4 with ⟨_, rfl⟩ | ⟨k1, y, k2, k3, k4, rfl⟩
    · exact h.zr
    · refine h.zr.set w0 ⟨fun h => by omega, fun _ => ?_⟩
      rw [Sect.seq k1 w1 h.geo] at w3
      by_cases e : y.Point + 1 = p.g.Size
      · rw [if_pos e]; right; right; right; exact ⟨rfl, by simp only; omega, by simp only; omega⟩
      · rw [if_neg e]; right; left; exact ⟨rfl, by simp only; omega, by simp only; omega⟩
  · intro b
    show G (gSet eAt p.now a x) b = ovl (G p.safe) ((p.cached ++ [(⟨a, x⟩ : TDev_write)]).map cell) b
    rw [G_set, List.map_append, List.map_singleton, ovl_one, show G p.now = ovl (G p.safe) (p.cached.map cell) from funext h.now]
    rfl
  · intro i y hy hf
    have hy' : m[i]? = some y := hy
    have hf' : finS p i = true := hf
    rcases w4 with ⟨_, rfl⟩ | ⟨k1, y0, k2, k3, k4, rfl⟩
    · exact h.fin i y hy' hf'
    · rcases zones_set w0 hy' with ⟨e, _⟩ | ⟨_, e⟩
      · exact absurd (h.fin a.Zone.toNat y0 k2 (by rw [show ((a.Zone.toNat : Nat) : Int) = i by omega]; exact hf')) k3
      · exact h.fin i y e hf'
  · intro i y hy hc
    have hy' : m[i]? = some y := hy
    show ∃ s, 0 ≤ s ∧ Pre p.safe i s ∧ Rows (p.cached ++ [⟨a, x⟩]) i s y.Point
    rcases w4 with ⟨k1, rfl⟩ | ⟨k1, y0, k2, k3, k4, rfl⟩
    · obtain ⟨s, s0, s1, s2⟩ := h.seq i y hy' hc
      exact ⟨s, s0, s1, (Rows_app s2).1 (show a.Zone ≠ i from fun e => by have hc' : p.g.Conv ≤ (i : Int) := hc; omega)⟩
    · rcases zones_set w0 hy' with ⟨e, rfl⟩ | ⟨e0, e⟩
      · rw [show a.Zone.toNat = i by omega] at k2
        obtain ⟨s, s0, s1, s2⟩ := h.seq i y0 k2 hc
        exact ⟨s, s0, s1, (Rows_app s2).2 e.symm k4⟩
      · obtain ⟨s, s0, s1, s2⟩ := h.seq i y e hc
        exact ⟨s, s0, s1, (Rows_app s2).1 (fun e' => e0 e'.symm)⟩
  · intro w hw
    rcases List.mem_append.1 hw with e | e
    · exact h.cz w e
    · rw [List.mem_singleton.1 e]; exact ⟨w0, w1⟩

theorem finS_del {p : Dv} {z i : Int} {m : List (Int × Bool)} (hn : gNod (eI .i64) m = true) : (gGet (eI .i64) (gDel (eI .i64) m z) i).getD false = if i = z then false else (gGet (eI .i64) m i).getD false := by
  rw [gGet_del (inj_int _) z i m hn]
  split <;> rfl
theorem finS_set {z i : Int} {m : List (Int × Bool)} : (gGet (eI .i64) (gSet (eI .i64) m z true) i).getD false = if i = z then true else (gGet (eI .i64) m i).getD false := by
  rw [gGet_set (inj_int _) m z i true]
  split <;> rfl

theorem DI.reset {n : Nat} {p : Dv} (h : DI n p) {z : Int} (h1 : p.g.Conv ≤ z) (h2 : z < p.g.Conv + p.g.Seq) : DI n (forgetD { p with zones := p.zones.set z.toNat ⟨0, 0⟩ } z) := by
  have hc := h.geo.c
  have z0 : 0 ≤ z := by omega
  unfold forgetD
  refine ⟨h.geo, h.zr.set z0 ⟨fun _ => by omega, fun _ => .inl ⟨rfl, rfl⟩⟩, gNod_filter _ _ h.ns, gNod_filter _ _ h.nn, gNod_del _ _ h.nf, ?_, ?_, ?_, ?_, h.le, Nat.le_trans (List.length_filter_le _ _) h.ln⟩
  · intro a
    show G (outM z p.now) a = ovl (G (outM z p.safe)) ((p.cached.filter (fun w => !ofZ z w)).map cell) a
    rw [map_out, ovl_filter (fun k => !decide (k = z)), G_out, G_out, h.now]
    by_cases e : a.Zone = z
    · simp [e]
    · simp only [e, decide_false, Bool.not_false, if_true, if_false]
      exact ovl_at _ (by rw [G_out, if_neg e])
  · intro i y hy hf
    have hf' : (gGet (eI .i64) (gDel (eI .i64) p.finished z) i).getD false = true := hf
    rw [finS_del (p := p) h.nf] at hf'
    rcases zones_set z0 hy with ⟨e, rfl⟩ | ⟨e0, e⟩
    · rw [if_pos e] at hf'; cases hf'
    · rw [if_neg e0] at hf'; exact h.fin i y e hf'
  · intro i y hy hc
    show ∃ s, 0 ≤ s ∧ Pre (outM z p.safe) i s ∧ Rows (p.cached.filter (fun w => !ofZ z w)) i s y.Point
    rcases zones_set z0 hy with ⟨e, rfl⟩ | ⟨e0, e⟩
    · refine ⟨0, by omega, fun k => ?_, ?_⟩
      · rw [G_out, if_pos (show (⟨(i : Int), k⟩ : TAt).Zone = z from e)]
        simp
      · unfold Rows
        rw [e, filt_gone]
        exact ⟨rfl, fun j w hj => by simp at hj⟩
    · obtain ⟨s, s0, s1, s2⟩ := h.seq i y e hc
      refine ⟨s, s0, fun k => ?_, ?_⟩
      · rw [G_out, if_neg (show ¬ (⟨(i : Int), k⟩ : TAt).Zone = z from e0)]; exact s1 k
      · unfold Rows
        rw [filt_other e0]; exact s2
  · intro w hw
    exact h.cz w (List.mem_filter.1 hw).1

theorem DI.flush {n : Nat} {p : Dv} (h : DI n p) : DI n (flushD p) := by
  unfold flushD
  refine ⟨h.geo, h.zr, Nod_lay _ _ h.ns, h.nn, h.nf, ?_, h.fin, ?_, ?_, h.le, ?_⟩
  · intro a
    show G p.now a = G (layD p.safe p.cached) a
    rw [G_lay, h.now]
  · intro i y hy hc
    obtain ⟨s, s0, s1, s2⟩ := h.seq i y hy hc
    refine ⟨y.Point, by have := s2.1; omega, Pre_lay s0 s1 s2, ?_⟩
    exact ⟨by simp, fun j w hj => by simp at hj⟩
  · intro w hw
    cases hw
  · exact Nat.zero_le _

theorem Rows_in {c : List TDev_write} {z s t : Int} (h : Rows c z s t) : Rows (c.filter (ofZ z)) z s t := by
  unfold Rows
  rw [List.filter_filter]
  simp only [Bool.and_self]
  exact h
theorem DI.finish {n : Nat} {p : Dv} (h : DI n p) {z : Int} {y0 : TZone} (h1 : p.g.Conv ≤ z) (h2 : z < p.g.Conv + p.g.Seq) (hy0 : p.zones[z.toNat]? = some y0) : DI n (finishD { p with zones := p.zones.set z.toNat ⟨3, y0.Point⟩ } z) := by
  have hc := h.geo.c
  have z0 : 0 ≤ z := by omega
  have hz4 := h.geo.z
  unfold finishD
  refine ⟨h.geo, h.zr.set z0 ⟨fun _ => by omega, fun _ => ?_⟩, Nod_lay _ _ h.ns, h.nn, gNod_set (inj_int _) _ _ _ h.nf, ?_, ?_, ?_, ?_, h.le, Nat.le_trans (List.length_filter_le _ _) h.ln⟩
  · obtain ⟨y, e1, e2, e3, e4⟩ := h.zr.at z0 h2
    rw [hy0] at e4
    obtain rfl := Option.some.inj e4
    have := e2.seq h1
    right; right; right; exact ⟨rfl, by simp only; omega, by simp only; omega⟩
  · intro a
    show G p.now a = ovl (G (layD p.safe (p.cached.filter (ofZ z)))) ((p.cached.filter (fun w => !ofZ z w)).map cell) a
    rw [G_lay, map_out, ovl_filter (fun k => !decide (k = z)), map_in, ovl_filter (fun k => decide (k = z)), h.now]
    by_cases e : a.Zone = z
    · simp [e]
    · simp only [e, decide_false, Bool.not_false, if_true, if_false]
      refine ovl_at _ ?_
      rw [ovl_filter (fun k => decide (k = z))]
      simp [e]
  · intro i y hy hf
    have hf' : (gGet (eI .i64) (gSet (eI .i64) p.finished z true) i).getD false = true := hf
    rw [finS_set] at hf'
    rcases zones_set z0 hy with ⟨e, rfl⟩ | ⟨e0, e⟩
    · rfl
    · rw [if_neg e0] at hf'; exact h.fin i y e hf'
  · intro i y hy hc
    show ∃ s, 0 ≤ s ∧ Pre (layD p.safe (p.cached.filter (ofZ z))) i s ∧ Rows (p.cached.filter (fun w => !ofZ z w)) i s y.Point
    rcases zones_set z0 hy with ⟨e, rfl⟩ | ⟨e0, e⟩
    · rw [show z.toNat = i by omega] at hy0
      obtain ⟨s, s0, s1, s2⟩ := h.seq i y0 hy0 hc
      refine ⟨y0.Point, by have := s2.1; omega, ?_, ?_⟩
      · rw [← e]; exact Pre_lay s0 s1 (Rows_in s2)
      · unfold Rows
        rw [e, filt_gone]
        exact ⟨by simp, fun j w hj => by simp at hj⟩
    · obtain ⟨s, s0, s1, s2⟩ := h.seq i y e hc
      refine ⟨s, s0, fun k => ?_, ?_⟩
      · rw [G_lay, map_in, ovl_filter (fun k => decide (k = z))]
        simp only [e0, decide_false, if_false, Bool.false_eq_true]
        exact s1 k
      · unfold Rows
        rw [filt_other e0]; exact s2
  · intro w hw
    exact h.cz w (List.mem_filter.1 hw).1
end Go.AX

namespace Go.AX
set_option autoImplicit false
set_option linter.unusedVariables false
set_option linter.unusedSimpArgs false
set_option maxRecDepth 4000
set_option maxHeartbeats 4000000

theorem Pre_other {m : Mp64} {a : TAt} {x : Ar 64} {z s : Int} (h : a.Zone ≠ z) (hp : Pre m z s) : Pre (gSet eAt m a x) z s := by
  intro i
  rw [G_set]
  unfold put1
  rw [if_neg (fun e => h (by rw [← e]))]
  exact hp i
theorem Pre_next {m : Mp64} {a : TAt} {x : Ar 64} {z s : Int} (h : a.Zone = z) (h1 : a.Off = s) (h0 : 0 ≤ s) (hp : Pre m z s) : Pre (gSet eAt m a x) z (s + 1) := by
  intro i
  rw [G_set]
  unfold put1
  by_cases e : i = s
  · rw [if_pos (at_ext h.symm (e.trans h1.symm))]
    simp; omega
  · rw [if_neg (fun q => e (by rw [← h1, ← q]))]
    rw [hp i]; omega
theorem hadN_set {m : List (Int × Int)} {z z' v : Int} : hadN (gSet (eI .i64) m z v) z' = if z' = z then v else hadN m z' := by
  unfold hadN
  rw [gGet_set (inj_int _) m z z' v]
  split <;> rfl
theorem filt_next {c : List TDev_write} {z : Int} {i : Nat} (h : i < c.length) (hz : c[i].at_.Zone = z) : (c.filter (ofZ z))[((c.take i).filter (ofZ z)).length]? = some c[i] := by
  have : c = c.take i ++ c[i] :: c.drop (i + 1) := by rw [← List.drop_eq_getElem_cons h, List.take_append_drop]
  have h2 : c.filter (ofZ z) = (c.take i).filter (ofZ z) ++ c[i] :: (c.drop (i + 1)).filter (ofZ z) := by
    conv => lhs; rw [this]
    rw [List.filter_append, List.filter_cons_of_pos (by simp [ofZ, hz])]
  rw [h2, List.getElem?_append_right (Nat.le_refl _), Nat.sub_self]; rfl
theorem keep0 (g : TGeom) (w : TWreck) (z : Int) : 0 ≤ keepN g w z := by
  unfold keepN
  split
  · simp only; split <;> omega
  · omega
def cntZ (p : Dv) (z : Int) (i : Nat) : Int := ((p.cached.take i).filter (ofZ z)).length
theorem cntZ_next (p : Dv) (z : Int) {i : Nat} (h : i < p.cached.length) : cntZ p z (i + 1) = cntZ p z i + if p.cached[i].at_.Zone = z then 1 else 0 := by
  unfold cntZ
  rw [List.take_succ_eq_append_getElem h, List.filter_append]
  by_cases e : p.cached[i].at_.Zone = z <;> simp [ofZ, e]
theorem cntZ_le (p : Dv) (z : Int) (i : Nat) : 0 ≤ cntZ p z i ∧ cntZ p z i ≤ i := by
  unfold cntZ
  have := List.length_filter_le (ofZ z) (p.cached.take i)
  rw [List.length_take] at this
  omega
theorem crN_next (p : Dv) (w : TWreck) {i : Nat} (h : i < p.cached.length) : crN p w (i + 1) = crS p.g w p.cached.length i p.cached[i] (crN p w i) := by simp [crN, List.getElem?_eq_getElem h]

theorem crN_nod (p : Dv) (w : TWreck) (h : Nod p.safe) : ∀ i, Nod (crN p w i).2.1
  | 0 => h
  | i + 1 => by
    have ih := crN_nod p w h i
    by_cases hi : i < p.cached.length
    · rw [crN_next p w hi]
      unfold crS
      split
      · simp only
        split
        · exact gNod_set inj_at _ _ _ ih
        · split
          · exact gNod_set inj_at _ _ _ ih
          · exact ih
      · simp only
        split
        · exact gNod_set inj_at _ _ _ ih
        · split
          · exact gNod_set inj_at _ _ _ ih
          · exact ih
    · simp only [crN]
      rw [List.getElem?_eq_none (by omega)]; exact ih
theorem crN_had (p : Dv) (w : TWreck) (hl : p.cached.length ≤ 1000000) (z : Int) (hz : p.g.Conv ≤ z) : ∀ i, i ≤ p.cached.length → hadN (crN p w i).2.2 z = cntZ p z i
  | 0, _ => by simp [crN, hadN, gGet, cntZ]
  | i + 1, hi => by
    have ih := crN_had p w hl z hz i (by omega)
    have hc := cntZ_le p z i
    rw [crN_next p w (by omega), cntZ_next p z (by omega)]
    unfold crS
    by_cases k : p.cached[i].at_.Zone < p.g.Conv
    · rw [if_pos k, if_neg (show ¬ p.cached[i].at_.Zone = z by omega)]; simp only; omega
    · rw [if_neg k]
      simp only [hadN_set]
      by_cases e : z = p.cached[i].at_.Zone
      · rw [if_pos e, if_pos e.symm, ← e, ih]
        exact add_ok (by omega)
      · rw [if_neg e, if_neg (fun q => e q.symm), ih]; omega
theorem crN_pre (p : Dv) (w : TWreck) (hl : p.cached.length ≤ 1000000) {z s t : Int} (hz : p.g.Conv ≤ z) (hs : 0 ≤ s) (hp : Pre p.safe z s) (hr : Rows p.cached z s t) :
    ∀ i, i ≤ p.cached.length → ∃ c, s ≤ c ∧ c ≤ s + cntZ p z i ∧ Pre (crN p w i).2.1 z c ∧ (i < p.cached.length → c = s + min (cntZ p z i) (keepN p.g w z))
  | 0, _ => ⟨s, by omega, by simp [cntZ], hp, fun _ => by have := keep0 p.g w z; simp [cntZ]; omega⟩
  | i + 1, hi => by
    obtain ⟨c, c1, c2, c3, c4⟩ := crN_pre p w hl hz hs hp hr i (by omega)
    have c4 := c4 (by omega)
    have hh := crN_had p w hl z hz i (by omega)
    have hc := cntZ_le p z i
    have hk := keep0 p.g w z
    have hn := cntZ_next p z (show i < p.cached.length by omega)
    rw [crN_next p w (by omega), hn]
    have hx : p.cached[i].at_.Zone = z → p.cached[i].at_.Off = s + cntZ p z i := fun e => hr.2 _ _ (filt_next (by omega) e)
    revert hx
    generalize p.cached[i] = x
    generalize crN p w i = st at *
    obtain ⟨b, m, hd⟩ := st
    intro hx
    unfold crS
    by_cases k : x.at_.Zone < p.g.Conv
    · rw [if_pos k, if_neg (by omega)]
      refine ⟨c, c1, by omega, ?_, fun _ => by omega⟩
      simp only
      split
      · exact Pre_other (by omega) c3
      · split
        · exact Pre_other (by omega) c3
        · exact c3
    · rw [if_neg k]
      by_cases e : x.at_.Zone = z
      · have hx := hx e
        rw [if_pos e]
        simp only [e, hh]
        by_cases q1 : cntZ p z i < keepN p.g w z
        · rw [if_pos q1]
          exact ⟨c + 1, by omega, by omega, Pre_next e (by omega) (by omega) c3, fun _ => by omega⟩
        · rw [if_neg q1]
          by_cases q2 : i + 1 = p.cached.length ∧ cntZ p z i = keepN p.g w z ∧ 0 < w.Tear
          · rw [if_pos q2]
            exact ⟨c + 1, by omega, by omega, Pre_next e (by omega) (by omega) c3, fun _ => by omega⟩
          · rw [if_neg q2]
            exact ⟨c, by omega, by omega, c3, fun _ => by omega⟩
      · rw [if_neg e]
        refine ⟨c, c1, by omega, ?_, fun _ => by omega⟩
        simp only
        split
        · exact Pre_other e c3
        · split
          · exact Pre_other e c3
          · exact c3

/-- What lasts. -/
def lastS (p : Dv) (w : TWreck) : Mp64 := (crN p w p.cached.length).2.1
theorem gap_pre {m : Mp64} {z c : Int} (hp : Pre m z c) (h0 : 0 ≤ c) {n : Int} (hn : c ≤ n) : ((gap (hasS m z) 0 n.toNat : Nat) : Int) = c := by
  rw [gap_is (n := c.toNat)]
  · omega
  · intro j hj
    exact (hp j).2 (by omega)
  · intro h
    have := mt (hp c.toNat).1 (by omega)
    unfold hasS
    simpa using this
  · omega
/-- A zone, once the power is back. -/
def backZ (p : Dv) (z c : Int) : TZone := ⟨if finS p z = true then 3 else if c = 0 then 0 else if c < p.g.Size then 2 else 3, c⟩
theorem pz_of {y : TZone} (h : y.State ≠ 1) : pz y = y := by unfold pz; rw [if_neg h]
theorem crash_seq {n : Nat} {p : Dv} (h : DI n p) (hn : n ≤ 1000000) (w : TWreck) {i : Nat} {y : TZone} (hy : p.zones[i]? = some y) (hi : p.g.Conv ≤ i) :
    ∃ s c, 0 ≤ s ∧ Pre p.safe i s ∧ Rows p.cached i s y.Point ∧ s ≤ c ∧ c ≤ y.Point ∧ Pre (lastS p w) i c ∧ (crashD p w).zones[i]? = some (backZ p i c) := by
  obtain ⟨s, s0, s1, s2⟩ := h.seq i y hy hi
  have hln := h.ln
  obtain ⟨c, c1, c2, c3, _⟩ := crN_pre p w (by omega) hi s0 s1 s2 p.cached.length (Nat.le_refl _)
  have hct : cntZ p i p.cached.length = y.Point - s := by
    have := s2.1
    unfold cntZ
    rw [List.take_length]; omega
  have hlt : i < p.zones.length := by
    rcases Nat.lt_or_ge i p.zones.length with q | q
    · exact q
    · rw [List.getElem?_eq_none q] at hy; cases hy
  have hcell := h.zr.cell i hlt
  rw [List.getElem?_eq_getElem hlt] at hy
  obtain rfl := Option.some.inj hy
  have hc2 := hcell.seq hi
  have hz4 := h.geo.z
  have hfin := h.fin i _ (List.getElem?_eq_getElem hlt)
  refine ⟨s, c, s0, s1, s2, c1, by omega, c3, ?_⟩
  unfold crashD wakeD wakeZ
  simp only [List.getElem?_mapIdx, List.getElem?_map, List.getElem?_eq_getElem hlt, Option.map_some]
  congr 1
  unfold wakeC backZ
  rw [if_neg (by simp only; omega)]
  have hg := gap_pre c3 (by omega) (n := p.g.Size) (by omega)
  simp only [hg]
  have hf : finS { p with safe := (crN p w p.cached.length).2.1 } (i : Int) = finS p i := rfl
  simp only [hf]
  by_cases f1 : finS p i = true
  · have h3 := hfin f1
    rw [if_pos f1, if_pos f1, pz_of (by omega), h3]
  · rw [if_neg f1, if_neg f1]
    by_cases f2 : c = 0
    · rw [if_pos f2, if_pos f2]
    · rw [if_neg f2, if_neg f2]
      by_cases f3 : c < p.g.Size
      · rw [if_pos f3, if_pos f3]
      · rw [if_neg f3, if_neg f3, pz_of (by omega)]
        congr 1; omega
theorem crash_conv {n : Nat} {p : Dv} (h : DI n p) (w : TWreck) {i : Nat} {y : TZone} (hy : p.zones[i]? = some y) (hi : (i : Int) < p.g.Conv) : (crashD p w).zones[i]? = some y := by
  have hlt : i < p.zones.length := by
    rcases Nat.lt_or_ge i p.zones.length with q | q
    · exact q
    · rw [List.getElem?_eq_none q] at hy; cases hy
  have hcell := h.zr.cell i hlt
  rw [List.getElem?_eq_getElem hlt] at hy
  obtain rfl := Option.some.inj hy
  have := hcell.conv hi
  unfold crashD wakeD wakeZ
  simp only [List.getElem?_mapIdx, List.getElem?_map, List.getElem?_eq_getElem hlt, Option.map_some]
  unfold wakeC
  rw [if_pos hi, pz_of (by omega)]
theorem crash_len (p : Dv) (w : TWreck) : (crashD p w).zones.length = p.zones.length := by
  unfold crashD wakeD wakeZ
  simp
theorem DI.crash {n : Nat} {p : Dv} (h : DI n p) (hn : n ≤ 1000000) (w : TWreck) : DI 0 (crashD p w) := by
  have hlen := crash_len p w
  have hz4 := h.geo.z
  have hold : ∀ (i : Nat) y, (crashD p w).zones[i]? = some y → ∃ y0, p.zones[i]? = some y0 := by
    intro i y hy
    rcases Nat.lt_or_ge i p.zones.length with q | q
    · exact ⟨_, List.getElem?_eq_getElem q⟩
    · rw [List.getElem?_eq_none (by omega)] at hy; cases hy
  refine ⟨h.geo, ⟨by rw [hlen]; exact h.zr.len, fun i hi => ?_⟩, crN_nod p w h.ns _, crN_nod p w h.ns _, h.nf, fun a => rfl, ?_, ?_, ?_, ?_, Nat.le_refl _⟩
  · have hy := List.getElem?_eq_getElem hi
    obtain ⟨y0, hy0⟩ := hold i _ hy
    have hlt : i < p.zones.length := by omega
    have hcell := h.zr.cell i hlt
    have e0 : p.zones[i] = y0 := by rw [List.getElem?_eq_getElem hlt] at hy0; exact Option.some.inj hy0
    rw [e0] at hcell
    by_cases k : (i : Int) < p.g.Conv
    · have := crash_conv h w hy0 k
      rw [hy] at this
      rw [Option.some.inj this]
      exact hcell
    · obtain ⟨s, c, a1, a2, a3, a4, a5, a6, a7⟩ := crash_seq h hn w hy0 (by omega)
      rw [hy] at a7
      rw [Option.some.inj a7]
      have hc2 := hcell.seq (by omega)
      refine ⟨fun q => absurd q k, fun _ => ?_⟩
      have hcs : c ≤ p.g.Size := by omega
      unfold backZ
      show ((if finS p i = true then (3 : Int) else if c = 0 then 0 else if c < p.g.Size then 2 else 3) = 0 ∧ c = 0) ∨ ((if finS p i = true then (3 : Int) else if c = 0 then 0 else if c < p.g.Size then 2 else 3) = 1 ∧ 0 ≤ c ∧ c < p.g.Size) ∨ ((if finS p i = true then (3 : Int) else if c = 0 then 0 else if c < p.g.Size then 2 else 3) = 2 ∧ 0 < c ∧ c < p.g.Size) ∨ ((if finS p i = true then (3 : Int) else if c = 0 then 0 else if c < p.g.Size then 2 else 3) = 3 ∧ 0 ≤ c ∧ c ≤ p.g.Size)
      split
      · omega
      · split
        · omega
        · split <;> omega
  · intro i y hy hf
    obtain ⟨y0, hy0⟩ := hold i y hy
    have hf' : finS p i = true := hf
    by_cases k : (i : Int) < p.g.Conv
    · have := crash_conv h w hy0 k
      rw [hy] at this
      rw [Option.some.inj this]
      exact h.fin i y0 hy0 hf'
    · obtain ⟨s, c, a1, a2, a3, a4, a5, a6, a7⟩ := crash_seq h hn w hy0 (by omega)
      rw [hy] at a7
      rw [Option.some.inj a7]
      unfold backZ
      simp only [hf', if_true]
  · intro i y hy hc
    obtain ⟨y0, hy0⟩ := hold i y hy
    obtain ⟨s, c, a1, a2, a3, a4, a5, a6, a7⟩ := crash_seq h hn w hy0 hc
    rw [hy] at a7
    rw [Option.some.inj a7]
    refine ⟨c, by omega, a6, ⟨by show c + 0 = c; omega, fun j w hj => ?_⟩⟩
    cases hj
  · intro w hw
    cases hw
  · show (-1 : Int) < _
    omega
end Go.AX

namespace Go.AX
set_option autoImplicit false
set_option linter.unusedVariables false
set_option linter.unusedSimpArgs false
set_option maxRecDepth 4000
set_option maxHeartbeats 4000000

abbrev ov0 (l : List Cel) : Pl := ovl (fun _ => none) l
structure Sim (n : Nat) (p : Dv) (d : Dk) : Prop where
  g : d.G = p.g
  zs : d.Zones = p.zones
  dn : ∀ z, finS p z = decide (z ∈ d.Done)
  sf : G p.safe = ov0 d.Safe
  ca : d.Cached = p.cached.map cell
  down : d.Down = p.down
  arm : p.down = false → d.Armed = decide (0 < p.left_) ∧ (0 < p.left_ → d.Left = p.left_)
  ls : d.Safe.length + d.Cached.length ≤ n
  ld : d.Done.length ≤ n

theorem Sim.more {n m : Nat} {p : Dv} {d : Dk} (h : Sim n p d) (hm : n ≤ m) : Sim m p d := ⟨h.g, h.zs, h.dn, h.sf, h.ca, h.down, h.arm, Nat.le_trans h.ls hm, Nat.le_trans h.ld hm⟩
theorem Sim.wrong {n : Nat} {p : Dv} {d : Dk} (h : Sim n p d) : Sim n (wrongD p) { d with Illegal := iadd d.Illegal 1 } := ⟨h.g, h.zs, h.dn, h.sf, h.ca, h.down, h.arm, h.ls, h.ld⟩
theorem Sim.tick {n : Nat} {p : Dv} {d : Dk} (h : Sim n p d) (hd : p.down = false) (hl : p.left_ < 9223372036854775808) : Sim n (countD p) (tick d) := by
  obtain ⟨a1, a2⟩ := h.arm hd
  unfold countD Go.AX.tick
  by_cases k : 0 < p.left_
  · have a2 := a2 k
    have hs : isub p.left_ 1 = p.left_ - 1 := sub_ok (by omega)
    rw [if_pos k, a1, if_pos (by simpa using k), a2, hs]
    refine ⟨h.g, h.zs, h.dn, h.sf, h.ca, rfl, fun hn => ?_, h.ls, h.ld⟩
    have hn' : ¬ (p.left_ - 1 = 0) := by simpa using hn
    exact ⟨by simp only; rw [decide_eq_true k, decide_eq_true (by omega)], fun _ => rfl⟩
  · rw [if_neg k, a1, if_neg (by simpa using k)]
    exact h
theorem len_parts {α : Type} (q : α → Bool) : ∀ l : List α, (l.filter q).length + (l.filter fun x => !q x).length = l.length
  | [] => rfl
  | x :: l => by
    have := len_parts q l
    cases h : q x
    · rw [List.filter_cons_of_neg (by simp [h]), List.filter_cons_of_pos (by simp [h])]; simp only [List.length_cons]; omega
    · rw [List.filter_cons_of_pos (by simp [h]), List.filter_cons_of_neg (by simp [h])]; simp only [List.length_cons]; omega

theorem Sim.write {n : Nat} {p : Dv} {d : Dk} (h : Sim n p d) (m : List TZone) (a : TAt) (x : Ar 64) : Sim (n + 1) (writeD p m a x) { d with Zones := m, Cached := d.Cached ++ [⟨a, x⟩] } := by
  refine ⟨h.g, rfl, h.dn, h.sf, ?_, h.down, h.arm, ?_, Nat.le_succ_of_le h.ld⟩
  · show d.Cached ++ _ = (p.cached ++ [(⟨a, x⟩ : TDev_write)]).map cell
    rw [h.ca, List.map_append]; rfl
  · have := h.ls
    simp only [List.length_append, List.length_singleton]; omega
theorem Sim.flush {n : Nat} {p : Dv} {d : Dk} (h : Sim n p d) : Sim n (flushD p) { d with Safe := d.Safe ++ d.Cached, Cached := [] } := by
  refine ⟨h.g, h.zs, h.dn, ?_, rfl, h.down, h.arm, ?_, h.ld⟩
  · show G (layD p.safe p.cached) = ov0 (d.Safe ++ d.Cached)
    rw [G_lay, h.sf, h.ca]
    exact (ovl_app _ _ _).symm
  · have := h.ls
    simp only [List.length_append, List.length_nil]; omega
theorem Sim.reset {n : Nat} {p : Dv} {d : Dk} (h : Sim n p d) (hf : gNod (eI .i64) p.finished = true) (m : List TZone) (z : Int) : Sim n (forgetD { p with zones := m } z)
    { d with Zones := m, Safe := d.Safe.filter (fun c => !decide (c.At.Zone = z)), Cached := d.Cached.filter (fun c => !decide (c.At.Zone = z)), Done := d.Done.filter (fun y => !decide (y = z)) } := by
  refine ⟨h.g, rfl, fun i => ?_, ?_, ?_, h.down, h.arm, ?_, ?_⟩
  · show (gGet (eI .i64) (gDel (eI .i64) p.finished z) i).getD false = _
    rw [finS_del (p := p) hf, show (gGet (eI .i64) p.finished i).getD false = finS p i from rfl, h.dn i]
    by_cases e : i = z
    · simp [e]
    · simp [e]
  · funext a
    show G (outM z p.safe) a = ovl _ (d.Safe.filter (fun c => !decide (c.At.Zone = z))) a
    rw [G_out, ovl_filter (fun k => !decide (k = z)), h.sf]
    by_cases e : a.Zone = z <;> simp [e]
  · show d.Cached.filter _ = (p.cached.filter (fun w => !ofZ z w)).map cell
    rw [map_out, h.ca]
  · have h1 := List.length_filter_le (fun c : Cel => !decide (c.At.Zone = z)) d.Safe
    have h2 := List.length_filter_le (fun c : Cel => !decide (c.At.Zone = z)) d.Cached
    exact Nat.le_trans (Nat.add_le_add h1 h2) h.ls
  · exact Nat.le_trans (List.length_filter_le _ _) h.ld
theorem Sim.finish {n : Nat} {p : Dv} {d : Dk} (h : Sim n p d) (m : List TZone) (z : Int) : Sim (n + 1) (finishD { p with zones := m } z)
    { d with Zones := m, Safe := d.Safe ++ d.Cached.filter (fun c => decide (c.At.Zone = z)), Cached := d.Cached.filter (fun c => !decide (c.At.Zone = z)), Done := d.Done ++ [z] } := by
  refine ⟨h.g, rfl, fun i => ?_, ?_, ?_, h.down, h.arm, ?_, ?_⟩
  · show (gGet (eI .i64) (gSet (eI .i64) p.finished z true) i).getD false = _
    rw [finS_set, show (gGet (eI .i64) p.finished i).getD false = finS p i from rfl, h.dn i]
    by_cases e : i = z
    · simp [e]
    · simp [e]
  · show G (layD p.safe (p.cached.filter (ofZ z))) = ov0 (d.Safe ++ d.Cached.filter (fun c => decide (c.At.Zone = z)))
    rw [G_lay, h.sf, map_in, h.ca]
    exact (ovl_app _ _ _).symm
  · show d.Cached.filter _ = (p.cached.filter (fun w => !ofZ z w)).map cell
    rw [map_out, h.ca]
  · have h1 := len_parts (fun c : Cel => decide (c.At.Zone = z)) d.Cached
    refine Nat.le_succ_of_le ?_
    show (d.Safe ++ d.Cached.filter (fun c : Cel => decide (c.At.Zone = z))).length + (d.Cached.filter (fun c : Cel => !decide (c.At.Zone = z))).length ≤ n
    rw [List.length_append, Nat.add_assoc, h1]
    exact h.ls
  · have := h.ld
    simp only [List.length_append, List.length_singleton]; omega
end Go.AX

namespace Go.AX
set_option autoImplicit false
set_option linter.unusedVariables false
set_option linter.unusedSimpArgs false
set_option maxRecDepth 4000
set_option maxHeartbeats 4000000

theorem shr64 {a s : Int} (h0 : 0 ≤ s ∧ s < 64) : binI .shr .u64 a s = a / 2 ^ s.toNat := by
  show a.fdiv (2 ^ min s.toNat 64) = _
  rw [Nat.min_eq_left (by omega), Int.fdiv_eq_ediv_of_nonneg _ (Int.pow_nonneg (by decide))]
theorem and1 {a : Int} (h : 0 ≤ a ∧ a < 18446744073709551616) : binI .and .u64 a 1 = a % 2 := by
  show IntKind.wrap .u64 ((BitVec.ofInt 64 a &&& BitVec.ofInt 64 1).toNat : Int) = _
  have h1 : (BitVec.ofInt 64 a &&& BitVec.ofInt 64 1).toNat = a.toNat % 2 := by
    rw [BitVec.toNat_and, BitVec.toNat_ofInt, BitVec.toNat_ofInt]
    have : (a % ((2 ^ 64 : Nat) : Int)).toNat = a.toNat := by
      rw [Int.emod_eq_of_lt h.1 (by omega)]
    rw [this]
    exact Nat.and_one_is_mod _
  rw [h1, wrapu (by omega) (by omega)]; omega
theorem bit_eq {w : TWreck} {s : Int} (hw : 0 ≤ w.Soft ∧ w.Soft < 18446744073709551616) (h0 : 0 ≤ s ∧ s < 64) : bitC w s = decide (w.Soft / 2 ^ s.toNat % 2 = 1) := by
  unfold bitC
  rw [rem64 s h0.1, wrapu (by omega) (by omega), show s % 64 = s by omega, shr64 h0, and1]
  constructor
  · exact Int.ediv_nonneg hw.1 (Int.pow_nonneg (by decide))
  · exact Int.lt_of_le_of_lt (Int.ediv_le_self _ hw.1) hw.2

/-- A page torn, byte by byte. -/
theorem tear_loop (x b : Ar 64) (t : Int) (ht : 0 < t) {β : Type} {k : Ar 64 → Option β} :
    Bnd (loop (σ := Int × (Ar 64)) (ρ := ((Ar 64))) (fun s127 => Jn (α := Unit) (fun q131 => Bnd (at? (x.l) s127.1) fun v134 => Bnd (at? (s127.2.l) s127.1) fun v138 => Let (Ar.put s127.2 s127.1 v134) fun a142 => Let (iadd s127.1 1) fun v145 => some (.inl (v145, a142))) fun j132 => Let (clt s127.1 64) fun b134 => bif b134 then (Let (clt s127.1 t) fun b135 => bif b135 then (j132 ()) else (some (.inr (s127.2)))) else (some (.inr (s127.2)))) (0, b)) k = k (torn b x t) := by
  have hx := x.h
  have hb := b.h
  obtain ⟨n, hn⟩ : ∃ n : Nat, n = (if 64 < t then 64 else t).toNat := ⟨_, rfl⟩
  have hn64 : n ≤ 64 := by rw [hn]; split <;> omega
  have hlen : ∀ i, i ≤ 64 → (x.l.take i ++ b.l.drop i).length = 64 := by intro i hi; simp [hx, hb]; omega
  refine bnd_run (fun i => ((i : Int), (if h : i ≤ 64 then ⟨x.l.take i ++ b.l.drop i, hlen i h⟩ else b : Ar 64))) n (torn b x t) (by omega) ?_ ?_ ?_ rfl
  · simp
  · intro i hi
    have hi64 : i < 64 := by omega
    have e1 : (i : Int) < t := by revert hn; split <;> omega
    simp only [jn_eq, let_eq, clt_eq, cond_dec]
    rw [if_pos (by omega), if_pos e1, dif_pos (show i ≤ 64 by omega), dif_pos (show i + 1 ≤ 64 by omega), at?_nat, List.getElem?_eq_getElem (by omega), bnd_some, at?_nat, List.getElem?_eq_getElem (by simp [hx, hb]; omega), bnd_some, show iadd (i : Int) 1 = ((i + 1 : Nat) : Int) from (add_ok (by omega)).trans (by omega)]
    congr 3
    unfold Ar.put
    congr 1
    simp only [Int.toNat_natCast]
    rw [List.set_append_right _ _ (by simp [hx]; omega)]
    have hd : b.l.drop i = b.l[i] :: b.l.drop (i + 1) := List.drop_eq_getElem_cons (by omega)
    rw [hd, show i - (List.take i x.l).length = 0 by simp [hx]; omega, List.set_cons_zero, List.take_succ_eq_append_getElem (by omega), List.append_assoc]
    rfl
  · simp only [jn_eq, let_eq, clt_eq, cond_dec]
    have hr : (if h : n ≤ 64 then (⟨x.l.take n ++ b.l.drop n, hlen n h⟩ : Ar 64) else b) = torn b x t := by
      rw [dif_pos hn64]
      unfold torn
      rw [← hn]
      unfold Ar.cp
      rw [dif_pos (by simp; omega)]
      congr 1
      unfold copyL
      simp [hx, hb, List.take_take, overL, Nat.min_eq_left hn64]
    rw [hr]
    by_cases q : (n : Int) < 64
    · rw [if_pos q, if_neg (by revert hn; split <;> omega)]
    · rw [if_neg q]

theorem crN_soft (p : Dv) (w : TWreck) (hn : p.cached.length ≤ 1000000) : ∀ i, 0 ≤ (crN p w i).1 ∧ (crN p w i).1 ≤ i := by
  intro i
  induction i with
  | zero => simp [crN]
  | succ i ih =>
    simp only [crN]
    by_cases hi : i < p.cached.length
    · rw [List.getElem?_eq_getElem hi]
      simp only [crS]
      split
      · simp only
        rw [show iadd (crN p w i).1 1 = (crN p w i).1 + 1 from add_ok (by omega)]; omega
      · simp only; omega
    · rw [List.getElem?_eq_none (by omega)]; simp only; omega
theorem at_put {a : Ar 64} {z z' v : Int} (h : 0 ≤ z ∧ z < 64) (h' : 0 ≤ z') : at? (a.put z v).l z' = if z' = z then some v else at? a.l z' := by
  have ha := a.h
  unfold at? Ar.put
  rw [if_pos h', if_pos h', List.getElem?_set]
  by_cases e : z' = z
  · subst e
    rw [if_pos rfl, if_pos rfl, if_pos (by omega)]
  · rw [if_neg (by omega), if_neg e]

structure CJ (p : Dv) (d : Dk) (w : TWreck) (i : Nat) (bits soft : Int) (seen : Ar 64) (oS : List Cel) : Prop where
  so : soft = (crN p w i).1
  bi : 0 < soft → bits = w.Soft / 2 ^ soft.toNat
  se : ∀ z, p.g.Conv ≤ z → z < 64 → at? seen.l z = some (hadN (crN p w i).2.2 z)
  sa : G (crN p w i).2.1 = ov0 oS
  ln : oS.length ≤ d.Safe.length + i
  su : ∀ a, (ov0 d.Safe a).isSome = true → (ov0 oS a).isSome = true

theorem ov0_one {m : Mp64} {oS : List Cel} (h : G m = ov0 oS) (a : TAt) (x : Ar 64) : G (gSet eAt m a x) = ov0 (oS ++ [⟨a, x⟩]) := by
  rw [G_set, h]; exact (ovl_one (fun _ => none) oS ⟨a, x⟩).symm
theorem su_one {f : Pl} {oS : List Cel} (c : Cel) (h : ∀ a, (f a).isSome = true → (ov0 oS a).isSome = true) : ∀ a, (f a).isSome = true → (ov0 (oS ++ [c]) a).isSome = true := by
  intro a ha
  show (ovl _ (oS ++ [c]) a).isSome = true
  rw [ovl_one]
  unfold put1
  split
  · rfl
  · exact h a ha

theorem ref_cached {n : Nat} {p : Dv} {d : Dk} (h : DI n p) (s : Sim n p d) (hn : n ≤ 60) (w : TWreck) (hw : 0 ≤ w.Soft ∧ w.Soft < 18446744073709551616) {β : Type} {k : List Cel → Option β} {G' : Option β → Prop}
    (hk : ∀ L, G (lastS p w) = ov0 L → L.length ≤ d.Safe.length + d.Cached.length → G' (k L)) :
    G' (Bnd (loop (σ := Int × Int × Int × (Ar 64) × (List TRef05_Cell)) (ρ := ((List TRef05_Cell))) (fun s73 => Let (ln d.Cached) fun v83 => Let (clt s73.2.2.1 v83) fun b84 => bif b84 then (Bnd (at? d.Cached s73.2.2.1) fun y85 => Jn (α := Int × Int × Bool × Bool × (Ar 64)) (fun q94 => bif q94.2.2.1 then (Bnd (app? 80 s73.2.2.2.2 [(TRef05_Cell.mk y85.At y85.Page)]) fun l105 => Let (iadd s73.2.2.1 1) fun v109 => some (.inl (q94.1, q94.2.1, v109, q94.2.2.2.2, l105))) else (Jn (α := Bool) (fun q104 => bif q104 then (Jn (α := (Ar 64)) (fun q108 => Jn (α := (Ar 64)) (fun q114 => Bnd (app? 80 s73.2.2.2.2 [(TRef05_Cell.mk y85.At q114)]) fun l121 => Let (iadd s73.2.2.1 1) fun v125 => some (.inl (q94.1, q94.2.1, v125, q94.2.2.2.2, l121))) fun j115 => Bnd (loop (σ := Int × (Ar 64)) (ρ := ((Ar 64))) (fun s127 => Jn (α := Unit) (fun q131 => Bnd (at? (y85.Page.l) s127.1) fun v134 => Bnd (at? (s127.2.l) s127.1) fun v138 => Let (Ar.put s127.2 s127.1 v134) fun a142 => Let (iadd s127.1 1) fun v145 => some (.inl (v145, a142))) fun j132 => Let (clt s127.1 64) fun b134 => bif b134 then (Let (clt s127.1 w.Tear) fun b135 => bif b135 then (j132 ()) else (some (.inr (s127.2)))) else (some (.inr (s127.2)))) (0, q108)) fun q117 => j115 (q117)) fun j109 => Let (clt y85.At.Zone d.G.Conv) fun b111 => bif b111 then (Bnd (m_ref05_Find d.Safe y85.At) fun r112 => Bnd (m_ref05_Find s73.2.2.2.2 y85.At) fun r118 => bif r118.2 then (j109 (r118.1)) else (j109 (r112.1))) else (j109 ((Ar.zero 64)))) else (Let (iadd s73.2.2.1 1) fun v108 => some (.inl (q94.1, q94.2.1, v108, q94.2.2.2.2, s73.2.2.2.2)))) fun j105 => bif q94.2.2.2.1 then (Let (ln d.Cached) fun v107 => Let (isub v107 1) fun v108 => Let (ceq s73.2.2.1 v108) fun b109 => bif b109 then (Let (cgt w.Tear 0) fun b110 => j105 (b110)) else (j105 (false))) else (j105 (false)))) fun j95 => Let (clt y85.At.Zone d.G.Conv) fun b97 => bif b97 then (Jn (α := Int) (fun q98 => Bnd (nz? 2) fun _ => Let (binI .rem .u64 q98 2) fun v102 => Let (ceq v102 1) fun b103 => Bnd (nz? 2) fun _ => Let (binI .quo .u64 q98 2) fun v104 => Let (iadd s73.2.1 1) fun v105 => j95 (v104, v105, b103, true, s73.2.2.2.1)) fun j99 => Bnd (nz? 64) fun _ => Let (binI .rem .i64 s73.2.1 64) fun v101 => Let (ceq v101 0) fun b102 => bif b102 then (j99 (w.Soft)) else (j99 (s73.1))) else (Jn (α := Int) (fun q98 => Bnd (at? (s73.2.2.2.1.l) y85.At.Zone) fun v102 => Let (clt v102 q98) fun b106 => Bnd (at? (s73.2.2.2.1.l) y85.At.Zone) fun v107 => Let (ceq v107 q98) fun b111 => Bnd (at? (s73.2.2.2.1.l) y85.At.Zone) fun v112 => Let (iadd v112 1) fun v116 => Bnd (at? (s73.2.2.2.1.l) y85.At.Zone) fun v117 => Let (Ar.put s73.2.2.2.1 y85.At.Zone v116) fun a121 => j95 (s73.1, s73.2.1, b106, b111, a121)) fun j99 => Jn (α := Bool) (fun q101 => bif q101 then (Let (isub y85.At.Zone d.G.Conv) fun v105 => Bnd (at? w.Keep v105) fun y106 => j99 (y106)) else (j99 (0))) fun j102 => Let (isub y85.At.Zone d.G.Conv) fun v104 => Let (ln w.Keep) fun v105 => Let (clt v104 v105) fun b106 => bif b106 then (Let (isub y85.At.Zone d.G.Conv) fun v107 => Bnd (at? w.Keep v107) fun y108 => Let (cgt y108 0) fun b113 => j102 (b113)) else (j102 (false)))) else (some (.inr (s73.2.2.2.2)))) (w.Soft, 0, 0, (Ar.zero 64), d.Safe)) k) := by
  have hgc := h.geo.c
  have hln := h.ln
  have hls := s.ls
  have hcl : d.Cached.length = p.cached.length := by rw [s.ca, List.length_map]
  refine bnd_rnd G' (fun st => ∃ i : Nat, i ≤ p.cached.length ∧ st.2.2.1 = i ∧ CJ p d w i st.1 st.2.1 st.2.2.2.1 st.2.2.2.2) (fun st => (p.cached.length - st.2.2.1).toNat) (fun L => G (lastS p w) = ov0 L ∧ L.length ≤ d.Safe.length + d.Cached.length) ⟨0, Nat.zero_le _, rfl, ⟨rfl, fun h => absurd (show (0 : Int) < 0 from h) (by decide), fun z h1 h2 => ?_, s.sf, Nat.le_refl _, fun a h => h⟩⟩ (by simp only; omega) ?_ (fun L hL => hk L hL.1 hL.2)
  · rw [at?_ok (y := 0) (by omega)]
    · simp [crN, hadN, gGet]
    · simp only [Ar.zero]
      rw [List.getElem?_replicate, if_pos (by omega)]
  · rintro ⟨bits, soft, ii, seen, oS⟩ ⟨i, hi, e1, J⟩
    simp only at e1 J
    subst e1
    simp only [let_eq, jn_eq, clt_eq, cond_dec, ln]
    by_cases hlt : i < p.cached.length
    · have hsof := crN_soft p w (by omega) i
      have hczx := h.cz _ (List.getElem_mem hlt)
      have hcs := h.geo.cs
      have hx := crN_next p w hlt
      have hat : at? d.Cached (i : Int) = some (cell p.cached[i]) := by
        rw [at?_nat, s.ca, List.getElem?_map, List.getElem?_eq_getElem hlt]; rfl
      have hhl := crN_had p w (by omega)
      obtain ⟨j1, j2, j3, j4, j5, j6⟩ := J
      subst j1
      revert hx hat hczx hsof j2 j3 j4
      generalize hP : crN p w i = st
      generalize hS : crN p w (i + 1) = st'
      generalize p.cached[i] = x
      obtain ⟨a, m, hd⟩ := st
      intro hsof hczx hx hat j3 j4 j2
      simp only at hsof hx j2 j3 j4
      rw [if_pos (by omega), hat, bnd_some, s.g]
      have e0 : iadd (i : Int) 1 = ((i + 1 : Nat) : Int) := (add_ok (by omega)).trans (by omega)
      have elast : ((i : Int) = isub (d.Cached.length : Int) 1) ↔ (i + 1 = p.cached.length) := by rw [show isub (d.Cached.length : Int) 1 = (d.Cached.length : Int) - 1 from sub_ok (by omega)]; omega
      have hap : ∀ c : Cel, app? 80 oS [c] = some (oS ++ [c]) := fun c => app_ok (by simp; omega)
      have hfa := find_eq oS x.at_ (by omega)
      have hfb := find_eq d.Safe x.at_ (by omega)
      simp only [cell, e0, cgt_eq, elast, ceq_eq, cond_dec]
      by_cases k : x.at_.Zone < p.g.Conv
      · have e3 : nz? 2 = some () := rfl
        have e4 : nz? 64 = some () := rfl
        have e5 : binI .rem .i64 a 64 = a := by rw [rem64 a hsof.1]; omega
        obtain ⟨B, hBd⟩ : ∃ B, B = w.Soft / 2 ^ a.toNat := ⟨_, rfl⟩
        have hcase : (a = 0 ∧ w.Soft = B) ∨ (¬ a = 0 ∧ bits = B) := by
          by_cases q : a = 0
          · refine .inl ⟨q, ?_⟩
            rw [hBd, q]; simp
          · refine .inr ⟨q, ?_⟩
            rw [hBd]; exact j2 (by omega)
        have hB0 : 0 ≤ B := hBd ▸ Int.ediv_nonneg hw.1 (Int.pow_nonneg (by decide))
        have hB1 : B < 18446744073709551616 := hBd ▸ Int.lt_of_le_of_lt (Int.ediv_le_self _ hw.1) hw.2
        have hbit := bit_eq hw (s := a) (by omega)
        rw [← hBd] at hbit
        have hnext : B / 2 = w.Soft / 2 ^ (a + 1).toNat := by
          rw [hBd]
          rw [show (a + 1).toNat = a.toNat + 1 by omega, Int.pow_succ, Int.ediv_ediv_of_nonneg (Int.pow_nonneg (by decide))]
        have hrem : ∀ b : Int, 0 ≤ b → binI .rem .u64 b 2 = b % 2 := fun b hb => by
          show b.tmod 2 = _
          rw [Int.tmod_eq_emod_of_nonneg hb]
        have hquo : ∀ b : Int, 0 ≤ b → b < 18446744073709551616 → binI .quo .u64 b 2 = b / 2 := fun b hb hb1 => by
          show IntKind.wrap .u64 (b.tdiv 2) = _
          rw [Int.tdiv_eq_ediv_of_nonneg hb, wrapu (by omega) (by omega)]
        have ea : iadd a 1 = a + 1 := add_ok (by omega)
        simp only [k, if_true, e3, e4, bnd_some, e5, ea, hfa, hfb, cond_true, cond_dec]
        have hst : st'.1 = a + 1 ∧ st'.2.2 = hd := by
          rw [hx]; unfold crS; rw [if_pos k]; exact ⟨ea, rfl⟩
        have fin : ∀ oS' : List Cel, G st'.2.1 = ov0 oS' → oS'.length ≤ oS.length + 1 → (∀ a, (ov0 d.Safe a).isSome = true → (ov0 oS' a).isSome = true) → CJ p d w (i + 1) (B / 2) (a + 1) seen oS' := by
          intro oS' f1 f2 f3
          refine ⟨by rw [hS]; exact hst.1.symm, fun _ => hnext, fun z z1 z2 => by rw [hS, hst.2]; exact j3 z z1 z2, by rw [hS]; exact f1, by omega, f3⟩
        rcases hcase with ⟨q0, e⟩ | ⟨q0, e⟩
        case' inl => rw [if_pos q0, e]
        case' inr => rw [if_neg q0, e]
        all_goals
          simp only [hrem B hB0, hquo B hB0 hB1]
          by_cases b : B % 2 = 1
          · rw [if_pos b, hap, bnd_some]
            refine rnd_l ⟨i + 1, by omega, rfl, fin _ ?_ (by simp) (su_one _ j6)⟩ (by simp only; omega)
            rw [hx]; unfold crS
            rw [if_pos k]
            simp only
            rw [if_pos (by rw [hbit]; simpa using b)]
            exact ov0_one j4 _ _
          · rw [if_neg b]
            have hbf : ¬ bitC w a = true := by rw [hbit]; simpa using b
            by_cases l : i + 1 = p.cached.length
            · rw [if_pos l]
              by_cases t : 0 < w.Tear
              · rw [if_pos t]
                have hpg : (ovl (fun _ => none) oS x.at_).isSome = true ∨ ((ovl (fun _ => none) oS x.at_).isSome = false ∧ (ovl (fun _ => none) d.Safe x.at_).getD (Ar.zero 64) = (ovl (fun _ => none) oS x.at_).getD (Ar.zero 64)) := by
                  have j6x := j6 x.at_
                  change (ovl (fun _ => none) d.Safe x.at_).isSome = true → (ovl (fun _ => none) oS x.at_).isSome = true at j6x
                  revert j6x
                  generalize ovl (fun _ => none) oS x.at_ = u
                  generalize ovl (fun _ => none) d.Safe x.at_ = v
                  intro j6x
                  cases u with
                  | some u => exact .inl rfl
                  | none =>
                    cases v with
                    | none => exact .inr ⟨rfl, rfl⟩
                    | some v => exact absurd (j6x rfl) (by decide)
                have htl := fun (b : Ar 64) (k : Ar 64 → Option (Sum (Int × Int × Int × Ar 64 × List Cel) (List Cel))) => tear_loop x.page b w.Tear t (k := k)
                simp only [let_eq, jn_eq, clt_eq, cond_dec] at htl
                rcases hpg with e | ⟨e, e2⟩
                case' inl => simp only [e, cond_true, if_true]
                case' inr => simp only [e, cond_false, e2, if_false, Bool.false_eq_true]
                all_goals
                  simp only [htl, hap, bnd_some]
                  refine rnd_l ⟨i + 1, by omega, rfl, fin _ ?_ (by simp) (su_one _ j6)⟩ (by simp only; omega)
                  rw [hx]; unfold crS
                  rw [if_pos k]
                  simp only
                  rw [if_neg hbf, if_pos ⟨l, t⟩]
                  rw [show gGet eAt m x.at_ = ov0 oS x.at_ from congrFun j4 _]
                  exact ov0_one j4 _ _
              · rw [if_neg t]
                refine rnd_l ⟨i + 1, by omega, rfl, fin oS ?_ (Nat.le_succ _) j6⟩ (by simp only; omega)
                rw [hx]; unfold crS
                rw [if_pos k]
                simp only
                rw [if_neg hbf, if_neg (fun q => t q.2)]
                exact j4
            · rw [if_neg l]
              refine rnd_l ⟨i + 1, by omega, rfl, fin oS ?_ (Nat.le_succ _) j6⟩ (by simp only; omega)
              rw [hx]; unfold crS
              rw [if_pos k]
              simp only
              rw [if_neg hbf, if_neg (fun q => l q.1)]
              exact j4
      · have hsee := j3 x.at_.Zone (by omega) (by omega)
        have hsub : isub x.at_.Zone p.g.Conv = x.at_.Zone - p.g.Conv := sub_ok (by omega)
        have hhd : 0 ≤ hadN hd x.at_.Zone ∧ hadN hd x.at_.Zone ≤ i := by
          have := hhl x.at_.Zone (by omega) i hi
          rw [hP] at this
          rw [this]; exact cntZ_le _ _ _
        simp only [k, if_false, hsub, hsee, bnd_some, cond_dec]
        have hkeep : ∀ (F : Int → Option (Sum (Int × Int × Int × Ar 64 × List Cel) (List Cel))), (if x.at_.Zone - p.g.Conv < (w.Keep.length : Int) then Bnd (at? w.Keep (x.at_.Zone - p.g.Conv)) fun y108 => (if 0 < y108 then Bnd (at? w.Keep (x.at_.Zone - p.g.Conv)) fun y106 => F y106 else F 0) else F 0) = F (keepN p.g w x.at_.Zone) := by
          intro F
          unfold keepN
          by_cases q : x.at_.Zone - p.g.Conv < (w.Keep.length : Int)
          · obtain ⟨j, hj⟩ := Int.eq_ofNat_of_zero_le (show 0 ≤ x.at_.Zone - p.g.Conv by omega)
            rw [if_pos q, if_pos q, hj, at?_nat, List.getElem?_eq_getElem (by omega), bnd_some, Int.toNat_natCast, List.getD_eq_getElem?_getD, List.getElem?_eq_getElem (by omega)]
            simp only [Option.getD_some, bnd_some]
            by_cases q2 : 0 < w.Keep[j]
            · rw [if_pos q2, if_neg (by omega)]
            · rw [if_neg q2]
              by_cases q3 : w.Keep[j] < 0
              · rw [if_pos q3]
              · rw [if_neg q3, show w.Keep[j] = 0 by omega]
          · rw [if_neg q, if_neg q]
        simp only [hkeep, cond_false, cond_dec]
        have hst : st'.1 = a ∧ st'.2.2 = gSet (eI .i64) hd x.at_.Zone (iadd (hadN hd x.at_.Zone) 1) := by
          rw [hx]; unfold crS; rw [if_neg k]; exact ⟨rfl, rfl⟩
        have fin : ∀ oS' : List Cel, G st'.2.1 = ov0 oS' → oS'.length ≤ oS.length + 1 → (∀ a, (ov0 d.Safe a).isSome = true → (ov0 oS' a).isSome = true) → CJ p d w (i + 1) bits a (seen.put x.at_.Zone (iadd (hadN hd x.at_.Zone) 1)) oS' := by
          intro oS' f1 f2 f3
          refine ⟨by rw [hS]; exact hst.1.symm, j2, fun z z1 z2 => ?_, by rw [hS]; exact f1, by omega, f3⟩
          rw [hS, hst.2, hadN_set, at_put (by omega) (by omega)]
          by_cases e : z = x.at_.Zone
          · rw [if_pos e, if_pos e]
          · rw [if_neg e, if_neg e]; exact j3 z z1 z2
        by_cases b : hadN hd x.at_.Zone < keepN p.g w x.at_.Zone
        · rw [if_pos b, hap, bnd_some]
          refine rnd_l ⟨i + 1, by omega, rfl, fin _ ?_ (by simp) (su_one _ j6)⟩ (by simp only; omega)
          rw [hx]; unfold crS
          rw [if_neg k]
          simp only
          rw [if_pos b]
          exact ov0_one j4 _ _
        · rw [if_neg b]
          by_cases q : hadN hd x.at_.Zone = keepN p.g w x.at_.Zone
          · rw [if_pos q]
            by_cases l : i + 1 = p.cached.length
            · rw [if_pos l]
              by_cases t : 0 < w.Tear
              · rw [if_pos t]
                have htl := fun (b : Ar 64) (k : Ar 64 → Option (Sum (Int × Int × Int × Ar 64 × List Cel) (List Cel))) => tear_loop x.page b w.Tear t (k := k)
                simp only [let_eq, jn_eq, clt_eq, cond_dec] at htl
                simp only [htl, hap, bnd_some]
                refine rnd_l ⟨i + 1, by omega, rfl, fin _ ?_ (by simp) (su_one _ j6)⟩ (by simp only; omega)
                rw [hx]; unfold crS
                rw [if_neg k]
                simp only
                rw [if_neg b, if_pos ⟨l, q, t⟩]
                exact ov0_one j4 _ _
              · rw [if_neg t]
                refine rnd_l ⟨i + 1, by omega, rfl, fin oS ?_ (Nat.le_succ _) j6⟩ (by simp only; omega)
                rw [hx]; unfold crS
                rw [if_neg k]
                simp only
                rw [if_neg b, if_neg (fun q => t q.2.2)]
                exact j4
            · rw [if_neg l]
              refine rnd_l ⟨i + 1, by omega, rfl, fin oS ?_ (Nat.le_succ _) j6⟩ (by simp only; omega)
              rw [hx]; unfold crS
              rw [if_neg k]
              simp only
              rw [if_neg b, if_neg (fun q => l q.1)]
              exact j4
          · rw [if_neg q]
            refine rnd_l ⟨i + 1, by omega, rfl, fin oS ?_ (Nat.le_succ _) j6⟩ (by simp only; omega)
            rw [hx]; unfold crS
            rw [if_neg k]
            simp only
            rw [if_neg b, if_neg (fun r => q r.2.1)]
            exact j4
    · obtain rfl : i = p.cached.length := by omega
      rw [if_neg (by omega)]
      exact rnd_r ⟨J.sa, by have := J.ln; omega⟩
end Go.AX

namespace Go.AX
set_option autoImplicit false
set_option linter.unusedVariables false
set_option linter.unusedSimpArgs false
set_option maxRecDepth 4000
set_option maxHeartbeats 4000000

/-- The reference's search for the first page that isn't there. -/
theorem ref_gap (g : TGeom) (hg : Geo g) (hso : g.Soft ≤ 65536) (L : List Cel) (hL : L.length ≤ 1000000) (z : Int) :
    ∃ r : Int, loop (σ := Int) (ρ := Int) (fun s123 => Bnd (m_ref03_Sectors g z) fun r124 => Let (clt s123 r124) fun b127 => bif b127 then (Bnd (m_ref05_Find L (TAt.mk z s123)) fun r128 => Let (!r128.2) fun b134 => bif b134 then (some (.inr (s123))) else (Let (iadd s123 1) fun v135 => some (.inl (v135)))) else (some (.inr (s123)))) 0 = some r ∧
      (0 ≤ r ∧ (∀ j, 0 ≤ j → j < r → (ov0 L ⟨z, j⟩).isSome = true) ∧ (r < Sect g z → (ov0 L ⟨z, r⟩).isSome = false) ∧ (0 ≤ Sect g z → r ≤ Sect g z)) := by
  have hS : Sect g z ≤ 65536 := by
    have := hg.z
    unfold Sect
    repeat' split
    all_goals omega
  refine loop_inv (fun s => 0 ≤ s ∧ (∀ j, 0 ≤ j → j < s → (ov0 L ⟨z, j⟩).isSome = true) ∧ (0 ≤ Sect g z → s ≤ Sect g z)) (fun s => (Sect g z - s).toNat) _ ⟨by omega, fun j a b => by omega, fun h => h⟩ (by omega) ?_
  rintro s ⟨k1, k2, k3⟩
  rw [ref03Sectors g hg, bnd_some]
  simp only [let_eq, clt_eq, cond_dec]
  by_cases h : s < Sect g z
  · rw [if_pos h, find_eq L _ hL, bnd_some]
    cases hq : (ovl (fun _ => none) L (⟨z, s⟩ : TAt)).isSome with
    | true =>
      have e : iadd s 1 = s + 1 := add_ok (by omega)
      refine .inl ⟨s + 1, by simp [hq, e], ⟨by omega, fun j a b => ?_, fun _ => by omega⟩, by omega⟩
      by_cases ej : j = s
      · rw [ej]; exact hq
      · exact k2 j a (by omega)
    | false => exact .inr ⟨s, by simp [hq], k1, k2, fun _ => hq, k3⟩
  · rw [if_neg h]
    exact .inr ⟨s, rfl, k1, k2, fun h' => absurd h' h, k3⟩

theorem crash_ref {n : Nat} {p : Dv} {d : Dk} (h : DI n p) (s : Sim n p d) (hn : n ≤ 60) (hso : p.g.Soft ≤ 65536) (w : TWreck) (hw : 0 ≤ w.Soft ∧ w.Soft < 18446744073709551616) :
    ∃ o, m_ref05_Crash d w = some o ∧ o.Cached = [] ∧ Sim n (crashD p w) o := by
  have hls := s.ls
  unfold m_ref05_Crash
  rw [app_ok (by simp; omega), bnd_some, List.nil_append]
  refine ref_cached h s hn w hw (G' := fun r => ∃ o, r = some o ∧ o.Cached = [] ∧ Sim n (crashD p w) o) ?_
  intro L hL hLl
  have hlen := crash_len p w
  have hsm := h.zr.small h.geo
  refine ⟨⟨d.G, (crashD p w).zones, d.Done, L, [], false, 0, false, d.Illegal⟩, ?_, rfl, ⟨s.g, rfl, s.dn, hL, rfl, rfl, fun _ => ⟨rfl, fun h => absurd (show (0 : Int) < -1 from h) (by decide)⟩, by simp only [List.length_nil]; omega, s.ld⟩⟩
  rw [s.g, s.zs]
  refine bnd_run (fun i => ((i : Int), (crashD p w).zones.take i)) p.zones.length (crashD p w).zones (by omega) (by simp) ?_ ?_ rfl
  · intro i hi
    obtain ⟨r, hr, r1, r2, r3, r4⟩ := ref_gap p.g h.geo hso L (by omega) i
    have hcell := h.zr.cell i hi
    have hy := List.getElem?_eq_getElem hi
    have hlenz := h.zr.len
    have hi2 : i < (crashD p w).zones.length := by omega
    simp only [let_eq, jn_eq, clt_eq, ln, cond_dec, cge_eq, ceq_eq] at hr ⊢
    rw [if_pos (by omega), at?_nat, hy, bnd_some, hr, bnd_some, has_eq d.Done i (by have := s.ld; omega), bnd_some, ← s.dn i, List.take_succ_eq_append_getElem hi2, show iadd (i : Int) 1 = ((i + 1 : Nat) : Int) from (add_ok (by omega)).trans (by omega)]
    have hap : ∀ c : TZone, app? 16 ((crashD p w).zones.take i) [c] = some ((crashD p w).zones.take i ++ [c]) := fun c => app_ok (by simp; omega)
    simp only [hap, bnd_some]
    by_cases k : (i : Int) < p.g.Conv
    · have := crash_conv h w hy k
      rw [List.getElem?_eq_getElem hi2] at this
      rw [if_neg (by omega), Option.some.inj this]
    · obtain ⟨s0, c, a1, a2, a3, a4, a5, a6, a7⟩ := crash_seq h (by omega) w hy (by omega)
      rw [List.getElem?_eq_getElem hi2] at a7
      have hsect := Sect.seq (g := p.g) (z := i) (by omega) (by omega) h.geo
      have hc2 := hcell.seq (by omega)
      have hz4 := h.geo.z
      have hcs : c ≤ p.g.Size := by omega
      have hrc : r = c := by
        have pre : ∀ j, (ov0 L ⟨(i : Int), j⟩).isSome = true ↔ 0 ≤ j ∧ j < c := fun j => by rw [← hL]; exact a6 j
        by_cases q1 : r < c
        · have := (pre r).2 ⟨r1, q1⟩
          rw [r3 (by omega)] at this; cases this
        · by_cases q2 : c < r
          · have := r2 c (by omega) q2
            have := (pre c).1 this
            omega
          · omega
      rw [if_pos (by omega), Option.some.inj a7, hrc]
      unfold backZ
      cases hf : finS p (i : Int) with
      | true => simp
      | false =>
        simp only [cond_false, Bool.false_eq_true, if_false]
        by_cases q2 : c = 0
        · rw [if_pos q2, if_neg (show ¬ c = p.g.Size by omega), if_pos q2]
        · rw [if_neg q2]
          by_cases q1 : c = p.g.Size
          · rw [if_pos q1, if_neg q2, if_neg (show ¬ c < p.g.Size by omega)]
          · rw [if_neg q1, if_neg q2, if_pos (show c < p.g.Size by omega)]
  · simp only [let_eq, clt_eq, ln, cond_dec]
    rw [if_neg (by omega), List.take_of_length_le (by omega)]

/-! #### one act -/
theorem play_arm (p : Dv) (a : TRef05_Act) (hk : kd a = 7) : m_ref05_Play a p = some (0, if p.down = true then p else { p with left_ := a.N, down := decide (a.N = 0) }) := by
  unfold m_ref05_Play m___dev_Device__Arm
  rw [show nz? 9 = some () from rfl, bnd_some]
  unfold kd at hk
  simp only [let_eq, hk, ceq_eq, cond_dec, if_true, show ¬ (7 : Int) = 4 by decide, show ¬ (7 : Int) = 5 by decide, show ¬ (7 : Int) = 6 by decide, if_false]
  obtain ⟨g, zs, fi, sa, nw, ca, le, dn, il⟩ := p
  cases dn <;> simp [lenq]
theorem step_write {n : Nat} {p : Dv} {d : Dk} {a : TRef05_Act} (h : DI n p) (s : Sim n p d) (hn : n ≤ 60) (hk : kd a ≤ 3) :
    ∃ e p' d' e', m_ref05_Play a p = some (e, p') ∧ m_ref05_Do d a = some (d', e') ∧ DI (n + 1) p' ∧ Sim (n + 1) p' d' ∧ p'.g = p.g := by
  obtain ⟨m, e, z1, z2, z3, z4⟩ := zW p.g h.geo p.zones h.zr a.At
  have hls := s.ls
  have hln := h.ln
  have hp : m_ref05_Play a p = some (comD p e (writeD p m a.At a.Page)) := by
    unfold m_ref05_Play
    rw [show nz? 9 = some () from rfl, bnd_some]
    unfold kd at hk
    simp only [let_eq, ceq_eq, cond_dec]
    rw [if_neg (by omega), if_neg (by omega), if_neg (by omega), if_neg (by omega), if_neg (by omega), Write_eq p a.At a.Page z1 z3 (by omega)]
    rfl
  rw [hp]
  unfold comD
  by_cases hd : p.down = true
  · rw [if_pos hd]
    exact ⟨2, p, d, 2, rfl, do_down d a (by omega) (by omega) (by rw [s.down]; exact hd), h.more (by omega), s.more (by omega), rfl⟩
  · rw [if_neg hd]
    have hd' : p.down = false := by simpa using hd
    have hdo := do_write d a hk (by rw [s.down]; exact hd') (m := m) (e := e) (by rw [s.g, s.zs]; exact z2) (by omega)
    rw [hdo]
    unfold okD
    by_cases he : e = 0
    · rw [if_pos he, if_pos he]
      have hq := h.write (z4 he) (x := a.Page)
      exact ⟨_, _, _, _, rfl, rfl, hq.count, (s.write m a.At a.Page).tick hd' h.le, by unfold countD; split <;> rfl⟩
    · rw [if_neg he, if_neg he]
      exact ⟨_, _, _, _, rfl, rfl, h.wrong.more (by omega), s.wrong.more (by omega), rfl⟩
theorem step_reset {n : Nat} {p : Dv} {d : Dk} {a : TRef05_Act} (h : DI n p) (s : Sim n p d) (hn : n ≤ 60) (hk : kd a = 4) :
    ∃ e p' d' e', m_ref05_Play a p = some (e, p') ∧ m_ref05_Do d a = some (d', e') ∧ DI (n + 1) p' ∧ Sim (n + 1) p' d' ∧ p'.g = p.g := by
  obtain ⟨m, e, z1, z2, z3, z4⟩ := zR p.g h.geo p.zones h.zr a.At
  have hls := s.ls
  have hln := h.ln
  have hp : m_ref05_Play a p = some (comD p e (forgetD { p with zones := m } a.At.Zone)) := by
    unfold m_ref05_Play
    rw [show nz? 9 = some () from rfl, bnd_some]
    unfold kd at hk
    simp only [let_eq, ceq_eq, cond_dec, hk, if_true]
    rw [Reset_eq p a.At.Zone z1 z3 h.ns h.nn (by omega)]
    rfl
  rw [hp]
  unfold comD
  by_cases hd : p.down = true
  · rw [if_pos hd]
    exact ⟨2, p, d, 2, rfl, do_down d a (by omega) (by omega) (by rw [s.down]; exact hd), h.more (by omega), s.more (by omega), rfl⟩
  · rw [if_neg hd]
    have hd' : p.down = false := by simpa using hd
    have hdo := do_reset d a hk (by rw [s.down]; exact hd') (m := m) (e := e) (by rw [s.g, s.zs]; exact z2) (by omega) (by omega) (by have := s.ld; omega)
    rw [hdo]
    unfold okD
    by_cases he : e = 0
    · rw [if_pos he, if_pos he]
      obtain ⟨y1, y2, rfl⟩ := z4 he
      exact ⟨_, _, _, _, rfl, rfl, (h.reset y1 y2).count.more (by omega), ((s.reset h.nf _ a.At.Zone).tick hd' h.le).more (by omega), by unfold countD; split <;> rfl⟩
    · rw [if_neg he, if_neg he]
      exact ⟨_, _, _, _, rfl, rfl, h.wrong.more (by omega), s.wrong.more (by omega), rfl⟩
theorem step_finish {n : Nat} {p : Dv} {d : Dk} {a : TRef05_Act} (h : DI n p) (s : Sim n p d) (hn : n ≤ 60) (hk : kd a = 5) :
    ∃ e p' d' e', m_ref05_Play a p = some (e, p') ∧ m_ref05_Do d a = some (d', e') ∧ DI (n + 1) p' ∧ Sim (n + 1) p' d' ∧ p'.g = p.g := by
  obtain ⟨m, e, z1, z2, z3, z4⟩ := zF p.g h.geo p.zones h.zr a.At
  have hls := s.ls
  have hln := h.ln
  have hp : m_ref05_Play a p = some (comD p e (finishD { p with zones := m } a.At.Zone)) := by
    unfold m_ref05_Play
    rw [show nz? 9 = some () from rfl, bnd_some]
    unfold kd at hk
    simp only [let_eq, ceq_eq, cond_dec, hk, if_true, show ¬ (5 : Int) = 4 by decide, if_false]
    rw [Finish_eq p a.At.Zone z1 z3 (by omega)]
    rfl
  rw [hp]
  unfold comD
  by_cases hd : p.down = true
  · rw [if_pos hd]
    exact ⟨2, p, d, 2, rfl, do_down d a (by omega) (by omega) (by rw [s.down]; exact hd), h.more (by omega), s.more (by omega), rfl⟩
  · rw [if_neg hd]
    have hd' : p.down = false := by simpa using hd
    have hdo := do_finish d a hk (by rw [s.down]; exact hd') (m := m) (e := e) (by rw [s.g, s.zs]; exact z2) (by omega) (by omega) (by have := s.ld; omega)
    rw [hdo]
    unfold okD
    by_cases he : e = 0
    · rw [if_pos he, if_pos he]
      obtain ⟨y1, y2, y3, y4, y5, rfl⟩ := z4 he
      exact ⟨_, _, _, _, rfl, rfl, (h.finish y1 y2 y4).count.more (by omega), (s.finish _ a.At.Zone).tick hd' h.le, by unfold countD; split <;> rfl⟩
    · rw [if_neg he, if_neg he]
      exact ⟨_, _, _, _, rfl, rfl, h.wrong.more (by omega), s.wrong.more (by omega), rfl⟩
theorem flush_len (p : Dv) (e : Int) : (comD p e (flushD p)).2.zones.length = p.zones.length := by
  unfold comD
  split
  · rfl
  · split
    · rw [countD_zones]; rfl
    · rfl
theorem step_flush {n : Nat} {p : Dv} {d : Dk} {a : TRef05_Act} (h : DI n p) (s : Sim n p d) (hn : n ≤ 60) (hk : kd a = 6) :
    ∃ e p' d' e', m_ref05_Play a p = some (e, p') ∧ m_ref05_Do d a = some (d', e') ∧ DI (n + 1) p' ∧ Sim (n + 1) p' d' ∧ p'.g = p.g := by
  have hls := s.ls
  have hln := h.ln
  have hp : m_ref05_Play a p = some (comD p 0 (flushD p)) := by
    unfold m_ref05_Play
    rw [show nz? 9 = some () from rfl, bnd_some]
    unfold kd at hk
    simp only [let_eq, ceq_eq, cond_dec, hk, if_true, show ¬ (6 : Int) = 4 by decide, show ¬ (6 : Int) = 5 by decide, if_false]
    rw [Flush_eq p (by omega), bnd_some, lenq_ok (flush_len p 0)]
    rfl
  rw [hp]
  unfold comD
  by_cases hd : p.down = true
  · rw [if_pos hd]
    exact ⟨2, p, d, 2, rfl, do_down d a (by omega) (by omega) (by rw [s.down]; exact hd), h.more (by omega), s.more (by omega), rfl⟩
  · rw [if_neg hd]
    have hd' : p.down = false := by simpa using hd
    have hdo := do_flush d a hk (by rw [s.down]; exact hd') (by omega) (by omega)
    rw [hdo]
    unfold okD
    rw [if_pos rfl, if_pos rfl]
    exact ⟨_, _, _, _, rfl, rfl, h.flush.count.more (by omega), (s.flush.tick hd' h.le).more (by omega), by unfold countD; split <;> rfl⟩

theorem act_step {n : Nat} {p : Dv} {d : Dk} {a : TRef05_Act} (h : DI n p) (s : Sim n p d) (hn : n ≤ 60) (hso : p.g.Soft ≤ 65536) (hw : BRef05_Act a) :
    ∃ e p' d' e', m_ref05_Play a p = some (e, p') ∧ m_ref05_Do d a = some (d', e') ∧ DI (n + 1) p' ∧ Sim (n + 1) p' d' ∧ p'.g = p.g := by
  have hle := kd_le a
  obtain ⟨w1, w2, w3, w4, w5⟩ := hw
  by_cases k3 : kd a ≤ 3
  · exact step_write h s hn k3
  by_cases k4 : kd a = 4
  · exact step_reset h s hn k4
  by_cases k5 : kd a = 5
  · exact step_finish h s hn k5
  by_cases k6 : kd a = 6
  · exact step_flush h s hn k6
  by_cases k7 : kd a = 7
  · refine ⟨_, _, _, _, play_arm p a k7, do_arm d a k7, ?_⟩
    have hN := wf_i64 w4
    by_cases hd : p.down = true
    · rw [if_pos hd, if_pos (by rw [s.down]; exact hd)]
      exact ⟨h.more (by omega), s.more (by omega), rfl⟩
    · rw [if_neg hd, if_neg (by rw [s.down]; exact hd)]
      refine ⟨⟨h.geo, h.zr, h.ns, h.nn, h.nf, h.now, h.fin, h.seq, h.cz, hN.2, Nat.le_succ_of_le h.ln⟩, ⟨s.g, s.zs, s.dn, s.sf, s.ca, rfl, fun hz => ?_, Nat.le_succ_of_le s.ls, Nat.le_succ_of_le s.ld⟩, rfl⟩
      have hz' : ¬ a.N = 0 := by simpa using hz
      refine ⟨?_, fun _ => rfl⟩
      simp only
      by_cases q : 0 < a.N
      · rw [decide_eq_true q, decide_eq_true (by omega)]
      · rw [decide_eq_false q, decide_eq_false (by omega)]
  · have k8 : kd a = 8 := by
      have : 0 ≤ kd a ∨ kd a < 0 := by omega
      omega
    obtain ⟨v1, v2, v3⟩ := w5
    have hsoft : 0 ≤ a.Wreck.Soft ∧ a.Wreck.Soft < 18446744073709551616 := by
      have := wf_of v2
      have e1 : IntKind.min .u64 = 0 := rfl
      have e2 : IntKind.max .u64 = 18446744073709551615 := rfl
      omega
    obtain ⟨o, ho, hoc, hs⟩ := crash_ref h s hn hso a.Wreck hsoft
    have hsm := h.zr.small h.geo
    have hgc := h.geo.c
    have hz4 := h.geo.z
    have hlen := h.zr.len
    have hgs := h.geo.s
    have hgcs := h.geo.cs
    have hln := h.ln
    have hcr := crash_eq p a.Wreck (by omega) (by omega) hsm (by omega) (by omega) (fun x hx => by have := h.cz x hx; omega)
    refine ⟨0, crashD p a.Wreck, o, 0, ?_, do_crash d a k8 ho hoc, (h.crash (by omega) _).more (by omega), hs.more (by omega), rfl⟩
    unfold m_ref05_Play
    rw [show nz? 9 = some () from rfl, bnd_some]
    unfold kd at k8
    simp only [let_eq, ceq_eq, cond_dec, k8, if_true, show ¬ (8 : Int) = 4 by decide, show ¬ (8 : Int) = 5 by decide, show ¬ (8 : Int) = 6 by decide, show ¬ (8 : Int) = 7 by decide, if_false, hcr, bnd_some]
    rfl
end Go.AX

namespace Go.AX
set_option autoImplicit false
set_option linter.unusedVariables false
set_option linter.unusedSimpArgs false
set_option maxRecDepth 4000
set_option maxHeartbeats 4000000

set_option maxRecDepth 100000 in
theorem awake05 : m_law05_awake = some true := by kernel_rfl
theorem little (g : TGeom) (w : BGeom g) : ∃ b, m_ref05_Little g = some b ∧ (b = true → Geo g ∧ 3 ≤ g.Open ∧ g.Soft ≤ 65536) := by
  unfold m_ref05_Little
  obtain ⟨b, hb, h⟩ := ref03_Right g w
  rw [hb, bnd_some]
  cases b with
  | false => exact ⟨false, rfl, by simp⟩
  | true =>
    simp only [cond_true, let_eq, cle_eq, cond_dec]
    split
    · exact ⟨_, rfl, fun _ => h rfl⟩
    · exact ⟨_, rfl, by simp⟩
theorem mk_eta (p : Dv) : TDev_Device.mk (TGeom.mk p.g.Conv p.g.Soft p.g.Seq p.g.Size p.g.Open) p.zones p.finished p.safe p.now p.cached p.left_ p.down p.illegal = p := rfl
theorem dk_eta (d : Dk) : TRef05_Disk.mk (TGeom.mk d.G.Conv d.G.Soft d.G.Seq d.G.Size d.G.Open) d.Zones d.Done d.Safe d.Cached d.Armed d.Left d.Down d.Illegal = d := rfl

def newD (g : TGeom) : Dv := ⟨g, newZ g, [], [], [], [], -1, false, 0⟩
def newR (g : TGeom) : Dk := ⟨g, newZ g, [], [], [], false, 0, false, 0⟩
theorem newZ_at (g : TGeom) (hg : Geo g) {i : Nat} {y : TZone} (h : (newZ g)[i]? = some y) : ((i : Int) < g.Conv → y = ⟨4, 0⟩) ∧ (g.Conv ≤ i → y = ⟨0, 0⟩) := by
  have hc := hg.c
  unfold newZ at h
  constructor
  · intro k
    rw [List.getElem?_append_left (by simp; omega), List.getElem?_replicate, if_pos (by omega)] at h
    exact (Option.some.inj h).symm
  · intro k
    rw [List.getElem?_append_right (by simp; omega), List.getElem?_replicate] at h
    split at h
    · exact (Option.some.inj h).symm
    · cases h
theorem DI.new (g : TGeom) (hg : Geo g) : DI 0 (newD g) := by
  have hc := hg.c
  have hs := hg.s
  refine ⟨hg, ⟨by simp [newZ, newD]; omega, fun i hi => ?_⟩, rfl, rfl, rfl, fun a => rfl, ?_, ?_, ?_, by show (-1 : Int) < 9223372036854775808; decide, Nat.le_refl _⟩
  · have := newZ_at g hg (List.getElem?_eq_getElem hi)
    refine ⟨fun k => ?_, fun k => .inl ?_⟩
    · exact ⟨by rw [this.1 k], by rw [this.1 k]⟩
    · exact ⟨by rw [this.2 k], by rw [this.2 k]⟩
  · intro i y hy hf
    cases hf
  · intro i y hy hk
    rw [(newZ_at g hg hy).2 hk]
    refine ⟨0, by omega, fun j => ?_, rfl, fun j w hj => ?_⟩
    · show (none : Option (Ar 64)).isSome = true ↔ _
      simp
    · cases hj
  · intro w hw
    cases hw
theorem Sim.new (g : TGeom) : Sim 0 (newD g) (newR g) :=
  ⟨rfl, rfl, fun z => by simp [finS, newD, newR, gGet], rfl, rfl, rfl, fun _ => ⟨rfl, fun h => absurd (show (0 : Int) < -1 from h) (by decide)⟩, Nat.le_refl _, Nat.le_refl _⟩
theorem dev_new (g : TGeom) (hg : Geo g) : m_dev_New g = some (newD g) := by
  unfold m_dev_New
  rw [zone_New g hg]; rfl
theorem ref_new (g : TGeom) (hg : Geo g) : m_ref05_New g = some (newR g) := by
  unfold m_ref05_New
  rw [ref04_New g hg]; rfl

def armD (p : Dv) : Dv := if p.down = true then p else { p with left_ := -1, down := false }
theorem Arm_eq (p : Dv) : m___dev_Device__Arm (-1) p = some (armD p) := by
  unfold m___dev_Device__Arm armD
  obtain ⟨g, zs, fi, sa, nw, ca, le, dn, il⟩ := p
  cases dn <;> simp
theorem armD_len (p : Dv) : (armD p).zones.length = p.zones.length ∧ (armD p).cached.length = p.cached.length := by
  unfold armD; split <;> exact ⟨rfl, rfl⟩
theorem DI.arm {n : Nat} {p : Dv} (h : DI n p) : DI n (armD p) := by
  unfold armD
  split
  · exact h
  · exact ⟨h.geo, h.zr, h.ns, h.nn, h.nf, h.now, h.fin, h.seq, h.cz, by show (-1 : Int) < 9223372036854775808; decide, h.ln⟩
/-- Flush of a device that isn't armed. -/
def quiet (p : Dv) : Dv := flushD { p with left_ := -1, down := false }
theorem flush_armed (p : Dv) (hc : p.cached.length ≤ 1000000) : m___dev_Device__Flush (armD p) = some (if p.down = true then (2, armD p) else (0, quiet p)) := by
  rw [Flush_eq _ (by rw [(armD_len p).2]; exact hc)]
  unfold comD armD
  by_cases hd : p.down = true
  · simp only [if_pos hd]
  · simp only [if_neg hd]
    rw [if_neg (by simp)]
    simp only [if_true]
    rfl
theorem DI.quiet {n : Nat} {p : Dv} (h : DI n p) : DI n (quiet p) := by
  have h2 : DI n { p with left_ := -1, down := false } := ⟨h.geo, h.zr, h.ns, h.nn, h.nf, h.now, h.fin, h.seq, h.cz, by show (-1 : Int) < 9223372036854775808; decide, h.ln⟩
  exact h2.flush

theorem Read_ok (p : Dv) (a : TAt) (hd : p.down = false) (h : m_zone_Read p.g p.zones a = some 0) : m___dev_Device__Read a p = some ((G p.now a).getD (Ar.zero 64), 0, p) := by
  unfold m___dev_Device__Read
  obtain ⟨g, zs, fi, sa, nw, ca, le, dn, il⟩ := p
  simp only at hd h
  subst hd
  simp only [cond_false, h, bnd_some, check_eq, if_true, lenq_ok, let_eq, cne_eq, ne_eq, not_true_eq_false, decide_false]
theorem zread_ok {g : TGeom} {l : List TZone} (hg : Geo g) (h : ZR g l) {i : Nat} {y : TZone} (hy : l[i]? = some y) (hi : g.Conv ≤ i) {j : Int} (h0 : 0 ≤ j) (h1 : j < y.Point) : m_zone_Read g l ⟨i, j⟩ = some 0 := by
  have hlt : i < l.length := by
    rcases Nat.lt_or_ge i l.length with q | q
    · exact q
    · rw [List.getElem?_eq_none q] at hy; cases hy
  have hcell := (h.cell i hlt).seq hi
  rw [List.getElem?_eq_getElem hlt] at hy
  rw [Option.some.inj hy] at hcell
  have hlen := h.len
  have hz4 := hg.z
  have hS := Sect.seq (g := g) (z := i) hi (by omega) hg
  unfold m_zone_Read
  rw [zone_there g hg, bnd_some]
  simp only [let_eq, hS, cne_eq, cond_dec, at?_nat, List.getElem?_eq_getElem hlt, bnd_some, Option.some.inj hy, cge_eq]
  rw [decide_eq_true (show 0 ≤ j ∧ j < g.Size by omega), Bool.not_true, cond_false, if_pos (show y.State ≠ 4 by omega), if_neg (show ¬ y.Point ≤ j by omega)]
theorem zones_eq (p : Dv) (h : p.zones.length ≤ 1000) : m___dev_Device__Zones p = some p.zones := by
  unfold m___dev_Device__Zones
  rw [slices_Clone _ h]; rfl
theorem ovl_or {a : TAt} : ∀ (l : List Cel) (f : Pl), ovl f l a = (ov0 l a).or (f a)
  | [], f => rfl
  | c :: l, f => by
    show ovl (put1 f c.At c.Page) l a = (ovl (put1 (fun _ => none) c.At c.Page) l a).or (f a)
    rw [ovl_or l, ovl_or l (put1 (fun _ => none) c.At c.Page)]
    unfold put1
    by_cases e : a = c.At
    · rw [if_pos e, if_pos e]; cases ov0 l a <;> rfl
    · rw [if_neg e, if_neg e]; cases ov0 l a <;> rfl
theorem page_eq (d : Dk) (a : TAt) (h : d.Safe.length + d.Cached.length ≤ 1000000) : m_ref05_Page d a = some ((ovl (ov0 d.Safe) d.Cached a).getD (Ar.zero 64)) := by
  unfold m_ref05_Page
  rw [find_eq _ _ (by omega), bnd_some, find_eq _ _ (by omega), bnd_some, ovl_or d.Cached (ov0 d.Safe)]
  show (Let (!(ov0 d.Cached a).isSome) fun b38 => bif b38 then some ((ov0 d.Safe a).getD (Ar.zero 64)) else some ((ov0 d.Cached a).getD (Ar.zero 64))) = _
  cases ov0 d.Cached a <;> rfl
theorem crash_ok {n : Nat} {p : Dv} (h : DI n p) (hn : n ≤ 1000000) (w : TWreck) : m___dev_Device__Crash w p = some (crashD p w) := by
  have hsm := h.zr.small h.geo
  have hgc := h.geo.c
  have hz4 := h.geo.z
  have hlen := h.zr.len
  have hgs := h.geo.s
  have hgcs := h.geo.cs
  have hln := h.ln
  exact crash_eq p w (by omega) (by omega) hsm (by omega) (by omega) (fun x hx => by have := h.cz x hx; omega)
theorem cnt_zero {l : List TZone} (h : ∀ (i : Nat) y, l[i]? = some y → y.State ≠ 1) : cnt l = 0 := by
  unfold cnt
  rw [List.countP_eq_zero.2]
  · rfl
  · intro y hy
    obtain ⟨i, hi, e⟩ := List.getElem_of_mem hy
    have := h i y (by rw [List.getElem?_eq_getElem hi, e])
    simpa using this
end Go.AX

namespace Go.AX
set_option autoImplicit false
set_option linter.unusedVariables false
set_option linter.unusedSimpArgs false
set_option maxRecDepth 4000
set_option maxHeartbeats 4000000

theorem mk_eta2 (p : Dv) : TDev_Device.mk p.g p.zones p.finished p.safe p.now p.cached p.left_ p.down p.illegal = p := rfl
theorem law_DevFlushes (g : TGeom) (l : List TRef05_Act) (w : TWreck) (w0 : BGeom g) (w1 : (∀ x ∈ l, BRef05_Act x) ∧ l.length ≤ maxLen) (w2 : BWreck w) : m_law05_DevFlushes g l w = some true := by
  unfold m_law05_DevFlushes
  obtain ⟨b, hb, hb1⟩ := little g w0
  simp only [jn_eq, let_eq, awake05, bnd_some, Bool.not_true, cond_false, hb]
  cases b with
  | false => rfl
  | true =>
    obtain ⟨hg, hop, hso⟩ := hb1 rfl
    simp only [Bool.not_true, cond_false, cgt_eq, ln]
    by_cases hl : 60 < (l.length : Int)
    · rw [decide_eq_true hl]; rfl
    rw [decide_eq_false hl, cond_false, dev_new g hg, ref_new g hg, bnd_some, bnd_some]
    refine bnd_rnd (fun r => r = some true) (fun st => ∃ (i : Nat) (p : Dv) (d : Dk), i ≤ l.length ∧ DI i p ∧ Sim i p d ∧ p.g = g ∧ st = ((i : Int), p.g.Conv, p.g.Soft, p.g.Seq, p.g.Size, p.g.Open, p.left_, p.down, p.illegal, d.G.Conv, d.G.Soft, d.G.Seq, d.G.Size, d.G.Open, d.Zones, d.Done, d.Safe, d.Cached, d.Armed, d.Left, d.Down, d.Illegal, p.zones, p.finished, p.safe, p.now, p.cached)) (fun st => (l.length - st.1).toNat)
      (fun r => ∃ (p : Dv) (d : Dk), DI l.length p ∧ Sim l.length p d ∧ p.g = g ∧ r = (p.g.Conv, p.g.Soft, p.g.Seq, p.g.Size, p.g.Open, p.left_, p.down, p.illegal, d.G.Conv, d.G.Soft, d.G.Seq, d.G.Size, d.G.Open, d.Zones, d.Done, d.Safe, d.Cached, d.Armed, d.Left, d.Down, d.Illegal, p.zones, p.finished, p.safe, p.now, p.cached))
      ⟨0, newD g, newR g, Nat.zero_le _, DI.new g hg, Sim.new g, rfl, rfl⟩ (by simp only; omega) ?_ ?_
    · rintro _ ⟨i, p, d, hi, h, s, hpg, rfl⟩
      simp only [mk_eta, dk_eta, clt_eq, cond_dec]
      by_cases hlt : i < l.length
      · obtain ⟨e, p', d', e', h1, h2, h3, h4, h5⟩ := act_step h s (by omega) (by rw [hpg]; exact hso) (w1.1 l[i] (List.getElem_mem hlt))
        rw [if_pos (by omega), at?_nat, List.getElem?_eq_getElem hlt, bnd_some, h1, bnd_some, bnd_some, h2, bnd_some]
        exact rnd_l ⟨i + 1, p', d', hlt, h3, h4, h5.trans hpg, by rw [show iadd (i : Int) 1 = ((i + 1 : Nat) : Int) from (add_ok (by omega)).trans (by omega)]⟩ (by simp only; rw [show iadd (i : Int) 1 = ((i + 1 : Nat) : Int) from (add_ok (by omega)).trans (by omega)]; omega)
      · obtain rfl : i = l.length := by omega
        rw [if_neg (by omega)]
        exact rnd_r ⟨p, d, h, s, hpg, rfl⟩
    · rintro _ ⟨p, d, h, s, hpg, rfl⟩
      have hln := h.ln
      have hls := s.ls
      simp only [mk_eta, dk_eta]
      rw [Arm_eq, bnd_some, lenq_ok (armD_len p).1, bnd_some, lenq_ok (armD_len p).2, bnd_some, flush_armed p (by omega), bnd_some]
      by_cases hd : p.down = true
      · rw [if_pos hd]
        have : (armD p).down = true := by unfold armD; rw [if_pos hd]; exact hd
        rw [lenq_ok rfl, bnd_some]
        simp only [cne_eq]
        show m___dev_Device__Down (armD p) = _
        unfold m___dev_Device__Down
        rw [this]
      · rw [if_neg hd]
        have hq := h.quiet
        have hqc : (quiet p).cached = [] := rfl
        have hqz : (quiet p).zones = p.zones := rfl
        have hsm := hq.zr.small hq.geo
        have hcl := crash_len (quiet p) w
        have hcr := hq.crash (by omega) w
        have hcs := hcr.zr.small hcr.geo
        rw [lenq_ok (show (quiet p).zones.length = (armD p).zones.length from (armD_len p).1.symm), bnd_some]
        simp only [cne_eq, ne_eq, not_true_eq_false, decide_false, cond_false]
        rw [zones_eq _ hsm, bnd_some, crash_ok hq (by omega) w, bnd_some]
        have hcc : (crashD (quiet p) w).cached = [] := rfl
        have hdn : (crashD (quiet p) w).down = false := rfl
        have hnow : ∀ a, (G (crashD (quiet p) w).now a) = ovl (ov0 d.Safe) d.Cached a := by
          intro a
          show G (layD p.safe p.cached) a = _
          rw [G_lay, s.sf, s.ca]
        have hpt : ∀ (i : Nat) (y : TZone), (quiet p).zones[i]? = some y → ∃ y', (crashD (quiet p) w).zones[i]? = some y' ∧ y'.Point = y.Point ∧ ((i : Int) < (quiet p).g.Conv → y.Point = 0) ∧ y'.State ≠ 1 := by
          intro i y hy
          have hlt : i < (quiet p).zones.length := by
            rcases Nat.lt_or_ge i (quiet p).zones.length with q | q
            · exact q
            · rw [List.getElem?_eq_none q] at hy; cases hy
          have hcell := hq.zr.cell i hlt
          by_cases k : (i : Int) < (quiet p).g.Conv
          · have hc := hcell.conv k
            have hy2 := hy
            rw [List.getElem?_eq_getElem hlt] at hy2
            rw [Option.some.inj hy2] at hc
            exact ⟨y, crash_conv hq w hy k, rfl, fun _ => hc.2, by omega⟩
          · obtain ⟨s0, c, a1, a2, a3, a4, a5, a6, a7⟩ := crash_seq hq (by omega) w hy (by omega)
            have : s0 = y.Point := by
              have := a3.1
              rw [hqc] at this
              simpa using this
            refine ⟨_, a7, by show c = _; omega, fun k' => absurd k' k, ?_⟩
            unfold backZ
            simp only
            split
            · decide
            · split
              · decide
              · split <;> decide
        have hcnt : cnt (crashD (quiet p) w).zones = 0 := cnt_zero fun i y hy => by
          have hlt : i < (quiet p).zones.length := by
            rcases Nat.lt_or_ge i (quiet p).zones.length with q | q
            · exact q
            · rw [List.getElem?_eq_none (by omega)] at hy; cases hy
          obtain ⟨y', e1, e2, e3, e4⟩ := hpt i _ (List.getElem?_eq_getElem hlt)
          rw [hy] at e1
          rw [Option.some.inj e1]; exact e4
        have hqg : (crashD (quiet p) w).g = p.g := rfl
        have hqg2 : (quiet p).g = p.g := rfl
        revert hcc hdn hnow hpt hcnt hcr hcs hcl hqg
        generalize crashD (quiet p) w = q
        intro hcl hcr hcs hcc hdn hnow hpt hcnt hqg
        rw [← hcc]
        simp only [mk_eta2]
        rw [zones_eq _ hcs, bnd_some]
        obtain ⟨rb, hrb, hrb2⟩ := ref04_Right g hg q.zones hcs
        have hrt : rb = true := hrb2.2 ⟨by have := hcr.zr; rw [hqg, hpg] at this; exact this, by omega⟩
        subst hrt
        refine bnd_run (fun i => ((i : Int), q.g.Conv, q.g.Soft, q.g.Seq, q.g.Size, q.g.Open, q.left_, q.down, q.illegal, q.zones, q.finished, q.safe, q.now, q.cached)) (quiet p).zones.length (.inl (q.g.Conv, q.g.Soft, q.g.Seq, q.g.Size, q.g.Open, q.left_, q.down, q.illegal, q.zones, q.finished, q.safe, q.now, q.cached)) (by omega) rfl ?_ ?_ ?_
        · intro i hi
          have hy := List.getElem?_eq_getElem hi
          obtain ⟨y', e1, e2, e3, e4⟩ := hpt i _ hy
          have hcell := hq.zr.cell i hi
          simp only [clt_eq, cond_dec, cne_eq]
          rw [if_pos (by omega), if_pos (by rw [hcl]; omega), at?_nat, hy, bnd_some, at?_nat, e1, bnd_some, e2]
          simp only [ne_eq, not_true_eq_false, if_false, bnd_some]
          have hpz : 0 ≤ (quiet p).zones[i].Point := by
            have hz4 := hq.geo.z
            by_cases k : (i : Int) < (quiet p).g.Conv
            · rw [e3 k]; omega
            · have := hcell.seq (by omega)
              omega
          have hp300 : (quiet p).zones[i].Point ≤ 256 := by
            have hz4 := hq.geo.z
            by_cases k : (i : Int) < (quiet p).g.Conv
            · rw [e3 k]; omega
            · have := hcell.seq (by omega)
              omega
          refine bnd_run (fun j => ((j : Int), q.g.Conv, q.g.Soft, q.g.Seq, q.g.Size, q.g.Open, q.left_, q.down, q.illegal, q.zones, q.finished, q.safe, q.now, q.cached)) (quiet p).zones[i].Point.toNat (.inl (q.g.Conv, q.g.Soft, q.g.Seq, q.g.Size, q.g.Open, q.left_, q.down, q.illegal, q.zones, q.finished, q.safe, q.now, q.cached)) (by omega) rfl ?_ ?_ ?_
          · intro j hj
            have k : ¬ (i : Int) < (quiet p).g.Conv := fun k => by rw [e3 k] at hj; simp at hj
            have hrd : m_zone_Read q.g q.zones ⟨i, j⟩ = some 0 := zread_ok hcr.geo hcr.zr e1 (by rw [hqg, ← hqg2]; omega) (by omega) (by rw [e2]; omega)
            simp only [mk_eta]
            rw [if_pos (by omega), Read_ok q ⟨i, j⟩ hdn hrd, bnd_some, lenq_ok rfl, bnd_some, lenq_ok rfl, bnd_some]
            simp only [not_true_eq_false, if_false]
            rw [page_eq d _ (by omega), bnd_some, hnow]
            simp only [beq_self_eq_true, Bool.and_self, Bool.not_true, cond_false]
            rw [show iadd (j : Int) 1 = ((j + 1 : Nat) : Int) from (add_ok (by omega)).trans (by omega)]
          · simp only
            rw [if_neg (by omega)]
          · simp only
            rw [show iadd (i : Int) 1 = ((i + 1 : Nat) : Int) from (add_ok (by omega)).trans (by omega)]
        · simp only [clt_eq, cond_dec]
          rw [if_neg (by omega)]
        · simp only [mk_eta]
          unfold m___dev_Device__Cached
          rw [hcc]
          show (Bnd (m_ref04_Right g q.zones) fun r => some r) = _
          rw [hrb]; rfl
end Go.AX

namespace Go.AX
set_option autoImplicit false
set_option linter.unusedVariables false
set_option linter.unusedSimpArgs false
set_option maxRecDepth 4000
set_option maxHeartbeats 4000000

theorem Pre_inj {m : Mp64} {z s t : Int} (hs : Pre m z s) (ht : Pre m z t) (h0 : 0 ≤ s) (h1 : 0 ≤ t) : s = t := by
  by_cases a : s < t
  · have := (hs s).1 ((ht s).2 ⟨h0, a⟩); omega
  · by_cases b : t < s
    · have := (ht t).1 ((hs t).2 ⟨h1, b⟩); omega
    · omega
theorem cntZ_mono (p : Dv) (z : Int) : ∀ (k i : Nat), i + k ≤ p.cached.length → cntZ p z i ≤ cntZ p z (i + k)
  | 0, i, _ => by simp
  | k + 1, i, h => by
    have h1 := cntZ_mono p z k i (by omega)
    have h2 := cntZ_next p z (i := i + k) (by omega)
    rw [show i + (k + 1) = i + k + 1 by omega, h2]
    split <;> omega
/-- What was written is what lies there. -/
theorem ovl_row {p : Dv} {z s t : Int} {f : Pl} (hr : Rows p.cached z s t) {i : Nat} (hi : i < p.cached.length) (hz : p.cached[i].at_.Zone = z) : ovl f (p.cached.map cell) ⟨z, s + cntZ p z i⟩ = some p.cached[i].page := by
  have hoff := hr.2 _ _ (filt_next hi hz)
  have e : p.cached = p.cached.take i ++ p.cached[i] :: p.cached.drop (i + 1) := by rw [← List.drop_eq_getElem_cons hi, List.take_append_drop]
  have hno : ∀ c ∈ (p.cached.drop (i + 1)).map cell, c.At ≠ (⟨z, s + cntZ p z i⟩ : TAt) := by
    intro c hc ec
    obtain ⟨w, hw, rfl⟩ := List.mem_map.1 hc
    obtain ⟨j, hj, ej⟩ := List.getElem_of_mem hw
    rw [List.getElem_drop] at ej
    have hlt : i + 1 + j < p.cached.length := by
      rw [List.length_drop] at hj; omega
    have ew : w.at_ = ⟨z, s + cntZ p z i⟩ := ec
    have hwz : p.cached[i + 1 + j].at_.Zone = z := by rw [ej, ew]
    have h1 := hr.2 _ _ (filt_next hlt hwz)
    have h2 : w.at_.Off = s + cntZ p z i := by rw [ew]
    have h3 := cntZ_mono p z j (i + 1) (by omega)
    have h4 := cntZ_next p z hi
    rw [if_pos hz] at h4
    rw [ej] at h1
    have h5 : (((p.cached.take (i + 1 + j)).filter (ofZ z)).length : Int) = cntZ p z (i + 1 + j) := rfl
    omega
  have hgen : ∀ x : TDev_write, p.cached[i] = x → ovl f ((p.cached.take i ++ x :: p.cached.drop (i + 1)).map cell) ⟨z, s + cntZ p z i⟩ = some x.page := by
    intro x hx
    rw [List.map_append, List.map_cons, ovl_app, ovl_cons, ovl_no _ hno]
    unfold put1
    rw [if_pos (at_ext (by rw [← hz, hx]; rfl) (by rw [← hx]; exact hoff.symm ▸ rfl))]
    rfl
  have := hgen _ rfl
  rw [← e] at this
  exact this
theorem ovl_low {p : Dv} {z s t j : Int} {f : Pl} (hr : Rows p.cached z s t) (hj : j < s) : ovl f (p.cached.map cell) ⟨z, j⟩ = f ⟨z, j⟩ := by
  refine ovl_no _ fun c hc ec => ?_
  obtain ⟨w, hw, rfl⟩ := List.mem_map.1 hc
  have ew : w.at_ = ⟨z, j⟩ := ec
  obtain ⟨k, w', hk, e⟩ := (mem_filter_idx (P := fun w => w.at_.Off = j)).1 ⟨w, hw, by rw [ew], by rw [ew]⟩
  have := hr.2 k w' hk
  omega
theorem crN_cont (p : Dv) (w : TWreck) (hl : p.cached.length ≤ 1000000) {z s t : Int} (hz : p.g.Conv ≤ z) (hs : 0 ≤ s) (hp : Pre p.safe z s) (hr : Rows p.cached z s t) :
    ∀ i, i ≤ p.cached.length → ∃ c, s ≤ c ∧ Pre (crN p w i).2.1 z c ∧ (i < p.cached.length → c = s + min (cntZ p z i) (keepN p.g w z)) ∧
      (∀ j, 0 ≤ j → j < c → G (crN p w i).2.1 ⟨z, j⟩ = ovl (G p.safe) (p.cached.map cell) ⟨z, j⟩ ∨ (i = p.cached.length ∧ j = c - 1 ∧ s ≤ j ∧ 0 < w.Tear))
  | 0, _ => ⟨s, by omega, hp, fun _ => by have := keep0 p.g w z; simp [cntZ]; omega, fun j _ j1 => .inl (ovl_low hr j1).symm⟩
  | i + 1, hi => by
    obtain ⟨c, c1, c3, c4, c5⟩ := crN_cont p w hl hz hs hp hr i (by omega)
    have c4 := c4 (by omega)
    have hh := crN_had p w hl z hz i (by omega)
    have hc := cntZ_le p z i
    have hk := keep0 p.g w z
    have hn := cntZ_next p z (show i < p.cached.length by omega)
    have c5 : ∀ j, 0 ≤ j → j < c → G (crN p w i).2.1 ⟨z, j⟩ = ovl (G p.safe) (p.cached.map cell) ⟨z, j⟩ := fun j a b => by
      rcases c5 j a b with h | h
      · exact h
      · omega
    rw [crN_next p w (by omega), hn]
    have hx : p.cached[i].at_.Zone = z → p.cached[i].at_.Off = s + cntZ p z i := fun e => hr.2 _ _ (filt_next (by omega) e)
    have hw : p.cached[i].at_.Zone = z → ovl (G p.safe) (p.cached.map cell) ⟨z, s + cntZ p z i⟩ = some p.cached[i].page := fun e => ovl_row hr (by omega) e
    revert hx hw
    generalize p.cached[i] = x
    generalize crN p w i = st at *
    obtain ⟨b, m, hd⟩ := st
    intro hx hw
    simp only at c3 c5 hh
    have other : x.at_.Zone ≠ z → ∀ (pg : Ar 64) j, G (gSet eAt m x.at_ pg) ⟨z, j⟩ = G m ⟨z, j⟩ := by
      intro e pg j
      rw [G_set]
      unfold put1
      rw [if_neg (fun q => e (by rw [← q]))]
    have same : x.at_.Zone = z → ∀ (pg : Ar 64) j, G (gSet eAt m x.at_ pg) ⟨z, j⟩ = if j = s + cntZ p z i then some pg else G m ⟨z, j⟩ := by
      intro e pg j
      rw [G_set]
      unfold put1
      have hx := hx e
      by_cases q : j = s + cntZ p z i
      · rw [if_pos q, if_pos (at_ext e.symm (q.trans hx.symm))]
      · rw [if_neg q, if_neg (fun r => q (by rw [← hx, ← r]))]
    unfold crS
    by_cases k : x.at_.Zone < p.g.Conv
    · rw [if_pos k, if_neg (show ¬ x.at_.Zone = z by omega)]
      have ne : x.at_.Zone ≠ z := by omega
      refine ⟨c, c1, ?_, fun _ => by omega, ?_⟩
      · simp only
        split
        · exact Pre_other ne c3
        · split
          · exact Pre_other ne c3
          · exact c3
      · intro j a b
        left
        rw [← c5 j a b]
        simp only
        split
        · exact other ne _ j
        · split
          · exact other ne _ j
          · rfl
    · rw [if_neg k]
      by_cases e : x.at_.Zone = z
      · have hx := hx e
        rw [if_pos e]
        simp only [e, hh]
        by_cases q1 : cntZ p z i < keepN p.g w z
        · rw [if_pos q1]
          refine ⟨c + 1, by omega, Pre_next e (by omega) (by omega) c3, fun _ => by omega, fun j a b => .inl ?_⟩
          rw [same e]
          by_cases q : j = s + cntZ p z i
          · rw [if_pos q, q, hw e]
          · rw [if_neg q]; exact c5 j a (by omega)
        · rw [if_neg q1]
          by_cases q2 : i + 1 = p.cached.length ∧ cntZ p z i = keepN p.g w z ∧ 0 < w.Tear
          · rw [if_pos q2]
            refine ⟨c + 1, by omega, Pre_next e (by omega) (by omega) c3, fun _ => by omega, fun j a b => ?_⟩
            by_cases q : j = s + cntZ p z i
            · exact .inr ⟨q2.1, by omega, by omega, q2.2.2⟩
            · left
              rw [same e, if_neg q]; exact c5 j a (by omega)
          · rw [if_neg q2]
            exact ⟨c, by omega, c3, fun _ => by omega, fun j a b => .inl (c5 j a b)⟩
      · rw [if_neg e]
        refine ⟨c, c1, ?_, fun _ => by omega, ?_⟩
        · simp only
          split
          · exact Pre_other e c3
          · split
            · exact Pre_other e c3
            · exact c3
        · intro j a b
          left
          rw [← c5 j a b]
          simp only
          split
          · exact other e _ j
          · split
            · exact other e _ j
            · rfl
end Go.AX

namespace Go.AX
set_option autoImplicit false
set_option linter.unusedVariables false
set_option linter.unusedSimpArgs false
set_option maxRecDepth 4000
set_option maxHeartbeats 4000000

theorem slices_Clone_w (l : List TDev_write) (hl : l.length ≤ 1000000) : m_slices_Clone_ l = some l := by
  unfold m_slices_Clone_
  rw [app_ok (by simp; omega)]; simp
theorem Clone_eq (p : Dv) (h1 : p.zones.length ≤ 1000) (h2 : p.cached.length ≤ 1000000) : m___dev_Device__Clone p = some p := by
  unfold m___dev_Device__Clone
  rw [slices_Clone _ h1, bnd_some, slices_Clone_w _ h2, bnd_some]
/-- The device, once k pages are written behind a flush. -/
structure WJ (g : TGeom) (q0 : Dv) (z : Nat) (was : Int) (N k : Nat) (q : Dv) : Prop where
  di : DI (N + k) q
  g : q.g = g
  down : q.down = false
  left : q.left_ = -1
  safe : q.safe = q0.safe
  pt : ∃ y, q.zones[z]? = some y ∧ y.Point = was + k
theorem write_step {g : TGeom} {q0 : Dv} {z : Nat} {was : Int} {N k : Nat} {q : Dv} (h : WJ g q0 z was N k q) (hz : g.Conv ≤ z) (hN : N + k ≤ 100000) (x : Ar 64) :
    ∃ e q', m___dev_Device__Write ⟨z, was + k⟩ x q = some (e, q') ∧ (e = 0 → WJ g q0 z was N (k + 1) q') ∧ (e ≠ 0 → WJ g q0 z was N k q') := by
  obtain ⟨di, hg, down, left, safe, y, hy, hp⟩ := h
  have hln := di.ln
  obtain ⟨m, e, z1, z2, z3, z4⟩ := zW q.g di.geo q.zones di.zr ⟨z, was + k⟩
  refine ⟨(comD q e (writeD q m ⟨z, was + k⟩ x)).1, (comD q e (writeD q m ⟨z, was + k⟩ x)).2, Write_eq q ⟨z, was + k⟩ x z1 z3 (by omega), ?_, ?_⟩
  all_goals
    unfold comD
    rw [if_neg (by rw [down]; decide)]
  · intro he
    by_cases e0 : e = 0
    · rw [if_pos e0] at he ⊢
      have hw := z4 e0
      have hd := di.write hw (x := x)
      have hc : countD (writeD q m ⟨z, was + k⟩ x) = writeD q m ⟨z, was + k⟩ x := by
        unfold countD
        rw [if_neg (by show ¬ 0 < q.left_; rw [left]; decide)]
      simp only
      rw [hc]
      obtain ⟨_, _, _, _, w5⟩ := hw
      rcases w5 with ⟨w6, _⟩ | ⟨w6, y', w7, w8, w9, rfl⟩
      · have hc' : (z : Int) < q.g.Conv := w6
        rw [hg] at hc'; omega
      · refine ⟨hd, hg, down, left, safe, ⟨_, List.getElem?_set_self ?_, ?_⟩⟩
        · have w7' : q.zones[z]? = some y' := by simpa using w7
          show (z : Int).toNat < q.zones.length
          rcases Nat.lt_or_ge z q.zones.length with a | a
          · simpa using a
          · rw [List.getElem?_eq_none a] at w7'; cases w7'
        · show y'.Point + 1 = was + ((k + 1 : Nat) : Int)
          have : was + (k : Int) = y'.Point := w9
          omega
    · rw [if_neg e0] at he
      exact absurd he e0
  · intro he
    by_cases e0 : e = 0
    · rw [if_pos e0] at he
      exact absurd rfl he
    · rw [if_neg e0]
      exact ⟨di.wrong, hg, down, left, safe, y, hy, hp⟩

/-- What a crash leaves of it. -/
theorem lasts_of {g : TGeom} {q0 : Dv} {z : Nat} {was : Int} {N k : Nat} {q : Dv} (h : WJ g q0 z was N k q) (hz : g.Conv ≤ z) (hN : N + k ≤ 100000) (h0 : 0 ≤ was) (hp : Pre q0.safe z was) (w : TWreck) :
    ∃ (c : Int) (y' : TZone), (crashD q w).zones[z]? = some y' ∧ y'.Point = c ∧ was ≤ c ∧ c ≤ was + k ∧ c ≤ 256 ∧
      ∀ j, 0 ≤ j → j < c → m___dev_Device__Read ⟨z, j⟩ (crashD q w) = some ((G (crashD q w).now ⟨z, j⟩).getD (Ar.zero 64), 0, crashD q w) ∧ m___dev_Device__Read ⟨z, j⟩ q = some ((G q.now ⟨z, j⟩).getD (Ar.zero 64), 0, q) ∧
        (G (crashD q w).now ⟨z, j⟩ = G q.now ⟨z, j⟩ ∨ (j = c - 1 ∧ was ≤ j ∧ 0 < w.Tear)) := by
  obtain ⟨di, hg, down, left, safe, y, hy, hpt⟩ := h
  have hzq : q.g.Conv ≤ (z : Int) := by rw [hg]; exact hz
  have hln := di.ln
  obtain ⟨s, c, a1, a2, a3, a4, a5, a6, a7⟩ := crash_seq di (by omega) w hy hzq
  have hs : s = was := Pre_inj a2 (by rw [safe]; exact hp) a1 h0
  subst hs
  obtain ⟨c', b1, b2, b3, b4⟩ := crN_cont q w (by omega) hzq a1 a2 a3 q.cached.length (Nat.le_refl _)
  have hcc : c' = c := Pre_inj b2 a6 (by omega) (by omega)
  subst hcc
  have hcr := di.crash (by omega) w
  have hlt : z < q.zones.length := by
    rcases Nat.lt_or_ge z q.zones.length with a | a
    · exact a
    · rw [List.getElem?_eq_none a] at hy; cases hy
  have hcell := (di.zr.cell z hlt).seq hzq
  have hy2 := hy
  rw [List.getElem?_eq_getElem hlt] at hy2
  rw [Option.some.inj hy2] at hcell
  have hz4 := di.geo.z
  refine ⟨c', _, a7, rfl, a4, by omega, by omega, fun j j0 j1 => ⟨?_, ?_, ?_⟩⟩
  · exact Read_ok _ _ rfl (zread_ok hcr.geo hcr.zr a7 hzq j0 j1)
  · exact Read_ok _ _ down (zread_ok di.geo di.zr hy hzq j0 (by omega))
  · rw [di.now]
    rcases b4 j j0 j1 with e | ⟨_, e⟩
    · exact .inl e
    · exact .inr e

theorem law_DevLasts (g : TGeom) (l : List TRef05_Act) (zn : Int) (more : List (Ar 64)) (w : TWreck) (w0 : BGeom g) (w1 : (∀ x ∈ l, BRef05_Act x) ∧ l.length ≤ maxLen) (wz : (Lit.int .u8 zn).wf = true) (w2 : (∀ x ∈ more, ∀ y ∈ x.l, (Lit.int .u8 y).wf = true) ∧ more.length ≤ maxLen) (w3 : BWreck w) : m_law05_DevLasts g l zn more w = some true := by
  unfold m_law05_DevLasts
  obtain ⟨b, hb, hb1⟩ := little g w0
  simp only [jn_eq, let_eq, awake05, bnd_some, Bool.not_true, cond_false, hb]
  cases b with
  | false => rfl
  | true =>
    obtain ⟨hg, hop, hso⟩ := hb1 rfl
    simp only [Bool.not_true, cond_false, cgt_eq, ln]
    by_cases hl : 60 < (l.length : Int)
    · rw [decide_eq_true hl]; rfl
    rw [decide_eq_false hl, cond_false]
    by_cases hl2 : 30 < (more.length : Int)
    · rw [decide_eq_true hl2]; rfl
    rw [decide_eq_false hl2, cond_false, dev_new g hg, bnd_some]
    have hz := wf_u8 wz
    refine bnd_rnd (fun r => r = some true) (fun st => ∃ (i : Nat) (p : Dv) (d : Dk), i ≤ l.length ∧ DI i p ∧ Sim i p d ∧ p.g = g ∧ st = ((i : Int), p.g.Conv, p.g.Soft, p.g.Seq, p.g.Size, p.g.Open, p.left_, p.down, p.illegal, p.zones, p.finished, p.safe, p.now, p.cached)) (fun st => (l.length - st.1).toNat)
      (fun r => ∃ (p : Dv), DI l.length p ∧ p.g = g ∧ r = (p.g.Conv, p.g.Soft, p.g.Seq, p.g.Size, p.g.Open, p.left_, p.down, p.illegal, p.zones, p.finished, p.safe, p.now, p.cached))
      ⟨0, newD g, newR g, Nat.zero_le _, DI.new g hg, Sim.new g, rfl, rfl⟩ (by simp only; omega) ?_ ?_
    · rintro _ ⟨i, p, d, hi, h, s, hpg, rfl⟩
      simp only [mk_eta, clt_eq, cond_dec]
      by_cases hlt : i < l.length
      · obtain ⟨e, p', d', e', h1, h2, h3, h4, h5⟩ := act_step h s (by omega) (by rw [hpg]; exact hso) (w1.1 l[i] (List.getElem_mem hlt))
        rw [if_pos (by omega), at?_nat, List.getElem?_eq_getElem hlt, bnd_some, h1, bnd_some]
        exact rnd_l ⟨i + 1, p', d', hlt, h3, h4, h5.trans hpg, by rw [show iadd (i : Int) 1 = ((i + 1 : Nat) : Int) from (add_ok (by omega)).trans (by omega)]⟩ (by simp only; rw [show iadd (i : Int) 1 = ((i + 1 : Nat) : Int) from (add_ok (by omega)).trans (by omega)]; omega)
      · obtain rfl : i = l.length := by omega
        rw [if_neg (by omega)]
        exact rnd_r ⟨p, h, hpg, rfl⟩
    · rintro _ ⟨p, h, hpg, rfl⟩
      have hln := h.ln
      simp only [mk_eta]
      rw [Arm_eq, bnd_some, lenq_ok (armD_len p).1, bnd_some, lenq_ok (armD_len p).2, bnd_some, flush_armed p (by omega), bnd_some]
      by_cases hd : p.down = true
      · rw [if_pos hd]
        have : (armD p).down = true := by unfold armD; rw [if_pos hd]; exact hd
        rw [lenq_ok rfl, bnd_some]
        simp only [cne_eq]
        show m___dev_Device__Down (armD p) = _
        unfold m___dev_Device__Down
        rw [this]
      · rw [if_neg hd]
        have hq := h.quiet
        have hqc : (quiet p).cached = [] := rfl
        have hsm := hq.zr.small hq.geo
        have hgs := hg.s
        have hgc := hg.c
        have hgcs := hg.cs
        rw [lenq_ok (show (quiet p).zones.length = (armD p).zones.length from (armD_len p).1.symm), bnd_some]
        simp only [cne_eq, ne_eq, not_true_eq_false, decide_false, cond_false]
        have e1 : IntKind.wrap .i64 zn = zn := by rw [IntKind.wrap_i64]; omega
        have e2 : nz? g.Seq = some () := by unfold nz?; rw [if_neg (by omega)]
        have e3 : binI .rem .i64 zn g.Seq = zn % g.Seq := by
          show zn.tmod g.Seq = _
          rw [Int.tmod_eq_emod_of_nonneg hz.1]
        have hm0 := Int.emod_nonneg zn (show g.Seq ≠ 0 by omega)
        have hm1 := Int.emod_lt_of_pos zn (show 0 < g.Seq by omega)
        obtain ⟨z, hzz⟩ := Int.eq_ofNat_of_zero_le (show 0 ≤ g.Conv + zn % g.Seq by omega)
        have e4 : iadd g.Conv (zn % g.Seq) = (z : Int) := (add_ok (by omega)).trans hzz
        rw [e1, e2, bnd_some, e3, e4, zones_eq _ hsm, bnd_some]
        have hqg : (quiet p).g = g := hpg
        have hlenz := hq.zr.len
        rw [hqg] at hlenz
        have hzlt : z < (quiet p).zones.length := by omega
        have hy := List.getElem?_eq_getElem hzlt
        have hcell := (hq.zr.cell z hzlt).seq (by rw [hqg]; omega)
        obtain ⟨s0, a1, a2, a3⟩ := hq.seq z _ hy (by rw [hqg]; omega)
        have hs0 : s0 = (quiet p).zones[z].Point := by
          have := a3.1
          rw [hqc] at this
          simpa using this
        have hz4 := hg.z
        rw [at?_nat, hy, bnd_some]
        have hqd : (quiet p).down = false := rfl
        have hql : (quiet p).left_ = -1 := rfl
        have hW0 : WJ g (quiet p) z (quiet p).zones[z].Point l.length 0 (quiet p) := ⟨hq, hqg, hqd, hql, rfl, _, hy, by simp⟩
        rw [hs0] at a2
        rw [hqg] at hcell
        revert hW0 a2 hcell
        generalize (quiet p).zones[z].Point = was
        generalize (quiet p).zones[z].State = stt
        intro hcell a2 hW0
        have hwas : 0 ≤ was ∧ was ≤ 256 := by omega
        refine bnd_rnd (fun r => r = some true) (fun st => ∃ (k : Nat) (q : Dv), k ≤ more.length ∧ WJ g (quiet p) z was l.length k q ∧ st = ((k : Int), q.g.Conv, q.g.Soft, q.g.Seq, q.g.Size, q.g.Open, q.left_, q.down, q.illegal, q.zones, q.finished, q.safe, q.now, q.cached)) (fun st => (more.length - st.1).toNat)
          (fun st => ∃ (k : Nat) (q : Dv), k ≤ more.length ∧ WJ g (quiet p) z was l.length k q ∧ st = ((k : Int), q.g.Conv, q.g.Soft, q.g.Seq, q.g.Size, q.g.Open, q.left_, q.down, q.illegal, q.zones, q.finished, q.safe, q.now, q.cached))
          ⟨0, quiet p, Nat.zero_le _, hW0, rfl⟩ (by simp only; omega) ?_ ?_
        · rintro _ ⟨k, q, hk, hW, rfl⟩
          simp only [mk_eta, clt_eq, cond_dec]
          by_cases hlt : k < more.length
          · obtain ⟨e, q', h1, h2, h3⟩ := write_step hW (by omega) (by omega) more[k]
            rw [if_pos (by omega), at?_nat, List.getElem?_eq_getElem hlt, bnd_some, show iadd was (k : Int) = was + k from add_ok (by omega), h1, bnd_some]
            simp only [ceq_eq, cond_dec]
            by_cases he : e = 0
            · rw [if_pos he]
              exact rnd_l ⟨k + 1, q', hlt, h2 he, by rw [show iadd (k : Int) 1 = ((k + 1 : Nat) : Int) from (add_ok (by omega)).trans (by omega)]⟩ (by simp only; rw [show iadd (k : Int) 1 = ((k + 1 : Nat) : Int) from (add_ok (by omega)).trans (by omega)]; omega)
            · rw [if_neg he]
              exact rnd_r ⟨k, q', hk, h3 he, rfl⟩
          · rw [if_neg (by omega)]
            exact rnd_r ⟨k, q, hk, hW, rfl⟩
        · rintro _ ⟨k, q, hk, hW, rfl⟩
          simp only [mk_eta]
          have hdi := hW.di
          have hcr := hdi.crash (by omega) w
          have hcs := hcr.zr.small hcr.geo
          rw [Clone_eq q (hdi.zr.small hdi.geo) (by have := hdi.ln; omega), bnd_some, crash_ok hdi (by omega) w, bnd_some]
          obtain ⟨c, y', c1, c2, c3, c4, c5, c6⟩ := lasts_of hW (by omega) (by omega) hwas.1 a2 w
          have hcc : (crashD q w).cached = [] := rfl
          have hdn : (crashD q w).down = false := rfl
          revert hcc hdn hcs c1 c6
          generalize crashD q w = cr
          intro hcs c1 c6 hcc hdn
          rw [← hcc]
          simp only [mk_eta2]
          rw [zones_eq _ hcs, bnd_some, at?_nat, c1, bnd_some, c2]
          simp only [clt_eq, cond_dec]
          rw [if_neg (by omega), show iadd was (k : Int) = was + k from add_ok (by omega), if_neg (show ¬ was + (k : Int) < c by omega)]
          refine bnd_run (fun j => ((j : Int), cr.g.Conv, cr.g.Soft, cr.g.Seq, cr.g.Size, cr.g.Open, cr.left_, cr.down, cr.illegal, q.g.Conv, q.g.Soft, q.g.Seq, q.g.Size, q.g.Open, q.left_, q.down, q.illegal, cr.zones, cr.finished, cr.safe, cr.now, cr.cached, q.zones, q.finished, q.safe, q.now, q.cached)) c.toNat (.inl (cr.g.Conv, cr.g.Soft, cr.g.Seq, cr.g.Size, cr.g.Open, cr.left_, cr.down, cr.illegal, cr.zones, cr.finished, cr.safe, cr.now, cr.cached)) (by omega) rfl ?_ ?_ ?_
          · intro j hj
            obtain ⟨r1, r2, r3⟩ := c6 j (by omega) (by omega)
            simp only [mk_eta]
            rw [if_pos (by omega), r1, bnd_some, lenq_ok rfl, bnd_some, lenq_ok rfl, bnd_some, r2, bnd_some, lenq_ok rfl, bnd_some, lenq_ok rfl, bnd_some]
            simp only [not_true_eq_false, if_false, ne_eq, decide_false, cond_false]
            rw [show iadd (j : Int) 1 = ((j + 1 : Nat) : Int) from (add_ok (by omega)).trans (by omega)]
            rcases r3 with e | ⟨e, f1, f2⟩
            · rw [e]
              simp only [beq_self_eq_true, Bool.and_self, Bool.not_true, cond_false]
            · rw [show isub c 1 = c - 1 from sub_ok (by omega)]
              have g1 : ¬ ((j : Int) ≠ c - 1) := by omega
              have g2 : ¬ ((j : Int) < was) := by omega
              have g3 : ¬ (w.Tear ≤ 0) := by omega
              simp only [cle_eq, cond_dec, decide_eq_false g1, g1, g2, g3, if_false]
              generalize (!((((G cr.now ⟨(z : Int), (j : Int)⟩).getD (Ar.zero 64)).l == ((G q.now ⟨(z : Int), (j : Int)⟩).getD (Ar.zero 64)).l) && true)) = bb
              cases bb <;> simp [e]
          · simp only
            rw [if_neg (by omega)]
          · simp only [mk_eta]
            unfold m___dev_Device__Cached m___dev_Device__Down
            rw [hcc, hdn]
            rfl
end Go.AX
