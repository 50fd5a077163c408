/- Chapter 4: plain laws. -/
import Derived.KernelRfl
import Derived.Test.YtlebjdkabepmkaaFR
import Derived.Test.YtlebjdkabepmkaaKc
namespace Go.AX
set_option autoImplicit false
set_option linter.unusedVariables false
set_option linter.unusedSimpArgs false

theorem awake04 : m_law04_awake = some true := by kernel_rfl

/-- What a right measure tells. -/
structure Geo (g : TGeom) : Prop where
  c : 2 ≤ g.Conv
  cs : g.Conv + g.Seq ≤ 64
  s : 6 ≤ g.Seq
  z : 8 ≤ g.Size ∧ g.Size ≤ 256

theorem ref03_Blocks (g : TGeom) (h : Geo g) : ∃ n, m_ref03_Blocks g = some n ∧ 0 ≤ n ∧ n ≤ 4096 := by
  obtain ⟨h1, h2, h3, h4⟩ := h
  unfold m_ref03_Blocks
  have hq : binI .quo .i64 g.Size 2 = g.Size / 2 := by
    show IntKind.wrap .i64 (g.Size.tdiv 2) = _
    rw [IntKind.wrap_i64, Int.tdiv_eq_ediv_of_nonneg (by omega)]; omega
  obtain ⟨r, h5, h6⟩ := loop_inv (σ := Int × Int) (ρ := Int) (s0 := (0, 5)) (step := fun s18 => Let (clt s18.2 g.Seq) fun b20 => bif b20 then (Bnd (nz? 2) fun _ => Let (binI .quo .i64 g.Size 2) fun v21 => Let (iadd s18.1 v21) fun v22 => Let (iadd s18.2 1) fun v23 => some (.inl (v22, v23))) else (some (.inr (s18.1))))
    (fun s => 0 ≤ s.1 ∧ s.1 ≤ 128 * s.2 ∧ 5 ≤ s.2 ∧ s.2 ≤ g.Seq) (fun s => (g.Seq - s.2).toNat) (fun r => 0 ≤ r) (by simp; omega) (by simp; omega) (by
      rintro ⟨a, i⟩ ⟨k1, k2, k3, k4⟩
      simp only at k1 k2 k3 k4
      by_cases hi : i < g.Seq
      · left
        refine ⟨(a + g.Size / 2, i + 1), ?_, ⟨?_, ?_, ?_, ?_⟩, ?_⟩
        · simp [hi, nz?, hq, iadd, add_ok (a := a) (b := g.Size / 2) (by omega), add_ok (a := i) (b := 1) (by omega)]
        all_goals simp only; omega
      · right
        exact ⟨a, by simp [hi], k1⟩)
  rw [h5]
  by_cases hr : 4096 < r
  · exact ⟨4096, by simp [hr], by omega, by omega⟩
  · exact ⟨r, by simp [hr], h6, by omega⟩

theorem ref03_Pages (g : TGeom) (h : Geo g) : ∃ n, m_ref03_Pages g = some n ∧ 0 ≤ n ∧ n ≤ 4096 := by
  obtain ⟨B, hB, hB0, hB1⟩ := ref03_Blocks g h
  unfold m_ref03_Pages
  rw [hB]
  obtain ⟨r, h5, h6⟩ := loop_inv (σ := Int) (ρ := Int) (s0 := 0) (step := fun s18 => Let (imul 10 s18) fun v19 => Bnd (some B) fun r20 => Let (clt v19 r20) fun b23 => bif b23 then (Let (iadd s18 1) fun v24 => some (.inl (v24))) else (some (.inr (s18))))
    (fun s => 0 ≤ s ∧ s ≤ 4096) (fun s => (4096 - s).toNat) (fun r => 0 ≤ r ∧ r ≤ 4096) (by omega) (by simp) (by
      rintro i ⟨k1, k2⟩
      have e : imul 10 i = 10 * i := mul_ok (by omega)
      by_cases hi : 10 * i < B
      · left
        refine ⟨i + 1, ?_, ⟨by omega, by omega⟩, by omega⟩
        simp [e, hi, iadd, add_ok (a := i) (b := 1) (by omega)]
      · right
        exact ⟨i, by simp [e, hi], k1, k2⟩)
  rw [h5]
  exact ⟨r, rfl, h6⟩

theorem ref03_Right (g : TGeom) (w : BGeom g) : ∃ b, m_ref03_Right g = some b ∧ (b = true → Geo g) := by
  obtain ⟨w1, w2, w3, w4, w5⟩ := w
  have w1 := wf_i64 w1
  have w3 := wf_i64 w3
  unfold m_ref03_Right
  simp only [jn_eq, let_eq, ceq_eq, cne_eq, clt_eq, cgt_eq, cge_eq, cond_dec]
  by_cases k1 : g.Conv < 2
  · exact ⟨false, by simp [k1], by simp⟩
  by_cases k2 : 64 < g.Conv
  · exact ⟨false, by simp [k1, k2], by simp⟩
  by_cases k3 : g.Seq < 6
  · exact ⟨false, by simp [k1, k2, k3], by simp⟩
  by_cases k4 : 64 < g.Seq
  · exact ⟨false, by simp [k1, k2, k3, k4], by simp⟩
  rw [show iadd g.Conv g.Seq = g.Conv + g.Seq from add_ok (by omega)]
  by_cases k5 : 64 < g.Conv + g.Seq
  · exact ⟨false, by simp [k1, k2, k3, k4, k5], by simp⟩
  by_cases k6 : g.Size < 8
  · exact ⟨false, by simp [k1, k2, k3, k4, k5, k6], by simp⟩
  by_cases k7 : 256 < g.Size
  · exact ⟨false, by simp [k1, k2, k3, k4, k5, k6, k7], by simp⟩
  have hg : Geo g := ⟨by omega, by omega, by omega, by omega, by omega⟩
  obtain ⟨n, hn, hn0, hn1⟩ := ref03_Pages g hg
  rw [hn]
  simp only [k1, k2, k3, k4, k5, k6, k7, if_false, bnd_some]
  by_cases k8 : g.Open < 3
  · exact ⟨false, by simp [k8], fun _ => hg⟩
  by_cases k9 : 65536 < g.Soft
  · exact ⟨false, by simp [k8, k9], fun _ => hg⟩
  · exact ⟨decide (iadd n 3 ≤ g.Soft), by simp [k8, k9], fun _ => hg⟩

theorem geomZones (g : TGeom) (h : Geo g) : m_geom_Zones g = some (g.Conv + g.Seq) := by
  obtain ⟨h1, h2, h3, h4⟩ := h
  unfold m_geom_Zones
  rw [let_eq, show iadd g.Conv g.Seq = g.Conv + g.Seq from add_ok (by omega)]

def Sect (g : TGeom) (z : Int) : Int := if z < 0 then 0 else if g.Conv + g.Seq ≤ z then 0 else if z < g.Conv then g.Soft else g.Size
theorem geomSectors (g : TGeom) (h : Geo g) (z : Int) : m_geom_Sectors g z = some (Sect g z) := by
  unfold m_geom_Sectors Sect
  simp only [jn_eq, let_eq, clt_eq, cge_eq, cond_dec, geomZones g h, bnd_some]
  by_cases k1 : z < 0
  · simp [k1]
  by_cases k2 : g.Conv + g.Seq ≤ z
  · simp [k1, k2]
  by_cases k3 : z < g.Conv <;> simp [k1, k2, k3]
theorem ref03Sectors (g : TGeom) (h : Geo g) (z : Int) : m_ref03_Sectors g z = some (Sect g z) := by
  have e : iadd g.Conv g.Seq = g.Conv + g.Seq := by obtain ⟨h1, h2, h3, h4⟩ := h; exact add_ok (by omega)
  unfold m_ref03_Sectors Sect
  simp only [jn_eq, let_eq, clt_eq, cge_eq, cond_dec, e]
  repeat' split
  all_goals rfl

/-- How many zones are open. -/
def cnt (l : List TZone) : Int := (l.countP (fun y => decide (y.State = 1)) : Nat)
theorem cnt_take (l : List TZone) {i : Nat} (h : i < l.length) : (((l.take (i + 1)).countP (fun y => decide (y.State = 1)) : Nat) : Int) = ((l.take i).countP (fun y => decide (y.State = 1)) : Nat) + if l[i].State = 1 then 1 else 0 := by
  rw [List.take_succ_eq_append_getElem h, List.countP_append]
  simp only [List.countP_singleton, decide_eq_true_eq]
  split <;> simp
theorem zone_open (l : List TZone) (hl : l.length ≤ 1000) : m_zone_open l = some (cnt l) := by
  unfold m_zone_open
  simp only [let_eq]
  refine bnd_run (fun i => ((((l.take i).countP (fun y => decide (y.State = 1)) : Nat) : Int), (i : Int))) l.length (cnt l) (by omega) (by simp) ?_ ?_ rfl
  · intro i hi
    have h1 := cnt_take l hi
    have h2 := List.countP_le_length (p := fun y : TZone => decide (y.State = 1)) (l := l.take i)
    rw [List.length_take] at h2
    simp only [clt_eq, ln, cond_dec, ceq_eq]
    rw [if_pos (by omega), at?_nat, List.getElem?_eq_getElem hi, bnd_some]
    rw [show iadd (i : Int) 1 = (i : Int) + 1 from add_ok (by omega), show iadd ((List.countP (fun y : TZone => decide (y.State = 1)) (l.take i) : Nat) : Int) 1 = _ + 1 from add_ok (by omega)]
    by_cases k : l[i].State = 1
    · rw [if_pos k, h1, if_pos k]; simp
    · rw [if_neg k, h1, if_neg k]; simp
  · simp [ln, cnt]
theorem ref04_opened (l : List TZone) (hl : l.length ≤ 1000) : m_ref04_opened l = some (cnt l) := by
  have := zone_open l hl
  unfold m_zone_open at this
  unfold m_ref04_opened
  simp only [let_eq] at this ⊢
  exact this

/-- A right zone of a number. -/
structure Cell (g : TGeom) (i : Int) (y : TZone) : Prop where
  conv : i < g.Conv → y.State = 4 ∧ y.Point = 0
  seq : g.Conv ≤ i → (y.State = 0 ∧ y.Point = 0) ∨ (y.State = 1 ∧ 0 ≤ y.Point ∧ y.Point < g.Size) ∨ (y.State = 2 ∧ 0 < y.Point ∧ y.Point < g.Size) ∨ (y.State = 3 ∧ 0 ≤ y.Point ∧ y.Point ≤ g.Size)
/-- Right zones. -/
structure ZR (g : TGeom) (l : List TZone) : Prop where
  len : (l.length : Int) = g.Conv + g.Seq
  opn : cnt l ≤ g.Open
  cell : ∀ (i : Nat) (h : i < l.length), Cell g i l[i]

/-- A loop that looks whether all are right. -/
theorem loop_all {step : Int → Option (Sum Int (Sum Unit Unit))} (n : Nat) (P : Nat → Prop) (hn : n < 1099511627776)
    (h1 : ∀ i, i < n → P i → step i = some (.inl ((i : Int) + 1))) (h2 : ∀ i, i < n → ¬ P i → step i = some (.inr (.inr ()))) (he : step n = some (.inr (.inl ()))) :
    (∃ q, loop step 0 = some q ∧ ((∀ i, i < n → P i) → q = .inl ()) ∧ ((¬ ∀ i, i < n → P i) → q = .inr ())) := by
  classical
  obtain ⟨q, h3, h4⟩ := loop_inv (σ := Int) (ρ := Sum Unit Unit) (s0 := 0) (step := step) (fun s => 0 ≤ s ∧ s ≤ n ∧ ∀ i : Nat, (i : Int) < s → P i) (fun s => (n - s).toNat)
    (fun q : Sum Unit Unit => ((∀ i, i < n → P i) → q = .inl ()) ∧ ((¬ ∀ i, i < n → P i) → q = .inr ())) ⟨by omega, by omega, fun i hi => by omega⟩ (by omega) (by
      rintro s ⟨k1, k2, k3⟩
      obtain ⟨i, rfl⟩ := Int.eq_ofNat_of_zero_le k1
      by_cases hi : i < n
      · by_cases hP : P i
        · left
          refine ⟨(i : Int) + 1, h1 i hi hP, ⟨by omega, by omega, fun j hj => ?_⟩, by omega⟩
          by_cases e : j = i
          · subst e; exact hP
          · exact k3 j (by omega)
        · right
          exact ⟨_, h2 i hi hP, fun h => absurd (h i hi) hP, fun _ => rfl⟩
      · right
        obtain rfl : i = n := by omega
        exact ⟨_, he, fun _ => rfl, fun h => absurd (fun j hj => k3 j (by omega)) h⟩)
  exact ⟨q, h3, h4⟩

theorem zone_one (g : TGeom) (y : TZone) : m_zone_one g y = some (decide ((y.State = 0 ∧ y.Point = 0) ∨ (y.State = 1 ∧ 0 ≤ y.Point ∧ y.Point < g.Size) ∨ (y.State = 2 ∧ 0 < y.Point ∧ y.Point < g.Size) ∨ (y.State = 3 ∧ 0 ≤ y.Point ∧ y.Point ≤ g.Size))) := by
  unfold m_zone_one
  simp only [let_eq, ceq_eq, cge_eq, clt_eq, cgt_eq, cle_eq, cond_dec]
  by_cases k0 : y.State = 0
  · simp [k0]
  by_cases k1 : y.State = 1
  · simp only [k1]
    by_cases h : 0 ≤ y.Point <;> simp [h]
  by_cases k2 : y.State = 2
  · simp only [k2]
    by_cases h : 0 < y.Point <;> simp [h]
  by_cases k3 : y.State = 3
  · simp only [k3]
    by_cases h : 0 ≤ y.Point <;> simp [h]
  simp [k0, k1, k2, k3]

theorem zone_Right (g : TGeom) (hg : Geo g) (l : List TZone) (hl : l.length ≤ 1000) : ∃ b, m_zone_Right g l = some b ∧ (b = true ↔ ZR g l) := by
  obtain ⟨g1, g2, g3, g4⟩ := id hg
  unfold m_zone_Right
  simp only [jn_eq, let_eq, geomZones g hg, bnd_some, zone_open l hl, cne_eq, cgt_eq, cond_dec]
  by_cases k1 : ln l = g.Conv + g.Seq
  · rw [if_neg (by simpa using k1)]
    by_cases k2 : g.Open < cnt l
    · rw [if_pos k2]; exact ⟨false, rfl, by simp; intro h; have := h.opn; omega⟩
    · rw [if_neg k2]
      refine Exists.elim (loop_all (step := fun s26 => Let (clt s26 (ln l)) fun b27 => bif b27 then (Bnd (at? l s26) fun y28 => Let (clt s26 g.Conv) fun b34 => bif b34 then (Let (!((ceq y28.State 4 && ceq y28.Point 0))) fun b35 => bif b35 then (some (.inr (.inr ()))) else (Let (cge s26 g.Conv) fun b36 => bif b36 then (Bnd (m_zone_one g y28) fun r37 => Let (!r37) fun b40 => bif b40 then (some (.inr (.inr ()))) else (Let (iadd s26 1) fun v41 => some (.inl (v41)))) else (Let (iadd s26 1) fun v37 => some (.inl (v37))))) else (Let (cge s26 g.Conv) fun b35 => bif b35 then (Bnd (m_zone_one g y28) fun r36 => Let (!r36) fun b39 => bif b39 then (some (.inr (.inr ()))) else (Let (iadd s26 1) fun v40 => some (.inl (v40)))) else (Let (iadd s26 1) fun v36 => some (.inl (v36))))) else (some (.inr (.inl ())))) l.length (fun i => ∀ h : i < l.length, Cell g i l[i]) (by omega) ?_ ?_ ?_) ?_
      · intro i hi hP
        have hc := hP hi
        obtain ⟨c1, c2⟩ := hc
        simp only [let_eq, clt_eq, cge_eq, cond_dec, ln, at?_nat, List.getElem?_eq_getElem hi, bnd_some, zone_one, ceq_eq]
        rw [if_pos (by omega), show iadd (i : Int) 1 = (i : Int) + 1 from add_ok (by omega)]
        by_cases e : (i : Int) < g.Conv
        · obtain ⟨c3, c4⟩ := c1 e
          simp [e, c3, c4]
        · have := c2 (by omega)
          simp only [e, if_false, show g.Conv ≤ (i : Int) by omega, if_true, decide_eq_true this, Bool.not_true, cond_false]
      · intro i hi hP
        have hc : ¬ Cell g i l[i] := fun h => hP (fun _ => h)
        simp only [let_eq, clt_eq, cge_eq, cond_dec, ln, at?_nat, List.getElem?_eq_getElem hi, bnd_some, zone_one, ceq_eq]
        rw [if_pos (by omega), show iadd (i : Int) 1 = (i : Int) + 1 from add_ok (by omega)]
        by_cases e : (i : Int) < g.Conv
        · have : ¬ (l[i].State = 4 ∧ l[i].Point = 0) := fun h => hc ⟨fun _ => h, fun h' => by omega⟩
          simp only [e, if_true]
          have e2 : (!(decide (l[i].State = 4) && decide (l[i].Point = 0))) = true := by
            by_cases a : l[i].State = 4
            · by_cases b : l[i].Point = 0
              · exact absurd ⟨a, b⟩ this
              · simp [b]
            · simp [a]
          rw [e2]; rfl
        · simp only [e, if_false, show g.Conv ≤ (i : Int) by omega, if_true]
          rw [decide_eq_false (fun h => hc ⟨fun h' => by omega, fun _ => h⟩)]; rfl
      · simp [ln]
      · rintro q ⟨hq, q1, q2⟩
        refine ⟨match q with | .inl _ => true | .inr _ => false, ?_, ?_⟩
        · simp only [let_eq] at hq ⊢
          simp only [clt_eq, cge_eq, cond_dec] at hq ⊢
          rw [hq]
          cases q <;> rfl
        · by_cases ha : ∀ i, i < l.length → ∀ h : i < l.length, Cell g i l[i]
          · obtain rfl := q1 ha; exact ⟨fun _ => ⟨k1, by omega, fun i h => ha i h h⟩, fun _ => rfl⟩
          · obtain rfl := q2 ha; exact ⟨fun h => (by cases h), fun h => absurd (fun i _ h' => h.cell i h') ha⟩
  · rw [if_pos (by simpa using k1)]
    exact ⟨false, rfl, by simp; intro h; exact k1 h.len⟩
end Go.AX
