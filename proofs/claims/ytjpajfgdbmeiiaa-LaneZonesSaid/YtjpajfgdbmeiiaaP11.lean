/- Chapter 11: plain laws. -/
import Derived.KernelRfl
import Derived.Test.YtjpajfgdbmeiiaaQR
import Derived.Test.YtjpajfgdbmeiiaaKc
namespace Go.AX
set_option autoImplicit false
set_option linter.unusedVariables false
set_option linter.unusedSimpArgs false

theorem awake11 : m_law11_awake = some true := by kernel_rfl

/-- What a right measure tells. -/
structure Geo (g : TGeom) : Prop where
  c : 2 ≤ g.Conv
  cs : g.Conv + g.Seq ≤ 64
  s : 6 ≤ g.Seq
  z : 8 ≤ g.Size ∧ g.Size ≤ 256

theorem ref03_Blocks (g : TGeom) (h : Geo g) : ∃ n, m_ref03_Blocks g = some n ∧ 0 ≤ n ∧ n ≤ 4096 := by
  obtain ⟨h1, h2, h3, h4⟩ := h
  unfold m_ref03_Blocks
  have hq : binI .quo .i64 g.Size 2 = g.Size / 2 := by
    show IntKind.wrap .i64 (g.Size.tdiv 2) = _
    rw [IntKind.wrap_i64, Int.tdiv_eq_ediv_of_nonneg (by omega)]; omega
  obtain ⟨r, h5, h6⟩ := loop_inv (σ := Int × Int) (ρ := Int) (s0 := (0, 5)) (step := fun s18 => Let (clt s18.2 g.Seq) fun b20 => bif b20 then (Bnd (nz? 2) fun _ => Let (binI .quo .i64 g.Size 2) fun v21 => Let (iadd s18.1 v21) fun v22 => Let (iadd s18.2 1) fun v23 => some (.inl (v22, v23))) else (some (.inr (s18.1))))
    (fun s => 0 ≤ s.1 ∧ s.1 ≤ 128 * s.2 ∧ 5 ≤ s.2 ∧ s.2 ≤ g.Seq) (fun s => (g.Seq - s.2).toNat) (fun r => 0 ≤ r) (by simp; omega) (by simp; omega) (by
      rintro ⟨a, i⟩ ⟨k1, k2, k3, k4⟩
      simp only at k1 k2 k3 k4
      by_cases hi : i < g.Seq
      · left
        refine ⟨(a + g.Size / 2, i + 1), ?_, ⟨?_, ?_, ?_, ?_⟩, ?_⟩
        · simp [hi, nz?, hq, iadd, add_ok (a := a) (b := g.Size / 2) (by omega), add_ok (a := i) (b := 1) (by omega)]
        all_goals simp only; omega
      · right
        exact ⟨a, by simp [hi], k1⟩)
  rw [h5]
  by_cases hr : 4096 < r
  · exact ⟨4096, by simp [hr], by omega, by omega⟩
  · exact ⟨r, by simp [hr], h6, by omega⟩

theorem ref03_Pages (g : TGeom) (h : Geo g) : ∃ n, m_ref03_Pages g = some n ∧ 0 ≤ n ∧ n ≤ 4096 := by
  obtain ⟨B, hB, hB0, hB1⟩ := ref03_Blocks g h
  unfold m_ref03_Pages
  rw [hB]
  obtain ⟨r, h5, h6⟩ := loop_inv (σ := Int) (ρ := Int) (s0 := 0) (step := fun s18 => Let (imul 10 s18) fun v19 => Bnd (some B) fun r20 => Let (clt v19 r20) fun b23 => bif b23 then (Let (iadd s18 1) fun v24 => some (.inl (v24))) else (some (.inr (s18))))
    (fun s => 0 ≤ s ∧ s ≤ 4096) (fun s => (4096 - s).toNat) (fun r => 0 ≤ r ∧ r ≤ 4096) (by omega) (by simp) (by
      rintro i ⟨k1, k2⟩
      have e : imul 10 i = 10 * i := mul_ok (by omega)
      by_cases hi : 10 * i < B
      · left
        refine ⟨i + 1, ?_, ⟨by omega, by omega⟩, by omega⟩
        simp [e, hi, iadd, add_ok (a := i) (b := 1) (by omega)]
      · right
        exact ⟨i, by simp [e, hi], k1, k2⟩)
  rw [h5]
  exact ⟨r, rfl, h6⟩

theorem ref03_Right (g : TGeom) (w : BGeom g) : ∃ b, m_ref03_Right g = some b ∧ (b = true → Geo g) := by
  obtain ⟨w1, w2, w3, w4, w5⟩ := w
  have w1 := wf_i64 w1
  have w3 := wf_i64 w3
  unfold m_ref03_Right
  simp only [jn_eq, let_eq, ceq_eq, cne_eq, clt_eq, cgt_eq, cge_eq, cond_dec]
  by_cases k1 : g.Conv < 2
  · exact ⟨false, by simp [k1], by simp⟩
  by_cases k2 : 64 < g.Conv
  · exact ⟨false, by simp [k1, k2], by simp⟩
  by_cases k3 : g.Seq < 6
  · exact ⟨false, by simp [k1, k2, k3], by simp⟩
  by_cases k4 : 64 < g.Seq
  · exact ⟨false, by simp [k1, k2, k3, k4], by simp⟩
  rw [show iadd g.Conv g.Seq = g.Conv + g.Seq from add_ok (by omega)]
  by_cases k5 : 64 < g.Conv + g.Seq
  · exact ⟨false, by simp [k1, k2, k3, k4, k5], by simp⟩
  by_cases k6 : g.Size < 8
  · exact ⟨false, by simp [k1, k2, k3, k4, k5, k6], by simp⟩
  by_cases k7 : 256 < g.Size
  · exact ⟨false, by simp [k1, k2, k3, k4, k5, k6, k7], by simp⟩
  have hg : Geo g := ⟨by omega, by omega, by omega, by omega, by omega⟩
  obtain ⟨n, hn, hn0, hn1⟩ := ref03_Pages g hg
  rw [hn]
  simp only [k1, k2, k3, k4, k5, k6, k7, if_false, bnd_some]
  by_cases k8 : g.Open < 3
  · exact ⟨false, by simp [k8], fun _ => hg⟩
  by_cases k9 : 65536 < g.Soft
  · exact ⟨false, by simp [k8, k9], fun _ => hg⟩
  · exact ⟨decide (iadd n 3 ≤ g.Soft), by simp [k8, k9], fun _ => hg⟩

def indexOf (l : List Int) (v : Int) : Int := if v ∈ l then (l.idxOf v : Int) else -1

theorem slices_Index (l : List Int) (v : Int) (hl : l.length ≤ 1000) : m_slices_Index l v = some (indexOf l v) := by
  unfold m_slices_Index
  simp only [let_eq]
  by_cases hm : v ∈ l
  · have hlt := List.idxOf_lt_length_iff.2 hm
    refine bnd_run (fun i => (i : Int)) (l.idxOf v) (.inr (l.idxOf v : Int)) (by omega) rfl ?_ ?_ ?_
    · intro i hi
      have h1 : i < l.length := by omega
      have h2 : ¬ v = gt l i := by
        intro e
        have h3 : (l[i] == v) = false := by simpa using List.not_of_lt_findIdx (p := (· == v)) hi
        rw [e, gt_eq h1] at h3
        simp at h3
      simp [ln, at?_get h1, h1, h2, iadd, add_ok (a := (i : Int)) (b := 1) (by omega)]
    · have h2 : v = gt l (l.idxOf v) := by
        rw [gt_eq hlt, List.getElem_idxOf hlt]
      simp only [clt_eq, ln, cond_dec, at?_get hlt, bnd_some, ceq_eq, ← h2]
      simp [hlt]
    · simp [indexOf, hm]
  · refine bnd_run (fun i => (i : Int)) l.length (.inl ()) (by omega) rfl ?_ ?_ ?_
    · intro i h1
      have h2 : ¬ v = gt l i := by
        intro e
        apply hm
        rw [e, gt_eq h1]
        exact List.getElem_mem h1
      simp [ln, at?_get h1, h1, h2, iadd, add_ok (a := (i : Int)) (b := 1) (by omega)]
    · simp [ln]
    · simp [indexOf, hm]

theorem slices_Contains (l : List Int) (v : Int) (hl : l.length ≤ 1000) : m_slices_Contains l v = some (decide (v ∈ l)) := by
  unfold m_slices_Contains
  rw [slices_Index l v hl]
  by_cases hm : v ∈ l
  · simp [indexOf, hm]
  · simp [indexOf, hm]

theorem slices_Clone (l : List Int) (hl : l.length ≤ 1000) : m_slices_Clone l = some l := by
  unfold m_slices_Clone
  rw [app_ok (by simp; omega)]; simp

theorem pool_copied (p : TPool) (hl : p.Points.length ≤ 1000) : m_pool_copied p = some p := by
  unfold m_pool_copied
  rw [slices_Clone _ hl]; rfl

def isHead (p : TPool) (z : Int) : Prop := 0 < z ∧ z ∈ p.Heads.l
instance (p : TPool) (z : Int) : Decidable (isHead p z) := by unfold isHead; infer_instance

theorem pool_head (p : TPool) (z : Int) : m_pool_head p z = some (decide (isHead p z)) := by
  unfold m_pool_head
  simp only [let_eq, cgt_eq, cond_dec]
  rw [slices_Contains _ _ (by simp)]
  by_cases h : 0 < z
  · simp [h, isHead, A3.l]
  · simp [h, isHead]

theorem ref11_Head (p : TPool) (z : Int) (hz : 0 ≤ z) : m_ref11_Head p z = some (decide (isHead p z)) := by
  unfold m_ref11_Head
  simp only [let_eq, cne_eq, ceq_eq, cond_dec]
  by_cases h : z = 0
  · subst h; simp [isHead]
  · have h1 : 0 < z := by omega
    simp only [isHead, A3.l, h, h1]
    have e : (z = p.Heads.x2) = (p.Heads.x2 = z) := propext eq_comm
    by_cases k0 : p.Heads.x0 = z
    · simp [k0, h]
    by_cases k1 : p.Heads.x1 = z
    · simp [k0, k1, h]
    · simp [k0, k1, Ne.symm k0, Ne.symm k1, e, h]

def pick (g : TGeom) (p : TPool) (v : Int) (i : Nat) : List Int := if gt p.Points i = v ∧ ¬ isHead p (g.Conv + i) then [g.Conv + i] else []
def zonesTo (g : TGeom) (p : TPool) (v : Int) (n : Nat) : List Int := (List.range n).flatMap (pick g p v)
def zonesF (g : TGeom) (p : TPool) (v : Int) : List Int := zonesTo g p v p.Points.length
theorem zonesTo_succ (g : TGeom) (p : TPool) (v : Int) (n : Nat) : zonesTo g p v (n + 1) = zonesTo g p v n ++ pick g p v n := by
  unfold zonesTo; rw [List.range_succ, List.flatMap_append]; simp
theorem zonesTo_len (g : TGeom) (p : TPool) (v : Int) : ∀ n, (zonesTo g p v n).length ≤ n
  | 0 => by simp [zonesTo]
  | n + 1 => by
    rw [zonesTo_succ, List.length_append]
    have := zonesTo_len g p v n
    have : (pick g p v n).length ≤ 1 := by unfold pick; split <;> simp
    omega

theorem pool_zones (g : TGeom) (p : TPool) (v : Int) (hg : Geo g) (hl : p.Points.length ≤ 1000) : m_pool_zones g p v = some (zonesF g p v) := by
  obtain ⟨g1, g2, g3, g4⟩ := hg
  unfold m_pool_zones
  simp only [let_eq, jn_eq]
  refine bnd_run (fun i => ((i : Int), zonesTo g p v i)) p.Points.length (zonesF g p v) (by omega) (by simp [zonesTo]) ?_ ?_ rfl
  · intro i hi
    have hz := zonesTo_len g p v i
    simp only [ln, clt_eq, cond_dec, at?_get hi, bnd_some, ceq_eq, iadd, add_ok (a := g.Conv) (b := (i : Int)) (by omega), add_ok (a := (i : Int)) (b := 1) (by omega), pool_head, Int.ofNat_lt, hi, if_true]
    rw [zonesTo_succ]
    by_cases h1 : gt p.Points i = v
    · by_cases h2 : isHead p (g.Conv + i)
      · simp [pick, h1, h2]
      · simp [pick, h1, h2, app_ok (b := 8) (l := zonesTo g p v i) (m := [g.Conv + (i : Int)]) (by simp; omega)]
    · simp [pick, h1]
  · simp [ln, zonesF]

theorem ref11_Zones (g : TGeom) (p : TPool) (v : Int) (hg : Geo g) (hl : p.Points.length ≤ 1000) : m_ref11_Zones g p v = some (zonesF g p v) := by
  obtain ⟨g1, g2, g3, g4⟩ := hg
  unfold m_ref11_Zones
  simp only [let_eq, jn_eq]
  refine bnd_run (fun i => ((i : Int), zonesTo g p v i)) p.Points.length (zonesF g p v) (by omega) (by simp [zonesTo]) ?_ ?_ rfl
  · intro i hi
    have hz := zonesTo_len g p v i
    simp only [ln, clt_eq, cond_dec, at?_get hi, bnd_some, ceq_eq, iadd, add_ok (a := g.Conv) (b := (i : Int)) (by omega), add_ok (a := (i : Int)) (b := 1) (by omega), ref11_Head p (g.Conv + i) (by omega), Int.ofNat_lt, hi, if_true]
    rw [zonesTo_succ]
    by_cases h1 : gt p.Points i = v
    · by_cases h2 : isHead p (g.Conv + i)
      · simp [pick, h1, h2]
      · simp [pick, h1, h2, app_ok (b := 8) (l := zonesTo g p v i) (m := [g.Conv + (i : Int)]) (by simp; omega)]
    · simp [pick, h1]
  · simp [ln, zonesF]

def headBad (g : TGeom) (p : TPool) (i : Nat) : Prop := gt p.Heads.l i ≠ 0 ∧ (gt p.Heads.l i < g.Conv ∨ g.Conv + g.Seq ≤ gt p.Heads.l i ∨ g.Size ≤ gt p.Points (gt p.Heads.l i - g.Conv).toNat ∨ gt p.Heads.l i ∈ p.Heads.l.take i)
def ptBad (g : TGeom) (p : TPool) (i : Nat) : Prop := gt p.Points i < 0 ∨ g.Size < gt p.Points i ∨ (0 < gt p.Points i ∧ gt p.Points i < g.Size ∧ ¬ isHead p (g.Conv + i))
/-- A pool is right. -/
structure RightP (g : TGeom) (p : TPool) : Prop where
  len : (p.Points.length : Int) = g.Seq
  heads : ∀ i, i < 3 → ¬ headBad g p i
  pts : ∀ i, i < p.Points.length → ¬ ptBad g p i

theorem heads_len (p : TPool) : p.Heads.l.length = 3 := rfl

theorem upto_ok {α : Type} {l : List α} {b : Nat} (h : b ≤ l.length) : upto? l (b : Int) = some (l.take b) := by
  simp [upto?, h]

theorem pool_Right (g : TGeom) (p : TPool) (hg : Geo g) : ∃ b, m_pool_Right g p = some b ∧ (b = true ↔ RightP g p) := by
  obtain ⟨g1, g2, g3, g4, g5⟩ := hg
  unfold m_pool_Right
  simp only [let_eq, jn_eq, cne_eq, cond_dec, ln]
  by_cases hl : (p.Points.length : Int) = g.Seq
  case neg => exact ⟨false, by simp [hl], by simp; exact fun h => hl h.len⟩
  simp only [ne_eq, hl, not_true_eq_false, if_false]
  refine bnd_inv (G := fun x => ∃ b, x = some b ∧ (b = true ↔ RightP g p)) (fun s : Int => ∃ i : Nat, s = i ∧ i ≤ 3 ∧ ∀ j, j < i → ¬ headBad g p j) (fun s => (3 - s).toNat)
    (fun r => match r with | .inl _ => ∀ j, j < 3 → ¬ headBad g p j | .inr _ => ∃ j, j < 3 ∧ headBad g p j) ⟨0, rfl, by omega, fun j h => by omega⟩ (by simp) ?_ ?_
  · rintro s ⟨i, rfl, hi, hall⟩
    by_cases h3 : i < 3
    case neg =>
      right
      have : i = 3 := by omega
      subst this
      exact ⟨.inl (), by simp, hall⟩
    have hnext : ¬ headBad g p i → (((i : Int) + 1) = ((i + 1 : Nat) : Int) ∧ i + 1 ≤ 3 ∧ ∀ j, j < i + 1 → ¬ headBad g p j) := fun hb => ⟨by simp, by omega, fun j hj => by
      rcases Nat.lt_or_ge j i with h | h
      · exact hall j h
      · rw [show j = i by omega]; exact hb⟩
    have h3' : (i : Int) < 3 := by omega
    have hi1 : iadd (i : Int) 1 = (i : Int) + 1 := add_ok (by omega)
    simp only [clt_eq, cond_dec, h3', if_true, at?_get (l := p.Heads.l) (i := i) (by rw [heads_len]; exact h3), bnd_some, ceq_eq, cge_eq, hi1]
    have hb0 : headBad g p i = (gt p.Heads.l i ≠ 0 ∧ (gt p.Heads.l i < g.Conv ∨ g.Conv + g.Seq ≤ gt p.Heads.l i ∨ g.Size ≤ gt p.Points (gt p.Heads.l i - g.Conv).toNat ∨ gt p.Heads.l i ∈ p.Heads.l.take i)) := rfl
    generalize gt p.Heads.l i = z at *
    by_cases z0 : z = 0
    · left
      obtain ⟨e1, e2, e3⟩ := hnext (by rw [hb0]; simp [z0])
      exact ⟨(i : Int) + 1, by simp [z0], ⟨i + 1, e1, e2, e3⟩, by omega⟩
    by_cases z1 : z < g.Conv
    · right; exact ⟨.inr (), by simp [z0, z1], i, h3, by rw [hb0]; exact ⟨z0, .inl z1⟩⟩
    rw [show iadd g.Conv g.Seq = g.Conv + g.Seq from add_ok (by omega)]
    by_cases z2 : g.Conv + g.Seq ≤ z
    · right; exact ⟨.inr (), by simp [z0, z1, z2], i, h3, by rw [hb0]; exact ⟨z0, .inr (.inl z2)⟩⟩
    rw [show isub z g.Conv = z - g.Conv from sub_ok (by omega), at?_getI (l := p.Points) (i := z - g.Conv) (by omega)]
    by_cases z3 : g.Size ≤ gt p.Points (z - g.Conv).toNat
    · right; exact ⟨.inr (), by simp [z0, z1, z2, z3], i, h3, by rw [hb0]; exact ⟨z0, .inr (.inr (.inl z3))⟩⟩
    rw [upto_ok (by rw [heads_len]; omega)]
    simp only [bnd_some]
    rw [slices_Contains _ _ (by rw [List.length_take, heads_len]; omega)]
    by_cases z4 : z ∈ p.Heads.l.take i
    · right; exact ⟨.inr (), by simp [z0, z1, z2, z3, z4], i, h3, by rw [hb0]; exact ⟨z0, .inr (.inr (.inr z4))⟩⟩
    · left
      obtain ⟨e1, e2, e3⟩ := hnext (by rw [hb0]; rintro ⟨_, h | h | h | h⟩ <;> contradiction)
      exact ⟨(i : Int) + 1, by simp [z0, z1, z2, z3, z4], ⟨i + 1, e1, e2, e3⟩, by omega⟩
  · rintro (u | u) hr
    case inr =>
      obtain ⟨j, hj, hb⟩ := hr
      exact ⟨false, rfl, by simp; exact fun h => h.heads j hj hb⟩
    simp only
    refine bnd_inv (G := fun x => ∃ b, x = some b ∧ (b = true ↔ RightP g p)) (fun s : Int => ∃ i : Nat, s = i ∧ i ≤ p.Points.length ∧ ∀ j, j < i → ¬ ptBad g p j) (fun s => (g.Seq - s).toNat)
      (fun r => match r with | .inl _ => ∀ j, j < p.Points.length → ¬ ptBad g p j | .inr _ => ∃ j, j < p.Points.length ∧ ptBad g p j) ⟨0, rfl, by omega, fun j h => by omega⟩ (by simp; omega) ?_ ?_
    · rintro s ⟨i, rfl, hi, hall⟩
      rw [← hl]
      by_cases h3 : i < p.Points.length
      case neg =>
        right
        have : i = p.Points.length := by omega
        exact ⟨.inl (), by simp [this], fun j hj => hall j (by omega)⟩
      have hnext : ¬ ptBad g p i → (((i : Int) + 1) = ((i + 1 : Nat) : Int) ∧ i + 1 ≤ p.Points.length ∧ ∀ j, j < i + 1 → ¬ ptBad g p j) := fun hb => ⟨by simp, by omega, fun j hj => by
        rcases Nat.lt_or_ge j i with h | h
        · exact hall j h
        · rw [show j = i by omega]; exact hb⟩
      have h3' : (i : Int) < (p.Points.length : Int) := by omega
      have hi1 : iadd (i : Int) 1 = (i : Int) + 1 := add_ok (by omega)
      simp only [clt_eq, cond_dec, h3', if_true, at?_get h3, bnd_some, ceq_eq, cge_eq, cgt_eq, hi1, show iadd g.Conv (i : Int) = g.Conv + i from add_ok (by omega), pool_head]
      have hb0 : ptBad g p i = (gt p.Points i < 0 ∨ g.Size < gt p.Points i ∨ (0 < gt p.Points i ∧ gt p.Points i < g.Size ∧ ¬ isHead p (g.Conv + i))) := rfl
      generalize gt p.Points i = n at *
      by_cases n0 : n < 0
      · right; exact ⟨.inr (), by simp [n0], i, h3, by rw [hb0]; exact .inl n0⟩
      by_cases n1 : g.Size < n
      · right; exact ⟨.inr (), by simp [n0, n1], i, h3, by rw [hb0]; exact .inr (.inl n1)⟩
      by_cases n2 : 0 < n
      case neg =>
        left
        obtain ⟨e1, e2, e3⟩ := hnext (by rw [hb0]; omega)
        exact ⟨(i : Int) + 1, by simp [n0, n1, n2], ⟨i + 1, e1, e2, e3⟩, by omega⟩
      by_cases n3 : n < g.Size
      case neg =>
        left
        obtain ⟨e1, e2, e3⟩ := hnext (by rw [hb0]; omega)
        exact ⟨(i : Int) + 1, by simp [n0, n1, n2, n3], ⟨i + 1, e1, e2, e3⟩, by omega⟩
      by_cases n4 : isHead p (g.Conv + i)
      · left
        obtain ⟨e1, e2, e3⟩ := hnext (by rw [hb0]; rintro (h | h | ⟨_, _, h⟩) <;> contradiction)
        exact ⟨(i : Int) + 1, by simp [n0, n1, n2, n3, n4], ⟨i + 1, e1, e2, e3⟩, by omega⟩
      · right; exact ⟨.inr (), by simp [n0, n1, n2, n3, n4], i, h3, by rw [hb0]; exact .inr (.inr ⟨n2, n3, n4⟩)⟩
    · rintro (v | v) hv
      · exact ⟨true, rfl, by simp; exact ⟨hl, hr, hv⟩⟩
      · obtain ⟨j, hj, hb⟩ := hv
        exact ⟨false, rfl, by simp; exact fun h => h.pts j hj hb⟩

theorem ref11_Right (g : TGeom) (p : TPool) (hg : Geo g) : ∃ b, m_ref11_Right g p = some b ∧ (b = true ↔ RightP g p) := by
  obtain ⟨g1, g2, g3, g4, g5⟩ := hg
  unfold m_ref11_Right
  simp only [let_eq, jn_eq, cne_eq, cond_dec, ln]
  by_cases hl : (p.Points.length : Int) = g.Seq
  case neg => exact ⟨false, by simp [hl], by simp; exact fun h => hl h.len⟩
  simp only [ne_eq, hl, not_true_eq_false, if_false]
  refine bnd_inv (G := fun x => ∃ b, x = some b ∧ (b = true ↔ RightP g p)) (fun s : Int => ∃ i : Nat, s = i ∧ i ≤ 3 ∧ ∀ j, j < i → ¬ headBad g p j) (fun s => (3 - s).toNat)
    (fun r => match r with | .inl _ => ∀ j, j < 3 → ¬ headBad g p j | .inr _ => ∃ j, j < 3 ∧ headBad g p j) ⟨0, rfl, by omega, fun j h => by omega⟩ (by simp) ?_ ?_
  · rintro s ⟨i, rfl, hi, hall⟩
    by_cases h3 : i < 3
    case neg =>
      right
      have : i = 3 := by omega
      subst this
      exact ⟨.inl (), by simp, hall⟩
    have hnext : ¬ headBad g p i → (((i : Int) + 1) = ((i + 1 : Nat) : Int) ∧ i + 1 ≤ 3 ∧ ∀ j, j < i + 1 → ¬ headBad g p j) := fun hb => ⟨by simp, by omega, fun j hj => by
      rcases Nat.lt_or_ge j i with h | h
      · exact hall j h
      · rw [show j = i by omega]; exact hb⟩
    have h3' : (i : Int) < 3 := by omega
    have hi1 : iadd (i : Int) 1 = (i : Int) + 1 := add_ok (by omega)
    simp only [clt_eq, cond_dec, h3', if_true, at?_get (l := p.Heads.l) (i := i) (by rw [heads_len]; exact h3), bnd_some, ceq_eq, cge_eq, hi1]
    have hb0 : headBad g p i = (gt p.Heads.l i ≠ 0 ∧ (gt p.Heads.l i < g.Conv ∨ g.Conv + g.Seq ≤ gt p.Heads.l i ∨ g.Size ≤ gt p.Points (gt p.Heads.l i - g.Conv).toNat ∨ gt p.Heads.l i ∈ p.Heads.l.take i)) := rfl
    generalize gt p.Heads.l i = z at *
    by_cases z0 : z = 0
    · left
      obtain ⟨e1, e2, e3⟩ := hnext (by rw [hb0]; simp [z0])
      exact ⟨(i : Int) + 1, by simp [z0], ⟨i + 1, e1, e2, e3⟩, by omega⟩
    by_cases z1 : z < g.Conv
    · right; exact ⟨.inr (), by simp [z0, z1], i, h3, by rw [hb0]; exact ⟨z0, .inl z1⟩⟩
    rw [show iadd g.Conv g.Seq = g.Conv + g.Seq from add_ok (by omega)]
    by_cases z2 : g.Conv + g.Seq ≤ z
    · right; exact ⟨.inr (), by simp [z0, z1, z2], i, h3, by rw [hb0]; exact ⟨z0, .inr (.inl z2)⟩⟩
    rw [show isub z g.Conv = z - g.Conv from sub_ok (by omega), at?_getI (l := p.Points) (i := z - g.Conv) (by omega)]
    by_cases z3 : g.Size ≤ gt p.Points (z - g.Conv).toNat
    · right; exact ⟨.inr (), by simp [z0, z1, z2, z3], i, h3, by rw [hb0]; exact ⟨z0, .inr (.inr (.inl z3))⟩⟩
    simp only [z0, z1, z2, z3, if_false, bnd_some]
    refine bnd_inv (G := fun x : Option (Sum Int (Sum Unit Unit)) => (∃ s', x = some (Sum.inl s') ∧ (∃ i' : Nat, s' = (i' : Int) ∧ i' ≤ 3 ∧ ∀ j, j < i' → ¬ headBad g p j) ∧ (3 - s').toNat < (3 - (i : Int)).toNat) ∨ ∃ r : Sum Unit Unit, x = some (Sum.inr r) ∧ (match r with | .inl _ => ∀ j, j < 3 → ¬ headBad g p j | .inr _ => ∃ j, j < 3 ∧ headBad g p j))
      (fun s : Int => ∃ k : Nat, s = k ∧ k ≤ i ∧ z ∉ p.Heads.l.take k) (fun s => (3 - s).toNat) (fun r : Sum Unit Unit => match r with | .inl _ => z ∉ p.Heads.l.take i | .inr _ => z ∈ p.Heads.l.take i) ⟨0, rfl, by omega, by simp⟩ (by simp) ?_ ?_
    · rintro s ⟨k, rfl, hk, hz⟩
      by_cases hki : k < i
      case neg =>
        right
        have : k = i := by omega
        subst this
        exact ⟨.inl (), by simp, hz⟩
      have hkl : k < p.Heads.l.length := by rw [heads_len]; omega
      have hk1 : iadd (k : Int) 1 = (k : Int) + 1 := add_ok (by omega)
      have hki' : (k : Int) < (i : Int) := by omega
      simp only [clt_eq, cond_dec, hki', if_true, at?_get hkl, bnd_some, ceq_eq, hk1]
      by_cases e : gt p.Heads.l k = z
      · right
        refine ⟨.inr (), by simp [e], ?_⟩
        show z ∈ p.Heads.l.take i
        rw [gt_eq hkl] at e
        rw [← e, List.mem_take_iff_getElem]
        exact ⟨k, by omega, rfl⟩
      · left
        refine ⟨(k : Int) + 1, by simp [e], ⟨k + 1, by simp, by omega, ?_⟩, by omega⟩
        rw [List.take_add_one, List.getElem?_eq_getElem hkl]
        rw [gt_eq hkl] at e
        simp only [Option.toList, List.mem_append, List.mem_singleton, not_or]
        exact ⟨hz, fun h => e h.symm⟩
    · rintro (u | u) hu
      · left
        obtain ⟨e1, e2, e3⟩ := hnext (by rw [hb0]; rintro ⟨_, h | h | h | h⟩ <;> contradiction)
        exact ⟨(i : Int) + 1, rfl, ⟨i + 1, e1, e2, e3⟩, by omega⟩
      · right
        exact ⟨.inr (), rfl, i, h3, by rw [hb0]; exact ⟨z0, .inr (.inr (.inr hu))⟩⟩
  · rintro (u | u) hr
    case inr =>
      obtain ⟨j, hj, hb⟩ := hr
      exact ⟨false, rfl, by simp; exact fun h => h.heads j hj hb⟩
    simp only
    refine bnd_inv (G := fun x => ∃ b, x = some b ∧ (b = true ↔ RightP g p)) (fun s : Int => ∃ i : Nat, s = i ∧ i ≤ p.Points.length ∧ ∀ j, j < i → ¬ ptBad g p j) (fun s => (g.Seq - s).toNat)
      (fun r => match r with | .inl _ => ∀ j, j < p.Points.length → ¬ ptBad g p j | .inr _ => ∃ j, j < p.Points.length ∧ ptBad g p j) ⟨0, rfl, by omega, fun j h => by omega⟩ (by simp; omega) ?_ ?_
    · rintro s ⟨i, rfl, hi, hall⟩
      by_cases h3 : i < p.Points.length
      case neg =>
        right
        have : i = p.Points.length := by omega
        exact ⟨.inl (), by simp [this, ← hl], fun j hj => hall j (by omega)⟩
      have hnext : ¬ ptBad g p i → (((i : Int) + 1) = ((i + 1 : Nat) : Int) ∧ i + 1 ≤ p.Points.length ∧ ∀ j, j < i + 1 → ¬ ptBad g p j) := fun hb => ⟨by simp, by omega, fun j hj => by
        rcases Nat.lt_or_ge j i with h | h
        · exact hall j h
        · rw [show j = i by omega]; exact hb⟩
      have h3' : (i : Int) < g.Seq := by omega
      have hi1 : iadd (i : Int) 1 = (i : Int) + 1 := add_ok (by omega)
      simp only [clt_eq, cond_dec, h3', if_true, at?_get h3, bnd_some, ceq_eq, cge_eq, cgt_eq, cne_eq, hi1, show iadd g.Conv (i : Int) = g.Conv + i from add_ok (by omega), ref11_Head p (g.Conv + (i : Int)) (by omega)]
      have hb0 : ptBad g p i = (gt p.Points i < 0 ∨ g.Size < gt p.Points i ∨ (0 < gt p.Points i ∧ gt p.Points i < g.Size ∧ ¬ isHead p (g.Conv + i))) := rfl
      generalize gt p.Points i = n at *
      by_cases n0 : n < 0
      · right; exact ⟨.inr (), by simp [n0], i, h3, by rw [hb0]; exact .inl n0⟩
      by_cases n1 : g.Size < n
      · right; exact ⟨.inr (), by simp [n0, n1], i, h3, by rw [hb0]; exact .inr (.inl n1)⟩
      by_cases n2 : n = 0
      · left
        obtain ⟨e1, e2, e3⟩ := hnext (by rw [hb0]; omega)
        exact ⟨(i : Int) + 1, by simp [n0, n1, n2]; omega, ⟨i + 1, e1, e2, e3⟩, by omega⟩
      by_cases n3 : n = g.Size
      · left
        obtain ⟨e1, e2, e3⟩ := hnext (by rw [hb0]; omega)
        exact ⟨(i : Int) + 1, by simp [n0, n1, n2, n3]; omega, ⟨i + 1, e1, e2, e3⟩, by omega⟩
      by_cases n4 : isHead p (g.Conv + i)
      · left
        obtain ⟨e1, e2, e3⟩ := hnext (by rw [hb0]; rintro (h | h | ⟨_, _, h⟩) <;> contradiction)
        exact ⟨(i : Int) + 1, by simp [n0, n1, n2, n3, n4], ⟨i + 1, e1, e2, e3⟩, by omega⟩
      · right; exact ⟨.inr (), by simp [n0, n1, n2, n3, n4], i, h3, by rw [hb0]; exact .inr (.inr ⟨by omega, by omega, n4⟩)⟩
    · rintro (v | v) hv
      · exact ⟨true, rfl, by simp; exact ⟨hl, hr, hv⟩⟩
      · obtain ⟨j, hj, hb⟩ := hv
        exact ⟨false, rfl, by simp; exact fun h => h.pts j hj hb⟩
end Go.AX
