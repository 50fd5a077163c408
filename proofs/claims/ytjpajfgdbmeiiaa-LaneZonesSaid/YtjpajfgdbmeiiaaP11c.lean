/- Chapter 11: pools stay right. -/
import Derived.Test.YtjpajfgdbmeiiaaP11b
namespace Go.AX
set_option autoImplicit false
set_option linter.unusedVariables false
set_option linter.unusedSimpArgs false

theorem mem3 (A : A3) (z : Int) : z ∈ A.l ↔ ∃ i, i < 3 ∧ gt A.l i = z := by
  rw [List.mem_iff_getElem]
  constructor
  · rintro ⟨i, hi, e⟩; exact ⟨i, hi, by rw [gt_eq hi]; exact e⟩
  · rintro ⟨i, hi, e⟩; exact ⟨i, hi, by rw [gt_eq (l := A.l) hi] at e; exact e⟩
theorem mem_take3 (A : A3) (z : Int) {k : Nat} (hk : k ≤ 3) : z ∈ A.l.take k ↔ ∃ i, i < k ∧ gt A.l i = z := by
  rw [List.mem_take_iff_getElem]
  constructor
  · rintro ⟨i, hi, e⟩
    have h3 : i < A.l.length := by omega
    exact ⟨i, by omega, by rw [gt_eq h3]; exact e⟩
  · rintro ⟨i, hi, e⟩
    have h3 : i < A.l.length := by show i < 3; omega
    exact ⟨i, by omega, by rw [gt_eq h3] at e; exact e⟩
theorem gt_put' (A : A3) (s : Nat) (v : Int) {i : Nat} (hi : i < 3) : gt (A3.put A s v).l i = if i = s then v else gt A.l i := by
  match i, hi with
  | 0, _ =>
    show (if (s : Int) = 0 then v else A.x0) = _
    by_cases h : s = 0
    · subst h; rfl
    · rw [if_neg (by omega), if_neg (by omega)]; rfl
  | 1, _ =>
    show (if (s : Int) = 1 then v else A.x1) = _
    by_cases h : s = 1
    · subst h; rfl
    · rw [if_neg (by omega), if_neg (by omega)]; rfl
  | 2, _ =>
    show (if (s : Int) = 2 then v else A.x2) = _
    by_cases h : s = 2
    · subst h; rfl
    · rw [if_neg (by omega), if_neg (by omega)]; rfl

/-- A right pool, head by head, zone by zone. -/
structure RightQ (g : TGeom) (p : TPool) : Prop where
  len : (p.Points.length : Int) = g.Seq
  heads : ∀ i, i < 3 → hd p i ≠ 0 → has g p (hd p i) ∧ pt g p (hd p i) < g.Size ∧ ∀ j, j < i → hd p j ≠ hd p i
  pts : ∀ i, i < p.Points.length → 0 ≤ gt p.Points i ∧ gt p.Points i ≤ g.Size ∧ (0 < gt p.Points i → gt p.Points i < g.Size → ∃ j, j < 3 ∧ hd p j = g.Conv + i)

theorem rightQ {g : TGeom} {p : TPool} (hg : Geo g) : RightP g p ↔ RightQ g p := by
  have hc := hg.c
  constructor
  · intro h
    refine ⟨h.len, fun i hi h0 => ?_, fun i hi => ?_⟩
    · obtain ⟨h1, h2⟩ := h.head hi h0
      refine ⟨h1, h2, fun j hj e => h.heads i hi ⟨h0, .inr (.inr (.inr ?_))⟩⟩
      exact (mem_take3 _ _ (by omega)).2 ⟨j, hj, e⟩
    · obtain ⟨h1, h2⟩ := h.pt hi
      refine ⟨h1, h2, fun h3 h4 => ?_⟩
      have h5 : isHead p (g.Conv + i) := Classical.byContradiction fun hn => h.pts i hi (.inr (.inr ⟨h3, h4, hn⟩))
      exact (mem3 _ _).1 h5.2
  · intro h
    refine ⟨h.len, fun i hi => ?_, fun i hi => ?_⟩
    · rintro ⟨h0, hb⟩
      obtain ⟨h1, h2, h3⟩ := h.heads i hi h0
      have hl := h.len
      unfold has hd at h1
      unfold pt hd at h2
      rcases hb with hb | hb | hb | hb
      · omega
      · omega
      · omega
      · obtain ⟨j, hj, e⟩ := (mem_take3 _ _ (by omega)).1 hb
        exact h3 j hj e
    · obtain ⟨h1, h2, h3⟩ := h.pts i hi
      rintro (hb | hb | ⟨hb1, hb2, hb3⟩)
      · omega
      · omega
      · exact hb3 ⟨by omega, (mem3 _ _).2 (h3 hb1 hb2)⟩

theorem hd_stepped (g : TGeom) (p : TPool) (s : Nat) (z : Int) {i : Nat} (hi : i < 3) : hd (stepped g p s z) i = if i = s then (if pt g p z + 1 = g.Size then 0 else z) else hd p i := gt_put' _ _ _ hi
theorem pt_stepped {g : TGeom} {p : TPool} (s : Nat) {z x : Int} (hz : has g p z) (hx : has g p x) : pt g (stepped g p s z) x = if x = z then pt g p z + 1 else pt g p x := by
  unfold has at hz hx
  unfold pt stepped
  by_cases h : x = z
  · subst h; rw [if_pos rfl, gt_set (by omega)]; rfl
  · rw [if_neg h, gt_set_ne (by omega)]
theorem stepped_len (g : TGeom) (p : TPool) (s : Nat) (z : Int) : (stepped g p s z).Points.length = p.Points.length := by simp [stepped]
theorem gt_pt {g : TGeom} {p : TPool} (i : Nat) : gt p.Points i = pt g p (g.Conv + i) := by
  unfold pt; rw [show (g.Conv + (i : Int) - g.Conv).toNat = i by omega]
theorem has_at {g : TGeom} {p : TPool} {i : Nat} (h : i < p.Points.length) : has g p (g.Conv + i) := ⟨by omega, by omega⟩

/-- The zone of a step is no other stream's head. -/
theorem stepZ_own {g : TGeom} {p : TPool} (hg : Geo g) (h : RightQ g p) {s : Nat} (hs : s < 3) {z : Int} (hz : stepZ g p s = some z) {i : Nat} (hi : i < 3) (hne : i ≠ s) : hd p i ≠ z := by
  have hc := hg.c
  unfold stepZ at hz
  split at hz
  · have hm : z ∈ zonesF g p 0 := List.mem_of_mem_head? (by rw [hz]; rfl)
    obtain ⟨k, hk, h1, h2, h3⟩ := mem_zonesF.1 hm
    intro e
    apply h2
    exact ⟨by omega, (mem3 _ _).2 ⟨i, hi, by rw [← h3]; exact e⟩⟩
  · rename_i h0
    cases hz
    intro e
    rcases Nat.lt_or_ge i s with k | k
    · exact (h.heads s hs h0).2.2 i k e
    · exact (h.heads i hi (by rw [e]; exact h0)).2.2 s (by omega) e.symm

theorem stepped_right {g : TGeom} {p : TPool} (hg : Geo g) (h : RightQ g p) {s : Nat} (hs : s < 3) {z : Int} (hz : stepZ g p s = some z) : RightQ g (stepped g p s z) := by
  have hc := hg.c
  obtain ⟨z1, z2, z3⟩ := stepZ_has ((rightQ hg).2 h) hg hs hz
  have hasS : ∀ x, has g (stepped g p s z) x ↔ has g p x := fun x => by unfold has; rw [stepped_len]
  refine ⟨by rw [stepped_len]; exact h.len, fun i hi h0 => ?_, fun i hi => ?_⟩
  · rw [hd_stepped g p s z hi] at h0 ⊢
    by_cases his : i = s
    · subst his
      rw [if_pos rfl] at h0 ⊢
      split at h0
      · exact absurd rfl h0
      · rename_i hn
        rw [if_neg hn]
        refine ⟨(hasS z).2 z1, ?_, fun j hj => ?_⟩
        · rw [pt_stepped i z1 z1, if_pos rfl]; omega
        · rw [hd_stepped g p i z (by omega), if_neg (by omega)]
          exact stepZ_own hg h hs hz (by omega) (by omega)
    · rw [if_neg his] at h0 ⊢
      obtain ⟨k1, k2, k3⟩ := h.heads i hi h0
      have hne := stepZ_own hg h hs hz hi his
      refine ⟨(hasS _).2 k1, ?_, fun j hj => ?_⟩
      · rw [pt_stepped s z1 k1, if_neg hne]; exact k2
      · rw [hd_stepped g p s z (by omega)]
        split
        · split
          · exact Ne.symm h0
          · exact Ne.symm hne
        · exact k3 j hj
  · rw [stepped_len] at hi
    obtain ⟨k1, k2, k3⟩ := h.pts i hi
    rw [gt_pt (g := g) (p := stepped g p s z), pt_stepped s z1 (has_at hi)]
    rw [gt_pt (g := g)] at k1 k2 k3
    by_cases e : g.Conv + (i : Int) = z
    · rw [if_pos e]
      refine ⟨by omega, by omega, fun _ hlt => ⟨s, hs, ?_⟩⟩
      rw [hd_stepped g p s z hs, if_pos rfl, if_neg (by omega), e]
    · rw [if_neg e]
      refine ⟨k1, k2, fun a b => ?_⟩
      obtain ⟨j, hj, ej⟩ := k3 a b
      refine ⟨j, hj, ?_⟩
      rw [hd_stepped g p s z hj]
      by_cases hjs : j = s
      · exfalso
        subst hjs
        unfold stepZ at hz
        split at hz
        · omega
        · cases hz; exact e ej.symm
      · rw [if_neg hjs]; exact ej

theorem reset_right {g : TGeom} {p : TPool} (hg : Geo g) (h : RightQ g p) {z : Int} (hz : isFull g p z) : RightQ g (resetF g p z) := by
  have hc := hg.c
  obtain ⟨z1, z2⟩ := hz
  have hgz := hg.z
  have hasS : ∀ x, has g (resetF g p z) x ↔ has g p x := fun x => by unfold has resetF; simp
  have hpt : ∀ x, has g p x → pt g (resetF g p z) x = if x = z then 0 else pt g p x := fun x hx => by
    unfold has at z1 hx
    unfold pt resetF
    by_cases e : x = z
    · subst e; rw [if_pos rfl, gt_set (by omega)]
    · rw [if_neg e, gt_set_ne (by omega)]
  refine ⟨by simp only [resetF, List.length_set]; exact h.len, fun i hi h0 => ?_, fun i hi => ?_⟩
  · obtain ⟨k1, k2, k3⟩ := h.heads i hi h0
    refine ⟨(hasS _).2 k1, ?_, k3⟩
    show pt g (resetF g p z) (hd p i) < _
    rw [hpt _ k1]
    split
    · omega
    · exact k2
  · have hi' : i < p.Points.length := by simpa [resetF] using hi
    obtain ⟨k1, k2, k3⟩ := h.pts i hi'
    rw [gt_pt (g := g) (p := resetF g p z), hpt _ (has_at hi')]
    rw [gt_pt (g := g)] at k1 k2 k3
    split
    · exact ⟨by omega, by omega, fun a => absurd a (by omega)⟩
    · exact ⟨k1, k2, k3⟩

theorem law_PoolKeeps (x0 : TGeom) (x1 : TPool) (a2 a3 : Int) (w0 : BGeom x0) (w1 : BPool x1) (w2 : (Lit.int .u8 a2).wf = true) (w3 : (Lit.int .i64 a3).wf = true) : m_law11_PoolKeeps x0 x1 a2 a3 = some true := by
  unfold m_law11_PoolKeeps
  simp only [jn_eq, let_eq, awake11, bnd_some, Bool.not_true, cond_false]
  obtain ⟨b, hb, hg⟩ := ref03_Right x0 w0
  rw [hb]
  cases b with
  | false => rfl
  | true =>
    have hg := hg rfl
    obtain ⟨r2, h2, k2⟩ := ref11_Right x0 x1 hg
    simp only [bnd_some, h2, Bool.not_true, cond_false]
    cases r2 with
    | false => rfl
    | true =>
      have hp := k2.1 rfl
      have hl := hp.len' hg
      obtain ⟨s, hs, e⟩ := stream3 (wf_u8 w2)
      have hfill : ∀ (l : List Int) (k : Option Bool), l.length ≤ 1000 → (Bnd (loop (σ := Int × (List Int)) (ρ := Unit) (fun s59 => Let (ln s59.2) fun v64 => Let (clt s59.1 v64) fun b65 => bif b65 then (Bnd (at? s59.2 s59.1) fun y66 => Let (set' s59.2 s59.1 (-7)) fun l71 => Let (iadd s59.1 1) fun v74 => some (.inl (v74, l71))) else (some (.inr ()))) (0, l)) fun _ => k) = k := by
        intro l k hlen
        refine bnd_inv (G := fun x => x = k) (fun s : Int × List Int => 0 ≤ s.1 ∧ s.1 ≤ l.length ∧ s.2.length = l.length) (fun s => ((l.length : Int) - s.1).toNat) (fun _ => True) ⟨by simp, by simp, rfl⟩ (by simp; omega) ?_ (fun _ _ => rfl)
        rintro ⟨i, m⟩ ⟨i1, i2, i3⟩
        simp only at i1 i2 i3
        simp only [let_eq, clt_eq, cond_dec, ln]
        by_cases hi : i < (m.length : Int)
        · left
          rw [if_pos hi, at?_getI ⟨i1, hi⟩]
          refine ⟨(i + 1, set' m i (-7)), ?_, ⟨by simp only; omega, by simp only; omega, by simp [set', i3]⟩, by simp only; omega⟩
          simp only [bnd_some, show iadd i 1 = i + 1 from add_ok (by omega)]
        · right
          exact ⟨(), by rw [if_neg hi], trivial⟩
      have hsl : (stepF x0 x1 s).2.1.Points.length ≤ 1000 := by
        unfold stepF
        split
        · show x1.Points.length ≤ 1000; omega
        · simp only [stepped, List.length_set]; omega
      simp only [Bool.not_true, cond_false, show nz? 3 = some () from rfl, bnd_some, e, pool_Step x0 x1 hg hp hs, pool_Reset x0 x1 hg hp]
      rw [app_ok (by simp; omega)]
      simp only [bnd_some, List.nil_append]
      have hrl : ((if isFull x0 x1 a3 then (resetF x0 x1 a3, true) else (x1, false) : TPool × Bool)).1.Points.length ≤ 1000 := by
        split
        · simp only [resetF, List.length_set]; omega
        · show x1.Points.length ≤ 1000; omega
      have hf1 := hfill _ (Bnd (loop (σ := Int × (List Int)) (ρ := Unit) (fun s59 => Let (ln s59.2) fun v64 => Let (clt s59.1 v64) fun b65 => bif b65 then (Bnd (at? s59.2 s59.1) fun y66 => Let (set' s59.2 s59.1 (-7)) fun l71 => Let (iadd s59.1 1) fun v74 => some (.inl (v74, l71))) else (some (.inr ()))) (0, ((if isFull x0 x1 a3 then (resetF x0 x1 a3, true) else (x1, false) : TPool × Bool)).1.Points)) fun _ => Bnd (m_ref11_Same x1 ⟨x1.Points, x1.Heads⟩) fun r => some r) hsl
      have hf2 := hfill _ (Bnd (m_ref11_Same x1 ⟨x1.Points, x1.Heads⟩) fun r => some r) hrl
      simp only [let_eq] at hf1 hf2
      refine Eq.trans hf1 (Eq.trans hf2 ?_)
      rw [show (⟨x1.Points, x1.Heads⟩ : TPool) = x1 from rfl, ref11_Same _ (by omega)]
      rfl
end Go.AX
