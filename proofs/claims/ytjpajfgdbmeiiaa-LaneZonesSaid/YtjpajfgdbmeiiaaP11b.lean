/- Chapter 11: steps and resets. -/
import Derived.Test.YtjpajfgdbmeiiaaP11
namespace Go.AX
set_option autoImplicit false
set_option linter.unusedVariables false
set_option linter.unusedSimpArgs false

theorem mem_zonesF {g : TGeom} {p : TPool} {v z : Int} : z ∈ zonesF g p v ↔ ∃ i : Nat, i < p.Points.length ∧ gt p.Points i = v ∧ ¬ isHead p (g.Conv + i) ∧ z = g.Conv + i := by
  unfold zonesF zonesTo pick
  simp only [List.mem_flatMap, List.mem_range]
  constructor
  · rintro ⟨i, hi, hz⟩
    split at hz
    · rename_i h
      exact ⟨i, hi, h.1, h.2, by simpa using hz⟩
    · simp at hz
  · rintro ⟨i, hi, h1, h2, rfl⟩
    exact ⟨i, hi, by rw [if_pos ⟨h1, h2⟩]; simp⟩

def hd (p : TPool) (s : Nat) : Int := gt p.Heads.l s
def pt (g : TGeom) (p : TPool) (z : Int) : Int := gt p.Points (z - g.Conv).toNat
def has (g : TGeom) (p : TPool) (z : Int) : Prop := g.Conv ≤ z ∧ z < g.Conv + (p.Points.length : Int)
/-- The zone that a step is done in. -/
def stepZ (g : TGeom) (p : TPool) (s : Nat) : Option Int := if hd p s = 0 then (zonesF g p 0).head? else some (hd p s)
def stepped (g : TGeom) (p : TPool) (s : Nat) (z : Int) : TPool := ⟨p.Points.set (z - g.Conv).toNat (pt g p z + 1), A3.put p.Heads s (if pt g p z + 1 = g.Size then 0 else z)⟩
def stepF (g : TGeom) (p : TPool) (s : Nat) : TAt × TPool × Bool :=
  match stepZ g p s with
  | none => (⟨0, 0⟩, p, false)
  | some z => (⟨z, pt g p z⟩, stepped g p s z, true)

theorem RightP.len' {g : TGeom} {p : TPool} (h : RightP g p) (hg : Geo g) : p.Points.length ≤ 64 := by
  have := h.len; obtain ⟨_, _, _, _⟩ := hg; omega
theorem RightP.head {g : TGeom} {p : TPool} (h : RightP g p) {s : Nat} (hs : s < 3) (hz : hd p s ≠ 0) : has g p (hd p s) ∧ pt g p (hd p s) < g.Size := by
  have := h.heads s hs
  unfold headBad at this
  have hl := h.len
  unfold has pt hd at *
  constructor
  · constructor
    · rcases Int.lt_or_le (gt p.Heads.l s) g.Conv with k | k
      · exact absurd ⟨hz, .inl k⟩ this
      · exact k
    · rcases Int.lt_or_le (gt p.Heads.l s) (g.Conv + g.Seq) with k | k
      · omega
      · exact absurd ⟨hz, .inr (.inl k)⟩ this
  · rcases Int.lt_or_le (gt p.Points (gt p.Heads.l s - g.Conv).toNat) g.Size with k | k
    · exact k
    · exact absurd ⟨hz, .inr (.inr (.inl k))⟩ this
theorem RightP.pt {g : TGeom} {p : TPool} (h : RightP g p) {i : Nat} (hi : i < p.Points.length) : 0 ≤ gt p.Points i ∧ gt p.Points i ≤ g.Size := by
  have := h.pts i hi
  unfold ptBad at this
  constructor
  · rcases Int.lt_or_le (gt p.Points i) 0 with k | k
    · exact absurd (.inl k) this
    · exact k
  · rcases Int.lt_or_le g.Size (gt p.Points i) with k | k
    · exact absurd (.inr (.inl k)) this
    · exact k
theorem zonesF_has {g : TGeom} {p : TPool} {v z : Int} (h : z ∈ zonesF g p v) : has g p z ∧ pt g p z = v := by
  obtain ⟨i, hi, h1, h2, rfl⟩ := mem_zonesF.1 h
  refine ⟨⟨by omega, by omega⟩, ?_⟩
  unfold pt
  rw [show (g.Conv + (i : Int) - g.Conv).toNat = i by omega]; exact h1
theorem stepZ_has {g : TGeom} {p : TPool} (h : RightP g p) (hg : Geo g) {s : Nat} (hs : s < 3) {z : Int} (hz : stepZ g p s = some z) : has g p z ∧ 0 ≤ pt g p z ∧ pt g p z < g.Size := by
  have key : has g p z → 0 ≤ pt g p z := fun hh => by
    unfold has at hh; unfold pt
    exact (h.pt (by omega)).1
  unfold stepZ at hz
  split at hz
  · have hm : z ∈ zonesF g p 0 := List.mem_of_mem_head? (by rw [hz]; rfl)
    obtain ⟨h1, h2⟩ := zonesF_has hm
    exact ⟨h1, key h1, by rw [h2]; have := hg.z; omega⟩
  · rename_i h0
    cases hz
    obtain ⟨h1, h2⟩ := h.head hs h0
    exact ⟨h1, key h1, h2⟩

theorem at3 (A : A3) {s : Nat} (hs : s < 3) : at? A.l (s : Int) = some (gt A.l s) := at?_get (by show s < 3; exact hs)
theorem put_put (A : A3) (s : Nat) (a b : Int) : A3.put (A3.put A s a) s b = A3.put A s b := by
  unfold A3.put
  congr 1 <;> split <;> rfl
theorem gt_put (A : A3) {s : Nat} (hs : s < 3) (v : Int) : gt (A3.put A s v).l s = v := by
  match s, hs with
  | 0, _ => rfl
  | 1, _ => rfl
  | 2, _ => rfl

theorem pool_Free (g : TGeom) (p : TPool) (hg : Geo g) (hl : p.Points.length ≤ 1000) : m_pool_Free g p = some (zonesF g p 0) := by
  unfold m_pool_Free; rw [pool_zones g p 0 hg hl]; rfl
theorem pool_Full (g : TGeom) (p : TPool) (hg : Geo g) (hl : p.Points.length ≤ 1000) : m_pool_Full g p = some (zonesF g p g.Size) := by
  unfold m_pool_Full; rw [pool_zones g p _ hg hl]; rfl

theorem gt_set {l : List Int} {k : Nat} (h : k < l.length) (v : Int) : gt (l.set k v) k = v := by
  rw [gt_eq (by simpa using h)]; simp
theorem gt_set_ne {l : List Int} {k j : Nat} (h : k ≠ j) (v : Int) : gt (l.set k v) j = gt l j := by
  simp [gt, List.getD_eq_getElem?_getD, List.getElem?_set, h]

theorem pool_Step (g : TGeom) (p : TPool) (hg : Geo g) (hp : RightP g p) {s : Nat} (hs : s < 3) : m_pool_Step g p s = some (stepF g p s) := by
  have hl := hp.len' hg
  unfold m_pool_Step
  rw [pool_copied p (by omega)]
  simp only [bnd_some, let_eq, jn_eq, at3 _ hs, ceq_eq, cond_dec, pool_Free g p hg (by omega)]
  have tail : ∀ z, has g p z → 0 ≤ pt g p z ∧ pt g p z < g.Size → stepZ g p s = some z →
      (Bnd (at? p.Points (isub z g.Conv)) fun y43 => Bnd (at? (set' p.Points (isub z g.Conv) (iadd y43 1)) (isub z g.Conv)) fun y60 => if y60 = g.Size then Bnd (at? (A3.put p.Heads (s : Int) z).l (s : Int)) fun v64 => some ((TAt.mk z y43), (TPool.mk (set' p.Points (isub z g.Conv) (iadd y43 1)) (A3.put (A3.put p.Heads (s : Int) z) (s : Int) 0)), true) else some ((TAt.mk z y43), (TPool.mk (set' p.Points (isub z g.Conv) (iadd y43 1)) (A3.put p.Heads (s : Int) z)), true)) = some (stepF g p s) := by
    intro z hz hn hsz
    have hc := hg.c; have hcs := hg.cs; have hss := hg.s; have hgz := hg.z
    unfold has at hz
    rw [show isub z g.Conv = z - g.Conv from sub_ok (by omega), at?_getI (by omega)]
    show Bnd (some (pt g p z)) _ = _
    simp only [bnd_some]
    rw [show iadd (pt g p z) 1 = pt g p z + 1 from add_ok (by omega)]
    rw [show at? (set' p.Points (z - g.Conv) (pt g p z + 1)) (z - g.Conv) = some (pt g p z + 1) by
      rw [at?_getI (by simp only [set', List.length_set]; omega)]
      simp only [set']
      rw [gt_set (by omega)]]
    simp only [bnd_some, at3 _ hs, put_put]
    simp only [stepF, hsz, stepped, set']
    by_cases he : pt g p z + 1 = g.Size
    · simp [he]
    · simp [he]
  by_cases h0 : gt p.Heads.l s = 0
  · simp only [h0, if_true]
    cases hz : zonesF g p 0 with
    | nil =>
      simp only [ln, List.length_nil, stepF, stepZ, hd, h0, hz]
      rfl
    | cons z t =>
      have hsz : stepZ g p s = some z := by simp only [stepZ, hd, h0, if_true, hz]; rfl
      obtain ⟨h1, h2⟩ := stepZ_has hp hg hs hsz
      have hne : ¬ ln (z :: t) = 0 := by simp [ln]; omega
      simp only [hne, if_false, show at? (z :: t) 0 = some z from rfl, bnd_some]
      simpa only [bnd_some, at3 _ hs] using tail z h1 h2 hsz
  · have hsz : stepZ g p s = some (hd p s) := by simp only [stepZ, hd, h0, if_false]
    obtain ⟨h1, h2⟩ := stepZ_has hp hg hs hsz
    simp only [h0, if_false]
    simpa only [bnd_some, at3 _ hs, hd] using tail (hd p s) h1 h2 hsz

theorem ref11_with (g : TGeom) (p : TPool) (z n : Int) (hg : Geo g) (hz : has g p z) (hl : p.Points.length ≤ 1000) : m_ref11_with g p z n = some ⟨p.Points.set (z - g.Conv).toNat n, p.Heads⟩ := by
  have hc := hg.c; have hcs := hg.cs; have hss := hg.s
  unfold has at hz
  unfold m_ref11_with
  simp only [let_eq, show isub z g.Conv = z - g.Conv from sub_ok (by omega)]
  refine bnd_run (fun i => ((i : Int), (p.Points.set (z - g.Conv).toNat n).take i)) p.Points.length (p.Points.set (z - g.Conv).toNat n) (by omega) (by simp) ?_ ?_ rfl
  · intro i hi
    have htl : ((p.Points.set (z - g.Conv).toNat n).take i).length = i := by simp; omega
    simp only [clt_eq, ceq_eq, cond_dec, ln, Int.ofNat_lt, hi, if_true, at?_get hi, bnd_some, show iadd (i : Int) 1 = (i : Int) + 1 from add_ok (by omega)]
    have hts : (p.Points.set (z - g.Conv).toNat n).take (i + 1) = (p.Points.set (z - g.Conv).toNat n).take i ++ [gt (p.Points.set (z - g.Conv).toNat n) i] := by
      have hi' : i < (p.Points.set (z - g.Conv).toNat n).length := by simpa using hi
      rw [List.take_add_one, List.getElem?_eq_getElem hi', gt_eq hi']; rfl
    rw [hts]
    by_cases he : (i : Int) = z - g.Conv
    · have : (z - g.Conv).toNat = i := by omega
      rw [if_pos he, app_ok (by rw [htl]; simp; omega), this, gt_set hi]; simp
    · rw [if_neg he, app_ok (by rw [htl]; simp; omega), gt_set_ne (by omega)]; simp
  · simp only [ln, clt_eq, Int.lt_irrefl, decide_false, cond_false]
    rw [List.take_of_length_le (by simp)]

theorem ref11_Step (g : TGeom) (p : TPool) (hg : Geo g) (hp : RightP g p) {s : Nat} (hs : s < 3) : m_ref11_Step g p s = some (stepF g p s) := by
  have hl := hp.len' hg
  unfold m_ref11_Step
  simp only [bnd_some, let_eq, jn_eq, at3 _ hs, ceq_eq, cond_dec, ref11_Zones g p 0 hg (show p.Points.length ≤ 1000 by omega)]
  have tail : ∀ z, has g p z → 0 ≤ pt g p z ∧ pt g p z < g.Size → stepZ g p s = some z →
      (Bnd (at? p.Points (isub z g.Conv)) fun y34 => Bnd (m_ref11_with g p z (iadd y34 1)) fun r40 => Bnd (at? r40.Heads.l (s : Int)) fun v49 => if iadd y34 1 = g.Size then Bnd (at? (A3.put r40.Heads (s : Int) z).l (s : Int)) fun v62 => some ((TAt.mk z y34), (TPool.mk r40.Points (A3.mk (A3.put (A3.put r40.Heads (s : Int) z) (s : Int) 0).x0 (A3.put (A3.put r40.Heads (s : Int) z) (s : Int) 0).x1 (A3.put (A3.put r40.Heads (s : Int) z) (s : Int) 0).x2)), true) else some ((TAt.mk z y34), (TPool.mk r40.Points (A3.mk (A3.put r40.Heads (s : Int) z).x0 (A3.put r40.Heads (s : Int) z).x1 (A3.put r40.Heads (s : Int) z).x2)), true)) = some (stepF g p s) := by
    intro z hz hn hsz
    have hc := hg.c; have hcs := hg.cs; have hss := hg.s; have hgz := hg.z
    have hz' := hz
    unfold has at hz
    rw [show isub z g.Conv = z - g.Conv from sub_ok (by omega), at?_getI (by omega)]
    show Bnd (some (pt g p z)) _ = _
    simp only [bnd_some]
    rw [show iadd (pt g p z) 1 = pt g p z + 1 from add_ok (by omega), ref11_with g p z _ hg hz' (by omega)]
    simp only [bnd_some, at3 _ hs, put_put]
    simp only [stepF, hsz, stepped, set']
    by_cases he : pt g p z + 1 = g.Size
    · simp [he]
    · simp [he]
  by_cases h0 : gt p.Heads.l s = 0
  · simp only [h0, if_true]
    cases hz : zonesF g p 0 with
    | nil =>
      simp only [ln, List.length_nil, stepF, stepZ, hd, h0, hz]
      rfl
    | cons z t =>
      have hsz : stepZ g p s = some z := by simp only [stepZ, hd, h0, if_true, hz]; rfl
      obtain ⟨h1, h2⟩ := stepZ_has hp hg hs hsz
      have hne : ¬ ln (z :: t) = 0 := by simp [ln]; omega
      simp only [hne, if_false, show at? (z :: t) 0 = some z from rfl, bnd_some]
      simpa only [bnd_some, at3 _ hs] using tail z h1 h2 hsz
  · have hsz : stepZ g p s = some (hd p s) := by simp only [stepZ, hd, h0, if_false]
    obtain ⟨h1, h2⟩ := stepZ_has hp hg hs hsz
    simp only [h0, if_false]
    simpa only [bnd_some, at3 _ hs, hd] using tail (hd p s) h1 h2 hsz

def isFull (g : TGeom) (p : TPool) (z : Int) : Prop := has g p z ∧ pt g p z = g.Size
instance (g : TGeom) (p : TPool) (z : Int) : Decidable (isFull g p z) := by unfold isFull has; infer_instance
def resetF (g : TGeom) (p : TPool) (z : Int) : TPool := ⟨p.Points.set (z - g.Conv).toNat 0, p.Heads⟩

theorem full_iff {g : TGeom} {p : TPool} (hg : Geo g) (hp : RightP g p) (z : Int) : z ∈ zonesF g p g.Size ↔ isFull g p z := by
  constructor
  · exact fun h => zonesF_has h
  · rintro ⟨h1, h2⟩
    have h1' := h1
    unfold has at h1'
    refine mem_zonesF.2 ⟨(z - g.Conv).toNat, by omega, h2, ?_, by omega⟩
    rw [show g.Conv + ((z - g.Conv).toNat : Int) = z by omega]
    rintro ⟨hz0, hm⟩
    rw [List.mem_iff_getElem] at hm
    obtain ⟨s, hs, he⟩ := hm
    have hs' : s < 3 := hs
    have : hd p s = z := by unfold hd; rw [gt_eq hs]; exact he
    have h3 := hp.head hs' (by rw [this]; omega)
    rw [this] at h3
    omega

theorem pool_Reset (g : TGeom) (p : TPool) (hg : Geo g) (hp : RightP g p) (z : Int) : m_pool_Reset g p z = some (if isFull g p z then (resetF g p z, true) else (p, false)) := by
  have hl := hp.len' hg
  have hc := hg.c; have hcs := hg.cs; have hss := hg.s; have hgz := hg.z
  unfold m_pool_Reset
  rw [pool_copied p (by omega)]
  have hzl : (zonesF g p g.Size).length ≤ 1000 := by have := zonesTo_len g p g.Size p.Points.length; unfold zonesF; omega
  simp only [bnd_some, let_eq, pool_Full g p hg (show p.Points.length ≤ 1000 by omega), slices_Contains _ _ hzl]
  by_cases hf : isFull g p z
  · have hm := (full_iff hg hp z).2 hf
    have h1 := hf.1
    unfold has at h1
    simp only [hm, hf, decide_true, Bool.not_true, cond_false, if_true, show isub z g.Conv = z - g.Conv from sub_ok (by omega)]
    rw [at?_getI (by omega)]
    rfl
  · have hm : z ∉ zonesF g p g.Size := fun h => hf ((full_iff hg hp z).1 h)
    simp [hm, hf]

theorem ref11_Reset (g : TGeom) (p : TPool) (hg : Geo g) (hp : RightP g p) (z : Int) : m_ref11_Reset g p z = some (if isFull g p z then (resetF g p z, true) else (p, false)) := by
  have hl := hp.len' hg
  have hc := hg.c; have hcs := hg.cs; have hss := hg.s; have hgz := hg.z
  have hlen := hp.len
  unfold m_ref11_Reset
  simp only [bnd_some, let_eq, jn_eq, clt_eq, cge_eq, cne_eq, cond_dec, show iadd g.Conv g.Seq = g.Conv + g.Seq from add_ok (by omega)]
  by_cases h1 : z < g.Conv
  · have hf : ¬ isFull g p z := fun h => by have := h.1; unfold has at this; omega
    simp [h1, hf]
  by_cases h2 : g.Conv + g.Seq ≤ z
  · have hf : ¬ isFull g p z := fun h => by have := h.1; unfold has at this; omega
    simp [h1, h2, hf]
  rw [show isub z g.Conv = z - g.Conv from sub_ok (by omega), at?_getI (by omega)]
  have hh : has g p z := ⟨by omega, by omega⟩
  simp only [h1, h2, if_false, bnd_some]
  show (if pt g p z ≠ g.Size then _ else _) = _
  by_cases h3 : pt g p z = g.Size
  · have hf : isFull g p z := ⟨hh, h3⟩
    simp only [h3, ne_eq, not_true_eq_false, if_false, hf, if_true, ref11_with g p z 0 hg hh (show p.Points.length ≤ 1000 by omega), bnd_some]
    rfl
  · have hf : ¬ isFull g p z := fun h => h3 h.2
    simp [h3, hf]

theorem ref11_Same (p : TPool) (hl : p.Points.length ≤ 1000) : m_ref11_Same p p = some true := by
  unfold m_ref11_Same
  simp only [let_eq, jn_eq, ceq_eq, cne_eq, decide_true, Bool.and_self, Bool.not_true, cond_false, ne_eq, not_true_eq_false, decide_false]
  refine bnd_run (fun i => (i : Int)) p.Points.length (.inl ()) (by omega) rfl ?_ ?_ rfl
  · intro i hi
    simp only [clt_eq, cond_dec, ln, Int.ofNat_lt, hi, if_true, at?_get hi, bnd_some, ne_eq, not_true_eq_false, if_false, show iadd (i : Int) 1 = (i : Int) + 1 from add_ok (by omega)]
    simp
  · simp [ln]
theorem ref09_Same (l : List Int) (hl : l.length ≤ 1000) : m_ref09_Same l l = some true := by
  unfold m_ref09_Same
  simp only [let_eq, ceq_eq, cne_eq, ne_eq, not_true_eq_false, decide_false, cond_false]
  refine bnd_run (fun i => (i : Int)) l.length (.inl ()) (by omega) rfl ?_ ?_ rfl
  · intro i hi
    simp only [clt_eq, cond_dec, ln, Int.ofNat_lt, hi, if_true, at?_get hi, bnd_some, ne_eq, not_true_eq_false, if_false, show iadd (i : Int) 1 = (i : Int) + 1 from add_ok (by omega)]
    simp
  · simp [ln]
def roomF (g : TGeom) (p : TPool) (s : Nat) : Int := if hd p s = 0 then 0 else g.Size - pt g p (hd p s)
theorem pool_Room (g : TGeom) (p : TPool) (hg : Geo g) (hp : RightP g p) {s : Nat} (hs : s < 3) : m_pool_Room g p s = some (roomF g p s) := by
  have hc := hg.c; have hcs := hg.cs; have hss := hg.s; have hgz := hg.z
  unfold m_pool_Room
  simp only [bnd_some, let_eq, at3 _ hs, ceq_eq, cond_dec]
  by_cases h0 : gt p.Heads.l s = 0
  · simp [h0, roomF, hd]
  · obtain ⟨h1, h2⟩ := hp.head hs h0
    have h3 := h1
    unfold has hd at h3
    have hl := hp.len
    simp only [h0, if_false, show isub (gt p.Heads.l s) g.Conv = gt p.Heads.l s - g.Conv from sub_ok (by omega)]
    rw [at?_getI (by omega)]
    have h4 := hp.pt (i := (gt p.Heads.l s - g.Conv).toNat) (by omega)
    simp only [bnd_some]
    rw [show isub g.Size (gt p.Points (gt p.Heads.l s - g.Conv).toNat) = g.Size - gt p.Points (gt p.Heads.l s - g.Conv).toNat from sub_ok (by omega)]
    simp [roomF, hd, h0, pt]
theorem ref11_Room (g : TGeom) (p : TPool) (hg : Geo g) (hp : RightP g p) {s : Nat} (hs : s < 3) : m_ref11_Room g p s = some (roomF g p s) := by
  rw [← pool_Room g p hg hp hs]
  unfold m_ref11_Room m_pool_Room
  simp only [bnd_some, at3 _ hs]
theorem stream3 {a : Int} (h : 0 ≤ a ∧ a < 256) : ∃ s : Nat, s < 3 ∧ IntKind.wrap .i64 (binI .rem .u8 a 3) = (s : Int) := by
  refine ⟨(a % 3).toNat, by omega, ?_⟩
  show IntKind.wrap .i64 (a.tmod 3) = _
  rw [Int.tmod_eq_emod_of_nonneg h.1, IntKind.wrap_i64]; omega

theorem law_PoolActs (x0 : TGeom) (x1 : TPool) (a2 a3 : Int) (w0 : BGeom x0) (w1 : BPool x1) (w2 : (Lit.int .u8 a2).wf = true) (w3 : (Lit.int .i64 a3).wf = true) : m_law11_PoolActs x0 x1 a2 a3 = some true := by
  unfold m_law11_PoolActs
  simp only [jn_eq, let_eq, awake11, bnd_some, Bool.not_true, cond_false]
  obtain ⟨b, hb, hg⟩ := ref03_Right x0 w0
  rw [hb]
  cases b with
  | false => rfl
  | true =>
    have hg := hg rfl
    obtain ⟨r1, h1, k1⟩ := pool_Right x0 x1 hg
    obtain ⟨r2, h2, k2⟩ := ref11_Right x0 x1 hg
    have he : r1 = r2 := by cases r1 <;> cases r2 <;> simp_all
    subst he
    simp only [bnd_some, h1, h2, beq_self_eq_true, Bool.not_true, cond_false]
    cases r1 with
    | false => rfl
    | true =>
      have hp := k1.1 rfl
      have hl := hp.len' hg
      obtain ⟨s, hs, e⟩ := stream3 (wf_u8 w2)
      simp only [Bool.not_true, cond_false, show nz? 3 = some () from rfl, bnd_some, e, pool_Step x0 x1 hg hp hs, ref11_Step x0 x1 hg hp hs, pool_Reset x0 x1 hg hp, ref11_Reset x0 x1 hg hp, pool_Free x0 x1 hg (show x1.Points.length ≤ 1000 by omega), pool_Full x0 x1 hg (show x1.Points.length ≤ 1000 by omega), ref11_Zones x0 x1 _ hg (show x1.Points.length ≤ 1000 by omega), pool_Room x0 x1 hg hp hs, ref11_Room x0 x1 hg hp hs]
      have hsl : (stepF x0 x1 s).2.1.Points.length ≤ 1000 := by
        unfold stepF
        split
        · show x1.Points.length ≤ 1000; omega
        · simp only [stepped, List.length_set]; omega
      have hz : ∀ v, (zonesF x0 x1 v).length ≤ 1000 := fun v => by have := zonesTo_len x0 x1 v x1.Points.length; unfold zonesF; omega
      rw [ref11_Same _ hsl, ref09_Same _ (hz _), ref09_Same _ (hz _)]
      by_cases hf : isFull x0 x1 a3
      · simp only [hf, if_true]
        rw [ref11_Same _ (by simp only [resetF, List.length_set]; omega)]
        simp
      · simp only [hf, if_false]
        rw [ref11_Same _ (by omega)]
        simp
end Go.AX
