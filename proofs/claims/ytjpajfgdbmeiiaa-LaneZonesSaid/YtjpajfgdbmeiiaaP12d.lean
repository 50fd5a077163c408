/- Chapter 12: plain laws: two streams; what fits. -/
import Derived.Test.YtjpajfgdbmeiiaaP12c
namespace Go.AX
set_option autoImplicit false
set_option linter.unusedVariables false
set_option linter.unusedSimpArgs false

theorem zonesN_congr {g : TGeom} {p q : TPool} {s : Nat} (h : roomF g q s = roomF g p s) (n : Int) : zonesN g q s n = zonesN g p s n := by unfold zonesN; rw [h]
theorem zonesN_over {g : TGeom} (hg : Geo g) {p : TPool} (hp : RightQ g p) {s : Nat} (hs : s < 3) {n : Int} (h0 : 0 ≤ n) (h : capF g p s < n) : frees g p < zonesN g p s n := by
  obtain ⟨r, e, r0, _, _, _⟩ := zonesN_range hg hp hs h0
  have hz := hg.z
  have : g.Size * frees g p < g.Size * zonesN g p s n := by unfold capF at h; unfold frees; omega
  exact Int.lt_of_mul_lt_mul_left this (by omega)
theorem zonesN_zero {g : TGeom} (hg : Geo g) {p : TPool} (hp : RightQ g p) {s : Nat} (hs : s < 3) : zonesN g p s 0 = 0 := by
  have := room_range hg hp hs
  unfold zonesN; rw [if_pos (by omega)]
/-- What n steps of a stream leave. -/
theorem one_free {g : TGeom} (hg : Geo g) {p q : TPool} (hp : RightQ g p) (hq : RightQ g q) {s : Nat} (hs : s < 3) {n : Nat} (hc : capF g q s + n = capF g p s) (h1 : 1 ≤ n → roomF g q s < g.Size) (h0 : n = 0 → q = p) :
    frees g q = frees g p - zonesN g p s n ∧ roomF g q s = roomF g p s + g.Size * zonesN g p s n - n := by
  have hrq := room_range hg hq hs
  rcases Nat.eq_zero_or_pos n with h | h
  · subst h
    rw [h0 rfl, Int.natCast_zero, zonesN_zero hg hp hs]; simp
  · unfold capF at hc
    have e : g.Size * (frees g p - frees g q) = n - roomF g p s + roomF g q s := by
      rw [Int.mul_sub]; unfold frees
      generalize g.Size * ((zonesF g p 0).length : Int) = A at *
      generalize g.Size * ((zonesF g q 0).length : Int) = B at *
      omega
    have := zonesN_of hg hp hs e (by omega) hrq.1 (h1 h)
    rw [this]
    omega

theorem strs_rep {a : Nat} (ha : a < 3) (n : Nat) : Strs (List.replicate n (a : Int)) := by
  intro x hx; rw [(List.mem_replicate.1 hx).2]; omega
theorem strs_two {a b : Nat} (ha : a < 3) (hb : b < 3) (n m : Nat) : Strs (List.replicate n (a : Int) ++ List.replicate m (b : Int)) := by
  intro x hx
  rcases List.mem_append.1 hx with h | h
  · exact strs_rep ha n x h
  · exact strs_rep hb m x h

theorem plan_one {g : TGeom} (hg : Geo g) {p : TPool} (hp : RightQ g p) {s : Nat} (hs : s < 3) (n : Nat) :
    (frees g p < zonesN g p s n ∧ planF g p (List.replicate n (s : Int)) = none) ∨
    ∃ A q, planF g p (List.replicate n (s : Int)) = some (A, q) ∧ RightQ g q ∧ A.length = n ∧ frees g q = frees g p - zonesN g p s n ∧ roomF g q s = roomF g p s + g.Size * zonesN g p s n - n ∧ ∀ b, b < 3 → b ≠ s → roomF g q b = roomF g p b := by
  rcases run_one hg hs n [] p hp with ⟨h1, h2⟩ | ⟨A, q, h1, h2, h3, h4, h5, h6, h7⟩
  · exact .inl ⟨zonesN_over hg hp hs (by omega) h1, h2⟩
  · obtain ⟨e1, e2⟩ := one_free hg hp h2 hs h4 h5 h6
    exact .inr ⟨A, q, h1, h2, by simpa using h3, e1, e2, fun b hb hne => (h7 b hb hne).1⟩

theorem plan_two {g : TGeom} (hg : Geo g) {p : TPool} (hp : RightQ g p) {a b : Nat} (ha : a < 3) (hb : b < 3) (hne : b ≠ a) (n m : Nat) :
    (frees g p < zonesN g p a n + zonesN g p b m ∧ planF g p (List.replicate n (a : Int) ++ List.replicate m (b : Int)) = none) ∨
    ∃ A q, planF g p (List.replicate n (a : Int) ++ List.replicate m (b : Int)) = some (A, q) ∧ RightQ g q ∧ zonesN g p a n + zonesN g p b m ≤ frees g p ∧ frees g q = frees g p - zonesN g p a n - zonesN g p b m ∧ roomF g q b = roomF g p b + g.Size * zonesN g p b m - m := by
  rw [planF_app]
  have hnb : 0 ≤ zonesN g p b m := by obtain ⟨r, _, _, _, h, _⟩ := zonesN_range hg hp hb (show (0 : Int) ≤ m by omega); exact h
  rcases plan_one hg hp ha n with ⟨h1, h2⟩ | ⟨A, q, h1, h2, h3, h4, h5, h6⟩
  · left
    rw [h2, foldS_none]
    exact ⟨by omega, rfl⟩
  · rw [h1]
    have hb6 := h6 b hb hne
    rcases run_one hg hb m A q h2 with ⟨k1, k2⟩ | ⟨A', q', k1, k2, k3, k4, k5, k6, k7⟩
    · left
      have := zonesN_over hg h2 hb (by omega) k1
      rw [zonesN_congr hb6] at this
      exact ⟨by omega, k2⟩
    · right
      obtain ⟨e1, e2⟩ := one_free hg h2 k2 hb k4 k5 k6
      rw [zonesN_congr hb6] at e1 e2
      have : 0 ≤ frees g q' := by unfold frees; omega
      exact ⟨A', q', k1, k2, by omega, by omega, by rw [e2, hb6]⟩

-- what is handed out, in all
theorem sum_set : ∀ (l : List Int) (k : Nat) (v : Int), k < l.length → (l.set k v).sum = l.sum + (v - gt l k)
  | x :: t, 0, v, h => by simp [gt]; omega
  | x :: t, k + 1, v, h => by
    have := sum_set t k v (by simpa using h)
    have e : gt (x :: t) (k + 1) = gt t k := by simp [gt]
    rw [e]; simp only [List.set_cons_succ, List.sum_cons]; omega
theorem sum_le : ∀ (l : List Int) (S : Int), (∀ i, i < l.length → 0 ≤ gt l i ∧ gt l i ≤ S) → 0 ≤ l.sum ∧ l.sum ≤ S * l.length
  | [], S, h => by simp
  | x :: t, S, h => by
    obtain ⟨h1, h2⟩ := sum_le t S (fun i hi => by have := h (i + 1) (by simpa using hi); simpa [gt] using this)
    have h3 := h 0 (by simp)
    have e : gt (x :: t) 0 = x := by simp [gt]
    rw [e] at h3
    simp only [List.sum_cons, List.length_cons, Int.natCast_add, Int.natCast_one, Int.mul_add, Int.mul_one]
    omega
theorem step_sum {g : TGeom} {p : TPool} {s : Nat} {z : Int} (hz : has g p z) : (stepped g p s z).Points.sum = p.Points.sum + 1 := by
  unfold has at hz
  show (p.Points.set (z - g.Conv).toNat (pt g p z + 1)).sum = _
  rw [sum_set _ _ _ (by omega)]
  unfold pt; omega
theorem foldS_sum {g : TGeom} (hg : Geo g) : ∀ (l : List Int), Strs l → ∀ (a : List TAt) (q : TPool), RightQ g q → ∀ a' q', l.foldl (planS g) (some (a, q)) = some (a', q') → q'.Points.sum = q.Points.sum + l.length
  | [], _, a, q, hq, a', q', h => by cases h; simp
  | s :: t, hl, a, q, hq, a', q', h => by
    have hs := hl s List.mem_cons_self
    simp only [List.foldl_cons] at h
    cases hz : stepZ g q s.toNat with
    | none => simp only [planS, hz] at h; rw [foldS_none] at h; cases h
    | some z =>
      simp only [planS, hz] at h
      obtain ⟨z1, _, _⟩ := stepZ_has ((rightQ hg).2 hq) hg (by omega) hz
      have h1 := foldS_sum hg t (fun x hx => hl x (List.mem_cons_of_mem _ hx)) _ _ (stepped_right hg hq (by omega) hz) a' q' h
      rw [h1, step_sum z1]; simp; omega
theorem plan_max {g : TGeom} (hg : Geo g) {p : TPool} (hp : RightQ g p) {l : List Int} (hl : Strs l) (h : g.Seq * g.Size < l.length) : planF g p l = none := by
  cases hF : planF g p l with
  | none => rfl
  | some r =>
    obtain ⟨a, q⟩ := r
    have h1 := foldS_sum hg l hl [] p hp a q hF
    have hq := (planF_right hg hp hl hF).1
    have h2 := sum_le p.Points g.Size (fun i hi => ⟨(hp.pts i hi).1, (hp.pts i hi).2.1⟩)
    have h3 := sum_le q.Points g.Size (fun i hi => ⟨(hq.pts i hi).1, (hq.pts i hi).2.1⟩)
    rw [hq.len, Int.mul_comm] at h3
    omega

def bothF (g : TGeom) (p : TPool) (l : List Int) : TPool × Bool := match planF g p l with
  | some (_, q) => (q, true)
  | none => (p, false)
theorem lane_both {g : TGeom} (hg : Geo g) {p : TPool} (hp : RightQ g p) {a b : Nat} (ha : a < 3) (hb : b < 3) (hne : b ≠ a) {n m : Nat} (hn : n ≤ 4199) (hm : m ≤ 4199) :
    m_lane_both g p a n b m = some (bothF g p (List.replicate n (a : Int) ++ List.replicate m (b : Int))) := by
  have hpl := ((rightQ hg).2 hp).len' hg
  have hz := hg.z
  have bnd : ∀ (s : Nat), s < 3 → ∀ k : Nat, k ≤ 4199 → 0 ≤ zonesN g p s k ∧ zonesN g p s k ≤ 10000 := by
    intro s hs k hk
    obtain ⟨r, e, r0, r1, d0, r2⟩ := zonesN_range hg hp hs (show (0 : Int) ≤ k by omega)
    have hr := room_range hg hp hs
    refine ⟨d0, ?_⟩
    have : 1 * zonesN g p s k ≤ g.Size * zonesN g p s k := Int.mul_le_mul_of_nonneg_right (by omega) d0
    by_cases hle : roomF g p s < k
    · have := r1 hle; omega
    · have := r2 (by omega); omega
  have b1 := bnd a ha n hn
  have b2 := bnd b hb m hm
  unfold m_lane_both
  rw [pool_Free g p hg (by omega)]
  simp only [bnd_some, let_eq]
  rw [lane_Zones hg hp ha (by omega) (by omega), bnd_some, lane_Zones hg hp hb (by omega) (by omega), bnd_some]
  rw [show iadd (zonesN g p a n) (zonesN g p b m) = zonesN g p a n + zonesN g p b m from add_ok (by omega)]
  simp only [cgt_eq, cond_dec, slices_Repeat _ n hn, slices_Repeat _ m hm, bnd_some]
  rw [slices_Concat _ _ (by simp; omega), bnd_some, lane_Plan g p hg hp _ (strs_two ha hb n m) (by simp; omega), bnd_some]
  unfold planR bothF
  rcases plan_two hg hp ha hb hne n m with ⟨h1, h2⟩ | ⟨A, q, h1, h2, h3, h4, h5⟩
  · rw [if_pos (show ln (zonesF g p 0) < _ from h1), h2]
  · rw [if_neg (show ¬ ln (zonesF g p 0) < _ from Int.not_lt.2 h3), h1]

def fitsF (g : TGeom) (p : TPool) (n m : Nat) : Bool := match planF g p (List.replicate n 0 ++ List.replicate m 2) with
  | some (_, q) => decide (keepF q ≤ frees g q)
  | none => false
def movesF (g : TGeom) (p : TPool) (n : Nat) : Bool := (planF g p (List.replicate n 1 ++ List.replicate 1 2)).isSome

theorem lane_Fits {g : TGeom} (hg : Geo g) {p : TPool} (hp : RightQ g p) {n m : Nat} (hn : n ≤ 4199) (hm : m ≤ 4199) : m_lane_Fits g p n m = some (fitsF g p n m) := by
  unfold m_lane_Fits
  have hb : m_lane_both g p 0 n 2 m = some (bothF g p (List.replicate n 0 ++ List.replicate m 2)) := lane_both hg hp (a := 0) (b := 2) (by omega) (by omega) (by omega) hn hm
  rw [hb]
  unfold bothF fitsF
  simp only [bnd_some]
  cases hF : planF g p (List.replicate n 0 ++ List.replicate m 2) with
  | none => rfl
  | some r =>
    obtain ⟨A, q⟩ := r
    have hq := (planF_right hg hp (strs_two (a := 0) (b := 2) (by omega) (by omega) n m) hF).1
    have hql := ((rightQ hg).2 hq).len' hg
    simp only [cond_true]
    rw [pool_Free g q hg (by omega), bnd_some, lane_Keep hg hq]
    rfl
theorem ref12_Fits {g : TGeom} (hg : Geo g) {p : TPool} (hp : RightQ g p) {n m : Nat} (hn : n ≤ 4199) (hm : m ≤ 4199) : m_ref12_Fits g p n m = some (fitsF g p n m) := by
  have hz := hg.z; have hs := hg.s; have hcs := hg.cs; have hc := hg.c
  have hmul : 0 ≤ g.Seq * g.Size ∧ g.Seq * g.Size ≤ 64 * 256 := ⟨Int.mul_nonneg (by omega) (by omega), Int.mul_le_mul (by omega) (by omega) (by omega) (by omega)⟩
  have hst : Strs (List.replicate n (0 : Int) ++ List.replicate m (2 : Int)) := strs_two (a := 0) (b := 2) (by omega) (by omega) n m
  unfold m_ref12_Fits
  simp only [let_eq, show iadd (n : Int) (m : Int) = n + m from add_ok (by omega), show imul g.Seq g.Size = g.Seq * g.Size from mul_ok (by omega), cgt_eq, cond_dec]
  unfold fitsF
  by_cases h : g.Seq * g.Size < (n : Int) + m
  · rw [if_pos h, plan_max hg hp hst (by simpa using h)]
  · rw [if_neg h, ref12_some _ _ n m (by omega) (by omega), bnd_some, ref12_Plan g p hg hp _ hst (by simp; omega), bnd_some]
    unfold planR
    cases hF : planF g p (List.replicate n 0 ++ List.replicate m 2) with
    | none => rfl
    | some r =>
      obtain ⟨A, q⟩ := r
      have hq := (planF_right hg hp hst hF).1
      have hql := ((rightQ hg).2 hq).len' hg
      simp only [cond_true]
      rw [ref11_Zones g q 0 hg (by omega), bnd_some, ref12_Keep]
      rfl
theorem lane_Moves {g : TGeom} (hg : Geo g) {p : TPool} (hp : RightQ g p) {n : Nat} (hn : n ≤ 4199) : m_lane_Moves g p n = some (movesF g p n) := by
  unfold m_lane_Moves
  have hb : m_lane_both g p 1 n 2 1 = some (bothF g p (List.replicate n 1 ++ List.replicate 1 2)) := lane_both hg hp (a := 1) (b := 2) (by omega) (by omega) (by omega) hn (m := 1) (by omega)
  rw [hb]
  unfold bothF movesF
  simp only [bnd_some]
  cases planF g p (List.replicate n 1 ++ List.replicate 1 2) <;> rfl
theorem ref12_Moves {g : TGeom} (hg : Geo g) {p : TPool} (hp : RightQ g p) {n : Nat} (hn : n ≤ 4199) : m_ref12_Moves g p n = some (movesF g p n) := by
  have hz := hg.z; have hs := hg.s; have hcs := hg.cs; have hc := hg.c
  have hmul : 0 ≤ g.Seq * g.Size ∧ g.Seq * g.Size ≤ 64 * 256 := ⟨Int.mul_nonneg (by omega) (by omega), Int.mul_le_mul (by omega) (by omega) (by omega) (by omega)⟩
  have hst : Strs (List.replicate n (1 : Int) ++ List.replicate 1 (2 : Int)) := strs_two (a := 1) (b := 2) (by omega) (by omega) n 1
  unfold m_ref12_Moves
  simp only [let_eq, show imul g.Seq g.Size = g.Seq * g.Size from mul_ok (by omega), cgt_eq, cond_dec]
  unfold movesF
  by_cases h : g.Seq * g.Size < (n : Int)
  · rw [if_pos h]
    have : planF g p (List.replicate n 1 ++ List.replicate 1 2) = none := plan_max hg hp hst (by simp; omega)
    rw [this]; rfl
  · rw [if_neg h]
    have := ref12_some 1 2 n 1 (by omega) (by omega)
    rw [show ((1 : Nat) : Int) = 1 from rfl] at this
    rw [this, bnd_some, ref12_Plan g p hg hp _ hst (by simp; omega), bnd_some]
    unfold planR
    cases planF g p (List.replicate n 1 ++ List.replicate 1 2) <;> rfl
end Go.AX
