/- Chapter 12: plain laws: planning. -/
import Derived.Test.YtjpajfgdbmeiiaaP11e
namespace Go.AX
set_option autoImplicit false
set_option linter.unusedVariables false
set_option linter.unusedSimpArgs false

theorem awake12 : m_law12_awake = some true := by kernel_rfl

/-- What is planned. -/
def planS (g : TGeom) : Option (List TAt × TPool) → Int → Option (List TAt × TPool)
  | none, _ => none
  | some (a, q), s => match stepZ g q s.toNat with
    | none => none
    | some z => some (a ++ [⟨z, pt g q z⟩], stepped g q s.toNat z)
def planF (g : TGeom) (p : TPool) (l : List Int) : Option (List TAt × TPool) := l.foldl (planS g) (some ([], p))
def planR (g : TGeom) (p : TPool) (l : List Int) : List TAt × TPool × Bool := match planF g p l with
  | some (a, q) => (a, q, true)
  | none => ([], p, false)
def Strs (l : List Int) : Prop := ∀ x ∈ l, 0 ≤ x ∧ x ≤ 2

theorem foldS_none (g : TGeom) : ∀ l : List Int, l.foldl (planS g) none = none
  | [] => rfl
  | _ :: t => foldS_none g t
theorem planF_app (g : TGeom) (p : TPool) (l m : List Int) : planF g p (l ++ m) = m.foldl (planS g) (planF g p l) := by simp [planF]
theorem strs_nat {l : List Int} (h : Strs l) {i : Nat} (hi : i < l.length) : ∃ s : Nat, s < 3 ∧ gt l i = (s : Int) := by
  have := h (gt l i) (by rw [gt_eq hi]; exact List.getElem_mem hi)
  exact ⟨(gt l i).toNat, by omega, by omega⟩

theorem foldS_right {g : TGeom} (hg : Geo g) : ∀ (l : List Int), Strs l → ∀ (a : List TAt) (q : TPool), RightQ g q → ∀ a' q', l.foldl (planS g) (some (a, q)) = some (a', q') → RightQ g q' ∧ a'.length = a.length + l.length
  | [], _, a, q, hq, a', q', h => by cases h; exact ⟨hq, rfl⟩
  | s :: t, hl, a, q, hq, a', q', h => by
    have hs := hl s List.mem_cons_self
    simp only [List.foldl_cons] at h
    cases hz : stepZ g q s.toNat with
    | none => simp only [planS, hz] at h; rw [foldS_none] at h; cases h
    | some z =>
      simp only [planS, hz] at h
      obtain ⟨h1, h2⟩ := foldS_right hg t (fun x hx => hl x (List.mem_cons_of_mem _ hx)) _ _ (stepped_right hg hq (by omega) hz) a' q' h
      refine ⟨h1, ?_⟩
      rw [h2]; simp; omega
theorem planF_right {g : TGeom} {p : TPool} (hg : Geo g) (hp : RightQ g p) {l : List Int} (hl : Strs l) {a : List TAt} {q : TPool} (h : planF g p l = some (a, q)) : RightQ g q ∧ a.length = l.length := by
  have := foldS_right hg l hl [] p hp a q h
  simpa using this

theorem lane_Plan (g : TGeom) (p : TPool) (hg : Geo g) (hp : RightQ g p) (l : List Int) (hl : Strs l) (hn : l.length ≤ 100000) : m_lane_Plan g p l = some (planR g p l) := by
  have hpl := ((rightQ hg).2 hp).len' hg
  unfold m_lane_Plan
  simp only [slices_Clone _ (show p.Points.length ≤ 1000 by omega), bnd_some, let_eq, ln]
  refine bnd_rnd (fun x => x = some (planR g p l)) (fun t : Int × List TAt × Int × Int × Int × List Int => ∃ (i : Nat) (a : List TAt) (q : TPool), i ≤ l.length ∧ t = ((i : Int), a, q.Heads.x0, q.Heads.x1, q.Heads.x2, q.Points) ∧ planF g p (l.take i) = some (a, q)) (fun t => ((l.length : Int) - t.1).toNat)
    (fun r => match r with | .inl t => ∃ q : TPool, t.2 = (q.Heads.x0, q.Heads.x1, q.Heads.x2, q.Points) ∧ planF g p l = some (t.1, q) | .inr L => L = p.Points ∧ planF g p l = none) ⟨0, [], p, by omega, rfl, rfl⟩ (by simp; omega) ?_ ?_
  · rintro t ⟨i, a, q, hi, rfl, hq⟩
    have hlt : Strs (l.take i) := fun x hx => hl x (List.mem_of_mem_take hx)
    obtain ⟨hr, ha⟩ := planF_right hg hp hlt hq
    have ha : a.length = i := by rw [ha, List.length_take]; omega
    have hqp := (rightQ hg).2 hr
    simp only [clt_eq, cond_dec]
    by_cases h : i < l.length
    · obtain ⟨s, hs, es⟩ := strs_nat hl h
      have htake : l.take (i + 1) = l.take i ++ [gt l i] := by rw [List.take_add_one, List.getElem?_eq_getElem h, gt_eq h]; rfl
      rw [if_pos (by omega), at?_get h, es]
      simp only [bnd_some]
      rw [show (TPool.mk q.Points (A3.mk q.Heads.x0 q.Heads.x1 q.Heads.x2)) = q from rfl, pool_Step g q hg hqp hs]
      have hF : planF g p (l.take (i + 1)) = planS g (some (a, q)) (s : Int) := by rw [htake, planF_app, hq, es]; rfl
      cases hz : stepZ g q s with
      | none =>
        simp only [bnd_some, stepF, hz, Bool.not_false, cond_true]
        refine rnd_r ⟨rfl, ?_⟩
        have hN : planF g p (l.take (i + 1)) = none := by rw [hF]; simp [planS, hz]
        rw [← List.take_append_drop (i + 1) l, planF_app, hN, foldS_none]
      | some z =>
        simp only [bnd_some, stepF, hz, Bool.not_true, cond_false]
        rw [app_ok (by simp; omega)]
        simp only [bnd_some, show iadd (i : Int) 1 = i + 1 from add_ok (by omega)]
        exact rnd_l ⟨i + 1, a ++ [⟨z, pt g q z⟩], stepped g q s z, by omega, rfl, by rw [hF]; simp [planS, hz]⟩ (by simp only; omega)
    · rw [if_neg (by omega)]
      refine rnd_r ⟨q, rfl, ?_⟩
      rw [← hq, List.take_of_length_le (by omega)]
  · rintro (⟨a, t⟩ | L) ht
    · obtain ⟨q, rfl, hF⟩ := ht
      simp only [planR, hF]
    · obtain ⟨rfl, hF⟩ := ht
      simp only [planR, hF]

theorem ref12_Plan (g : TGeom) (p : TPool) (hg : Geo g) (hp : RightQ g p) (l : List Int) (hl : Strs l) (hn : l.length ≤ 100000) : m_ref12_Plan g p l = some (planR g p l) := by
  have hpl := ((rightQ hg).2 hp).len' hg
  unfold m_ref12_Plan
  refine bnd_rnd (fun x => x = some (planR g p l)) (fun t : Int × List TAt × List Int × Int × Int × Int => ∃ (i : Nat) (a : List TAt) (q : TPool), i ≤ l.length ∧ t = ((i : Int), a, q.Points, q.Heads.x0, q.Heads.x1, q.Heads.x2) ∧ planF g p (l.take i) = some (a, q)) (fun t => ((l.length : Int) - t.1).toNat)
    (fun r => match r with | .inl t => ∃ q : TPool, t.2 = (q.Points, q.Heads.x0, q.Heads.x1, q.Heads.x2) ∧ planF g p l = some (t.1, q) | .inr L => planF g p l = none) ⟨0, [], p, by omega, rfl, rfl⟩ (by simp; omega) ?_ ?_
  · rintro t ⟨i, a, q, hi, rfl, hq⟩
    have hlt : Strs (l.take i) := fun x hx => hl x (List.mem_of_mem_take hx)
    obtain ⟨hr, ha⟩ := planF_right hg hp hlt hq
    have ha : a.length = i := by rw [ha, List.length_take]; omega
    have hqp := (rightQ hg).2 hr
    simp only [let_eq, ln, clt_eq, cond_dec]
    by_cases h : i < l.length
    · obtain ⟨s, hs, es⟩ := strs_nat hl h
      have htake : l.take (i + 1) = l.take i ++ [gt l i] := by rw [List.take_add_one, List.getElem?_eq_getElem h, gt_eq h]; rfl
      rw [if_pos (by omega), at?_get h, es]
      simp only [bnd_some]
      rw [show (TPool.mk q.Points (A3.mk q.Heads.x0 q.Heads.x1 q.Heads.x2)) = q from rfl, ref11_Step g q hg hqp hs]
      have hF : planF g p (l.take (i + 1)) = planS g (some (a, q)) (s : Int) := by rw [htake, planF_app, hq, es]; rfl
      cases hz : stepZ g q s with
      | none =>
        simp only [bnd_some, stepF, hz, Bool.not_false, cond_true]
        refine rnd_r ?_
        have hN : planF g p (l.take (i + 1)) = none := by rw [hF]; simp [planS, hz]
        show planF g p l = none
        rw [← List.take_append_drop (i + 1) l, planF_app, hN, foldS_none]
      | some z =>
        simp only [bnd_some, stepF, hz, Bool.not_true, cond_false]
        rw [app_ok (by simp; omega)]
        simp only [bnd_some, show iadd (i : Int) 1 = i + 1 from add_ok (by omega)]
        exact rnd_l ⟨i + 1, a ++ [⟨z, pt g q z⟩], stepped g q s z, by omega, rfl, by rw [hF]; simp [planS, hz]⟩ (by simp only; omega)
    · rw [if_neg (by omega)]
      refine rnd_r ⟨q, rfl, ?_⟩
      rw [← hq, List.take_of_length_le (by omega)]
  · rintro (⟨a, t⟩ | L) ht
    · obtain ⟨q, rfl, hF⟩ := ht
      simp only [planR, hF]
    · have hF : planF g p l = none := ht
      simp only [planR, hF]
end Go.AX
