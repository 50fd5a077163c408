/- Chapter 12: the laws' guards; LanePlans, LaneFits. -/
import Derived.Test.YtjpajfgdbmeiiaaP12d
namespace Go.AX
set_option autoImplicit false
set_option linter.unusedVariables false
set_option linter.unusedSimpArgs false

theorem law12_right (g : TGeom) (p : TPool) (w : BGeom g) : ∃ b, m_law12_right g p = some b ∧ (b = true → Geo g ∧ RightQ g p) := by
  unfold m_law12_right
  obtain ⟨b, hb, hg⟩ := ref03_Right g w
  rw [hb]
  cases b with
  | false => exact ⟨false, rfl, fun h => by cases h⟩
  | true =>
    have hg := hg rfl
    unfold m_ref12_Little
    simp only [bnd_some, cond_true, let_eq, cle_eq, cond_dec]
    obtain ⟨r, hr, k⟩ := ref11_Right g p hg
    rw [hr]
    by_cases h1 : g.Seq ≤ 12
    · rw [if_pos h1]
      by_cases h2 : g.Size ≤ 24
      · rw [if_pos h2]
        exact ⟨r, rfl, fun h => ⟨hg, (rightQ hg).1 (k.1 h)⟩⟩
      · rw [if_neg h2]; exact ⟨false, rfl, fun h => by cases h⟩
    · rw [if_neg h1]; exact ⟨false, rfl, fun h => by cases h⟩

theorem law12_few (l : List Int) (hl : l.length ≤ maxLen) : ∃ b, m_law12_few l = some b ∧ (b = true → Strs l ∧ l.length ≤ 300) := by
  unfold maxLen at hl
  unfold m_law12_few
  refine bnd_rnd (fun x => ∃ b, x = some b ∧ (b = true → Strs l ∧ l.length ≤ 300)) (fun t : Int => ∃ i : Nat, t = (i : Int) ∧ i ≤ l.length ∧ i ≤ 500 ∧ ∀ j, j < i → 0 ≤ gt l j ∧ gt l j ≤ 2) (fun t => ((500 : Int) - t).toNat)
    (fun r => match r with | .inl _ => l.length ≤ 300 → ∀ j, j < l.length → 0 ≤ gt l j ∧ gt l j ≤ 2 | .inr _ => True) ⟨0, rfl, by omega, by omega, fun j h => by omega⟩ (by simp) ?_ ?_
  · rintro _ ⟨i, rfl, h1, h2, h3⟩
    simp only [jn_eq, let_eq, clt_eq, cgt_eq, cond_dec, ln]
    by_cases hi : i < l.length
    · rw [if_pos (by omega)]
      by_cases h5 : i < 500
      · rw [if_pos (by omega), at?_get hi]
        simp only [bnd_some]
        refine rnd_if (fun _ => rnd_r trivial) fun k1 => rnd_if (fun _ => rnd_r trivial) fun k2 => ?_
        rw [show iadd (i : Int) 1 = i + 1 from add_ok (by omega)]
        refine rnd_l ⟨i + 1, rfl, by omega, by omega, fun j hj => ?_⟩ (by omega)
        by_cases e : j = i
        · subst e; omega
        · exact h3 j (by omega)
      · rw [if_neg (by omega)]; exact rnd_r fun h => by omega
    · rw [if_neg (by omega)]; exact rnd_r fun _ j hj => h3 j (by omega)
  · rintro (_ | _) hr
    · simp only [let_eq, cle_eq, ln]
      refine ⟨_, rfl, fun h => ?_⟩
      have h : l.length ≤ 300 := by have := of_decide_eq_true h; omega
      refine ⟨fun x hx => ?_, h⟩
      obtain ⟨i, hi, rfl⟩ := List.mem_iff_getElem.1 hx
      have := hr h i hi
      rwa [gt_eq hi] at this
    · exact ⟨false, rfl, fun h => by cases h⟩

theorem ref12_Num (n : Int) : m_ref12_Num n = some (decide (0 ≤ n) && decide (n ≤ 4096)) := by
  unfold m_ref12_Num
  simp only [let_eq, cge_eq, cle_eq]
  by_cases h : 0 ≤ n <;> simp [h]
/-- A number that the guard lets through. -/
theorem num_nat {n : Int} (h : (decide (0 ≤ n) && decide (n ≤ 4096)) = true) : ∃ k : Nat, n = (k : Int) ∧ k ≤ 4096 := by
  simp only [Bool.and_eq_true, decide_eq_true_eq] at h
  exact ⟨n.toNat, by omega, by omega⟩

theorem ref10_Same (l : List TAt) (hl : l.length ≤ 1000) : m_ref10_Same l l = some true := by
  unfold m_ref10_Same
  simp only [let_eq, cne_eq, ln, ne_eq, not_true_eq_false, decide_false, cond_false, clt_eq, cond_dec]
  refine bnd_run (fun i => (i : Int)) l.length (.inl ()) (by omega) rfl ?_ ?_ rfl
  · intro i hi
    have e : at? l (i : Int) = some l[i] := by rw [at?_nat, List.getElem?_eq_getElem hi]
    rw [if_pos (by omega), e]
    simp only [bnd_some, ceq_eq, decide_true, Bool.and_self, Bool.not_true, cond_false, show iadd (i : Int) 1 = i + 1 from add_ok (by omega)]
    rfl
  · simp

theorem planR_right {g : TGeom} {p : TPool} (hg : Geo g) (hp : RightQ g p) {l : List Int} (hl : Strs l) : RightQ g (planR g p l).2.1 ∧ (planR g p l).1.length ≤ l.length := by
  unfold planR
  cases hF : planF g p l with
  | none => exact ⟨hp, by simp⟩
  | some r =>
    obtain ⟨a, q⟩ := r
    have := planF_right hg hp hl hF
    exact ⟨this.1, by simp only; omega⟩

theorem law_LanePlans (x0 : TGeom) (x1 : TPool) (x2 : List Int) (a3 a4 : Int) (w0 : BGeom x0) (w1 : BPool x1) (w2 : (∀ x ∈ x2, (Lit.int .i64 x).wf = true) ∧ x2.length ≤ maxLen) (w3 : (Lit.int .u8 a3).wf = true) (w4 : (Lit.int .i64 a4).wf = true) : m_law12_LanePlans x0 x1 x2 a3 a4 = some true := by
  unfold m_law12_LanePlans
  simp only [jn_eq, let_eq, awake12, bnd_some, Bool.not_true, cond_false]
  obtain ⟨b, hb, hk⟩ := law12_right x0 x1 w0
  rw [hb]
  cases b with
  | false => rfl
  | true =>
    obtain ⟨hg, hq⟩ := hk rfl
    obtain ⟨c, hc, hk2⟩ := law12_few x2 w2.2
    rw [hc]
    cases c with
    | false => rfl
    | true =>
      obtain ⟨hs, hl⟩ := hk2 rfl
      rw [ref12_Num]
      cases hnum : (decide (0 ≤ a4) && decide (a4 ≤ 4096)) with
      | false => rfl
      | true =>
        obtain ⟨n, rfl, hn⟩ := num_nat hnum
        obtain ⟨s, hs3, e⟩ := stream3 (wf_u8 w3)
        obtain ⟨hr, hal⟩ := planR_right hg hq hs
        have hrl := ((rightQ hg).2 hr).len' hg
        simp only [bnd_some, Bool.not_true, cond_false, lane_Plan x0 x1 hg hq x2 hs (by omega), ref12_Plan x0 x1 hg hq x2 hs (by omega), show nz? 3 = some () from rfl, e, ref10_Same _ (show (planR x0 x1 x2).1.length ≤ 1000 by omega), ref11_Same _ (show (planR x0 x1 x2).2.1.Points.length ≤ 1000 by omega), cond_true, lane_Zones hg hq hs3 (show (0 : Int) ≤ n by omega) (by omega), ref12_Zones hg hq hs3 (show (0 : Int) ≤ n by omega) (by omega), lane_Keep hg hq, ref12_Keep]
        simp

theorem law_LaneFits (x0 : TGeom) (x1 : TPool) (a2 a3 a4 : Int) (w0 : BGeom x0) (w1 : BPool x1) (w2 : (Lit.int .i64 a2).wf = true) (w3 : (Lit.int .i64 a3).wf = true) (w4 : (Lit.int .i64 a4).wf = true) : m_law12_LaneFits x0 x1 a2 a3 a4 = some true := by
  unfold m_law12_LaneFits
  simp only [jn_eq, let_eq, awake12, bnd_some, Bool.not_true, cond_false, ref12_Num]
  obtain ⟨b, hb, hk⟩ := law12_right x0 x1 w0
  rw [hb]
  cases b with
  | false => rfl
  | true =>
    obtain ⟨hg, hq⟩ := hk rfl
    simp only [bnd_some, Bool.not_true, cond_false]
    cases h2 : (decide (0 ≤ a2) && decide (a2 ≤ 4096)) with
    | false => rfl
    | true =>
      cases h3 : (decide (0 ≤ a3) && decide (a3 ≤ 4096)) with
      | false => rfl
      | true =>
        cases h4 : (decide (0 ≤ a4) && decide (a4 ≤ 4096)) with
        | false => rfl
        | true =>
          obtain ⟨n2, rfl, k2⟩ := num_nat h2
          obtain ⟨n3, rfl, k3⟩ := num_nat h3
          obtain ⟨n4, rfl, k4⟩ := num_nat h4
          simp only [Bool.not_true, cond_false, lane_Fits hg hq (show n2 ≤ 4199 by omega) (show n3 ≤ 4199 by omega), ref12_Fits hg hq (show n2 ≤ 4199 by omega) (show n3 ≤ 4199 by omega), lane_Moves hg hq (show n4 ≤ 4199 by omega), ref12_Moves hg hq (show n4 ≤ 4199 by omega), bnd_some, beq_self_eq_true, cond_true]
end Go.AX
