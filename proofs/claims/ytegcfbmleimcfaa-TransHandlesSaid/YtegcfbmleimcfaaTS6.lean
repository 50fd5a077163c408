/- What functions of the program compute: each is what its Lean function says. -/
import Derived.Test.YtegcfbmleimcfaaTS1
namespace Go.AX
open Go.Proofs
set_option autoImplicit false
set_option linter.unusedVariables false
set_option maxRecDepth 100000
set_option maxHeartbeats 100000000
set_option linter.unusedSimpArgs false

theorem s29 {v1 : Int} {v2 : Int} {l3 : List TWrite} {c4 : List D} {n5 : Nat} (hl6 : IsL eWrite c4 n5 l3) {v7 : Int} {v8 : Int} {l9 : List TWrite} {c10 : List D} {n11 : Nat} (hl12 : IsL eWrite c10 n11 l9) (h : m_trans_copied (TTrans.mk v1 v2 l3) = some (TTrans.mk v7 v8 l9)) : Spec Try.prog 29 [.agg [.d (.int .i64 v1), .d (.int .i64 v2), .d (.lst c4 n5)]] ⟨.agg [.d (.int .i64 v7), .d (.int .i64 v8), .own 0 n11 34], [(0, .row c10 34 28)], 1, True⟩ := by
  refine spec_b [] Try.func29 rfl rfl rfl fun J P hJ hP => ?_
  dsimp only [m_trans_copied] at h
  cbv
  obtain ⟨l16, h15, h⟩ := bnd h
  obtain ⟨c17, n18, hl19⟩ := nameL eWrite l16
  refine call_by hP (s38 hl6 hl19 h15) hJ rfl rfl ?_
  cbv
  cases h
  obtain ⟨rfl, rfl⟩ := IsL.uniq hl12 hl19
  exact ⟨_, .refl _, [], _, _, [(6, 0)], _, rfl, rfl, rfl, rfl, rfl, rfl⟩
theorem s37 {v1 : Int} {v2 : Int}  {v3 : Int}  (h : m_cmp_Compare v1 v2 = some v3) : Spec Try.prog 37 [.d (.int .i64 v1), .d (.int .i64 v2)] ⟨.d (.int .i64 v3), [], 0, True⟩ := by
  refine spec_b [] Try.func37 rfl rfl rfl fun J P hJ hP => ?_
  dsimp only [m_cmp_Compare] at h
  cbv
  obtain ⟨b7, h6, h⟩ := bnd h
  refine call_by hP (s44 h6) hJ rfl rfl ?_
  cbv
  obtain ⟨b10, h9, h⟩ := bnd h
  refine call_by hP (s44 h9) hJ rfl rfl ?_
  cbv
  cases b7 with
  | true =>
    replace h := cnd_t h
    cbv
    cases b10 with
    | true =>
      replace h := cnd_t h
      cbv
      cases h
      exact ⟨_, .refl _, [], _, _, [], _, rfl, rfl, rfl, rfl, rfl, rfl⟩
    | false =>
      replace h := cnd_f h
      cbv
      cases h
      exact ⟨_, .refl _, [], _, _, [], _, rfl, rfl, rfl, rfl, rfl, rfl⟩
  | false =>
    replace h := cnd_f h
    cbv
    cases b10 with
    | true =>
      replace h := cnd_t h
      cbv
      cases h
      exact ⟨_, .refl _, [], _, _, [], _, rfl, rfl, rfl, rfl, rfl, rfl⟩
    | false =>
      replace h := cnd_f h
      cbv
      revert h
      refine st_cmp hJ fun b11 eb11 h => ?_
      cbv
      cases b11 with
      | true =>
        replace h := cnd_t h
        cbv
        cases h
        exact ⟨_, .refl _, [], _, _, [], _, rfl, rfl, rfl, rfl, rfl, rfl⟩
      | false =>
        replace h := cnd_f h
        cbv
        revert h
        refine st_cmp hJ fun b12 eb12 h => ?_
        cbv
        cases b12 with
        | true =>
          replace h := cnd_t h
          cbv
          cases h
          exact ⟨_, .refl _, [], _, _, [], _, rfl, rfl, rfl, rfl, rfl, rfl⟩
        | false =>
          replace h := cnd_f h
          cbv
          cases h
          exact ⟨_, .refl _, [], _, _, [], _, rfl, rfl, rfl, rfl, rfl, rfl⟩
end Go.AX
