/- What functions of the program compute: each is what its Lean function says. -/
import Derived.Test.YthecmjmlkoomiaaLS9
namespace Go.AX
open Go.Proofs
set_option autoImplicit false
set_option linter.unusedVariables false
set_option maxRecDepth 100000
set_option maxHeartbeats 100000000
set_option linter.unusedSimpArgs false

theorem s29 {v1 : Int} {v2 : Int} {v3 : Int} {v4 : Int} {v5 : Int}  {b6 : Bool}  (h : m_ref10_Little (TGeom.mk v1 v2 v3 v4 v5) = some b6) : Spec Try.prog 29 [.agg [.d (.int .i64 v1), .d (.int .i64 v2), .d (.int .i64 v3), .d (.int .i64 v4), .d (.int .i64 v5)]] ⟨.d (.bool b6), [], 0, True⟩ := by
  refine spec_b [] Try.func29 rfl rfl rfl fun J P hJ hP => ?_
  dsimp only [m_ref10_Little] at h
  cbv
  obtain ⟨b10, h9, h⟩ := bnd h
  refine call_by hP (s43 h9) hJ rfl rfl ?_
  cbv
  cases b10 with
  | true =>
    replace h := cnd_t h
    cbv
    revert h
    refine st_bin hJ fun v11 ev11 h => ?_
    cbv
    revert h
    refine st_cmp hJ fun b12 eb12 h => ?_
    cbv
    cases b12 with
    | true =>
      replace h := cnd_t h
      cbv
      revert h
      refine st_cmp hJ fun b13 eb13 h => ?_
      cbv
      cases h
      exact ⟨_, .refl _, [], _, _, [], _, rfl, rfl, rfl, rfl, rfl, rfl⟩
    | false =>
      replace h := cnd_f h
      cbv
      cases h
      exact ⟨_, .refl _, [], _, _, [], _, rfl, rfl, rfl, rfl, rfl, rfl⟩
  | false =>
    replace h := cnd_f h
    cbv
    cases h
    exact ⟨_, .refl _, [], _, _, [], _, rfl, rfl, rfl, rfl, rfl, rfl⟩
end Go.AX
