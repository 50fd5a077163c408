/- What functions of the program compute: each is what its Lean function says. -/
import Derived.Test.YtjpajfgdbmeiiaaQS13
import Derived.Test.YtjpajfgdbmeiiaaQS20
import Derived.Test.YtjpajfgdbmeiiaaQS29
namespace Go.AX
open Go.Proofs
set_option autoImplicit false
set_option linter.unusedVariables false
set_option maxRecDepth 100000
set_option maxHeartbeats 4000000
set_option linter.unusedSimpArgs false

theorem s44 {v1 : Int} {v2 : Int} {v3 : Int} {v4 : Int} {v5 : Int} {l6 : List Int} {c7 : List D} {n8 : Nat} {v10 : Int} {v11 : Int} {v12 : Int} {v13 : Int} {v14 : Int} (hl9 : IsL (eI .i64) c7 n8 l6) {b15 : Bool}  (h : m_lane_Fits (TGeom.mk v1 v2 v3 v4 v5) (TPool.mk l6 (A3.mk v10 v11 v12)) v13 v14 = some b15) : Spec Try.prog 44 [.agg [.d (.int .i64 v1), .d (.int .i64 v2), .d (.int .i64 v3), .d (.int .i64 v4), .d (.int .i64 v5)], .agg [.d (.lst c7 n8), .d (.int .i64 v10), .d (.int .i64 v11), .d (.int .i64 v12)], .d (.int .i64 v13), .d (.int .i64 v14)] ⟨.d (.bool b15), [], 0, True⟩ := by
  refine spec_b [] Try.func44 rfl rfl rfl fun J P hJ hP => ?_
  dsimp only [m_lane_Fits] at h
  cbv
  obtain ⟨⟨⟨l19, ⟨v23, v24, v25⟩⟩, b26⟩, h18, h⟩ := bnd h
  obtain ⟨c20, n21, hl22⟩ := nameL (eI .i64) l19
  try dsimp only at h
  refine call_by hP (s58 hl9 hl22 h18) hJ rfl rfl ?_
  cbv
  cases b26 with
  | true =>
    replace h := cnd_t h
    cbv
    obtain ⟨l29, h28, h⟩ := bnd h
    obtain ⟨c30, n31, hl32⟩ := nameL (eI .i64) l29
    refine call_by hP (s18 hl22 hl32 h28) hJ rfl rfl ?_
    cbv
    revert h
    refine st_len hJ hl32 fun v33 ev33 h => ?_
    cbv
    obtain ⟨v36, h35, h⟩ := bnd h
    refine call_by hP (s42 hl22 h35) hJ rfl rfl ?_
    cbv
    revert h
    refine st_cmp hJ fun b37 eb37 h => ?_
    cbv
    refine ⟨fun _ => by kernel_rfl, ?_⟩
    cbv
    cases h
    exact ⟨[], _, _, [], rfl, rfl, rfl, rfl⟩
  | false =>
    replace h := cnd_f h
    cbv
    refine ⟨fun _ => by kernel_rfl, ?_⟩
    cbv
    cases h
    exact ⟨[], _, _, [], rfl, rfl, rfl, rfl⟩
theorem s46 {v1 : Int} {v2 : Int} {v3 : Int} {v4 : Int} {v5 : Int} {l6 : List Int} {c7 : List D} {n8 : Nat} {v10 : Int} {v11 : Int} {v12 : Int} {v13 : Int} (hl9 : IsL (eI .i64) c7 n8 l6) {b14 : Bool}  (h : m_lane_Moves (TGeom.mk v1 v2 v3 v4 v5) (TPool.mk l6 (A3.mk v10 v11 v12)) v13 = some b14) : Spec Try.prog 46 [.agg [.d (.int .i64 v1), .d (.int .i64 v2), .d (.int .i64 v3), .d (.int .i64 v4), .d (.int .i64 v5)], .agg [.d (.lst c7 n8), .d (.int .i64 v10), .d (.int .i64 v11), .d (.int .i64 v12)], .d (.int .i64 v13)] ⟨.d (.bool b14), [], 0, True⟩ := by
  refine spec_b [] Try.func46 rfl rfl rfl fun J P hJ hP => ?_
  dsimp only [m_lane_Moves] at h
  cbv
  obtain ⟨⟨⟨l18, ⟨v22, v23, v24⟩⟩, b25⟩, h17, h⟩ := bnd h
  obtain ⟨c19, n20, hl21⟩ := nameL (eI .i64) l18
  try dsimp only at h
  refine call_by hP (s58 hl9 hl21 h17) hJ rfl rfl ?_
  cbv
  cases h
  exact ⟨[], _, _, [], rfl, rfl, rfl, rfl⟩
end Go.AX
