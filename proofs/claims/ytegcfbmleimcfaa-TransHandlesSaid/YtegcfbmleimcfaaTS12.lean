/- What functions of the program compute: each is what its Lean function says. -/
import Derived.Test.YtegcfbmleimcfaaTS10
import Derived.Test.YtegcfbmleimcfaaTS11
namespace Go.AX
open Go.Proofs
set_option autoImplicit false
set_option linter.unusedVariables false
set_option maxRecDepth 100000
set_option maxHeartbeats 100000000
set_option linter.unusedSimpArgs false

theorem s32 {v1 : Int} {l2 : List TTrans} {c3 : List D} {n4 : Nat} {v6 : Int} (hl5 : IsL eTrans c3 n4 l2) {v7 : Int} {b8 : Bool}  (h : m_trans_at (TLedger.mk v1 l2) v6 = some (v7, b8)) : Spec Try.prog 32 [.agg [.d (.int .i64 v1), .d (.lst c3 n4)], .d (.int .i64 v6)] ⟨.tup [.d (.int .i64 v7), .d (.bool b8)], [], 0, True⟩ := by
  refine spec_b [] Try.func32 rfl rfl rfl fun J P hJ hP => ?_
  dsimp only [m_trans_at] at h
  cbv
  obtain ⟨⟨v12, b13⟩, h11, h⟩ := bnd h
  try dsimp only at h
  refine call_by hP (s42 hl5 h11) hJ rfl rfl ?_
  cbv
  cases h
  exact ⟨_, .refl _, [], _, _, [], _, rfl, rfl, rfl, rfl, rfl, rfl⟩
theorem s28 {v1 : Int} {v2 : Int} {l3 : List TWrite} {c4 : List D} {n5 : Nat} {v7 : Int} (hl6 : IsL eWrite c4 n5 l3) {v8 : Int} {b9 : Bool}  (h : m_trans_place (TTrans.mk v1 v2 l3) v7 = some (v8, b9)) : Spec Try.prog 28 [.agg [.d (.int .i64 v1), .d (.int .i64 v2), .d (.lst c4 n5)], .d (.int .i64 v7)] ⟨.tup [.d (.int .i64 v8), .d (.bool b9)], [], 0, True⟩ := by
  refine spec_b [] Try.func28 rfl rfl rfl fun J P hJ hP => ?_
  dsimp only [m_trans_place] at h
  cbv
  obtain ⟨⟨v13, b14⟩, h12, h⟩ := bnd h
  try dsimp only at h
  refine call_by hP (s35 hl6 h12) hJ rfl rfl ?_
  cbv
  cases h
  exact ⟨_, .refl _, [], _, _, [], _, rfl, rfl, rfl, rfl, rfl, rfl⟩
end Go.AX
