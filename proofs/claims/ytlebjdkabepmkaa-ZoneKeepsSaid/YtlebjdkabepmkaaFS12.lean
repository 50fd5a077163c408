/- What functions of the program compute: each is what its Lean function says. -/
import Derived.Test.YtlebjdkabepmkaaFS1
import Derived.Test.YtlebjdkabepmkaaFS3
import Derived.Test.YtlebjdkabepmkaaFS9
namespace Go.AX
open Go.Proofs
set_option autoImplicit false
set_option linter.unusedVariables false
set_option maxRecDepth 100000
set_option maxHeartbeats 4000000
set_option linter.unusedSimpArgs false

theorem s32 {v1 : Int} {v2 : Int} {v3 : Int} {v4 : Int} {v5 : Int} {l6 : List TZone} {c7 : List D} {n8 : Nat} {v10 : Int} (hl9 : IsL eZone c7 n8 l6) {l11 : List TZone} {c12 : List D} {n13 : Nat} {v15 : Int} (hl14 : IsL eZone c12 n13 l11) (h : m_zone_Close (TGeom.mk v1 v2 v3 v4 v5) l6 v10 = some (l11, v15)) : Spec Try.prog 32 [.agg [.d (.int .i64 v1), .d (.int .i64 v2), .d (.int .i64 v3), .d (.int .i64 v4), .d (.int .i64 v5)], .d (.lst c7 n8), .d (.int .i64 v10)] ⟨.tup [.own 0 n13 2, .d (.int .i64 v15)], [(0, .row c12 2 36)], 1, True⟩ := by
  refine spec_b [] Try.func32 rfl rfl rfl fun J P hJ hP => ?_
  dsimp only [m_zone_Close] at h
  cbv
  obtain ⟨l19, h18, h⟩ := bnd h
  obtain ⟨c20, n21, hl22⟩ := nameL eZone l19
  refine call_by hP (s24 hl9 hl22 h18) hJ rfl rfl ?_
  cbv
  obtain ⟨v25, h24, h⟩ := bnd h
  refine call_by hP (s27 h24) hJ rfl rfl ?_
  cbv
  revert h
  refine st_cmp hJ fun b26 eb26 h => ?_
  cbv
  cases b26 with
  | true =>
    replace h := cnd_t h
    cbv
    cases h
    obtain ⟨rfl, rfl⟩ := IsL.uniq hl14 hl22
    exact ⟨_, .refl _, [], _, _, [(5, 0)], _, rfl, rfl, rfl, rfl, rfl, rfl⟩
  | false =>
    replace h := cnd_f h
    cbv
    revert h
    refine st_idx_pr hJ hl22 fun y27 k28 hy29 ho30 h => ?_
    obtain ⟨v31, v32⟩ := y27
    try dsimp only at h
    cbv
    refine st_ld hJ eZone_len hl22 hy29 ho30 0 (fun hJ => by subst hJ; rfl) ([.int .i64 v31]) (Nat.le_of_ble_eq_true rfl) rfl (.int .nil) rfl ?_
    cbv
    revert h
    refine st_cmp hJ fun b33 eb33 h => ?_
    cbv
    cases b33 with
    | true =>
      replace h := cnd_t h
      cbv
      cases h
      obtain ⟨rfl, rfl⟩ := IsL.uniq hl14 hl22
      exact ⟨_, .refl _, [], _, _, [(5, 0)], _, rfl, rfl, rfl, rfl, rfl, rfl⟩
    | false =>
      replace h := cnd_f h
      cbv
      revert h
      refine st_idx_pr hJ hl22 fun y34 k35 hy36 ho37 h => ?_
      obtain ⟨v38, v39⟩ := y34
      try dsimp only at h
      cbv
      obtain ⟨l42, h41, h⟩ := bnd h
      obtain ⟨c43, n44, hl45⟩ := nameL eZone l42
      obtain ⟨_, h46, h⟩ := bnd h
      obtain rfl := lenq_n h46 hl45 hl22
      refine callM_by hP (s35 hl22 hy36 ho37 hl45 h41) [(5, 0)] false hJ rfl rfl rfl rfl rfl (.inl rfl) ?_
      cbv
      cases h
      obtain ⟨rfl, rfl⟩ := IsL.uniq hl14 hl45
      exact ⟨_, .refl _, [], _, _, [(5, 0)], _, rfl, rfl, rfl, rfl, rfl, rfl⟩
end Go.AX
