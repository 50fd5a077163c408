/- What functions of the program compute: each is what its Lean function says. -/
import Derived.Test.YtlebjdkabepmkaaFS10
import Derived.Test.YtlebjdkabepmkaaFS11
import Derived.Test.YtlebjdkabepmkaaFS12
import Derived.Test.YtlebjdkabepmkaaFS7
namespace Go.AX
open Go.Proofs
set_option autoImplicit false
set_option linter.unusedVariables false
set_option maxRecDepth 100000
set_option maxHeartbeats 4000000
set_option linter.unusedSimpArgs false

theorem s18_1 {v1 : Int} {v2 : Int} {v3 : Int} {v4 : Int} {v5 : Int} {l6 : List TZone} {c7 : List D} {n8 : Nat} {v10 : Int} {v11 : Int} {v12 : Int} (hl9 : IsL eZone c7 n8 l6) {l13 : List TZone} {c14 : List D} {n15 : Nat} {v17 : Int} (hl16 : IsL eZone c14 n15 l13) (h : m_law04_act_ (TGeom.mk v1 v2 v3 v4 v5) l6 v10 (TAt.mk v11 v12) = some (l13, v17)) : Spec Try.prog 18 [.agg [.d (.int .i64 v1), .d (.int .i64 v2), .d (.int .i64 v3), .d (.int .i64 v4), .d (.int .i64 v5)], .d (.lst c7 n8), .d (.int .i64 v10), .agg [.d (.int .i64 v11), .d (.int .i64 v12)]] ⟨.tup [.own 0 n15 2, .d (.int .i64 v17)], [(0, .row c14 2 36)], 1, True⟩ := by
  refine spec_b [] Try.func18 rfl rfl rfl fun J P hJ hP => ?_
  dsimp only [m_law04_act_] at h
  cbv
  revert h
  refine st_cmp hJ fun b19 eb19 h => ?_
  cbv
  cases b19 with
  | true =>
    replace h := cnd_t h
    cbv
    obtain ⟨⟨l22, v26⟩, h21, h⟩ := bnd h
    obtain ⟨c23, n24, hl25⟩ := nameL eZone l22
    try dsimp only at h
    refine call_by hP (s11 hl9 hl25 h21) hJ rfl rfl ?_
    cbv
    cases h
    obtain ⟨rfl, rfl⟩ := IsL.uniq hl16 hl25
    exact ⟨_, .refl _, [], _, _, [(12, 0)], _, rfl, rfl, rfl, rfl, rfl, rfl⟩
  | false =>
    replace h := cnd_f h
    cbv
    revert h
    refine st_cmp hJ fun b20 eb20 h => ?_
    cbv
    cases b20 with
    | true =>
      replace h := cnd_t h
      cbv
      obtain ⟨v23, h22, h⟩ := bnd h
      refine call_by hP (s12 hl9 h22) hJ rfl rfl ?_
      cbv
      cases h
    | false =>
      replace h := cnd_f h
      cbv
      revert h
      refine st_cmp hJ fun b21 eb21 h => ?_
      cbv
      cases b21 with
      | true =>
        replace h := cnd_t h
        cbv
        obtain ⟨⟨l24, v28⟩, h23, h⟩ := bnd h
        obtain ⟨c25, n26, hl27⟩ := nameL eZone l24
        try dsimp only at h
        refine call_by hP (s13 hl9 hl27 h23) hJ rfl rfl ?_
        cbv
        cases h
        obtain ⟨rfl, rfl⟩ := IsL.uniq hl16 hl27
        exact ⟨_, .refl _, [], _, _, [(17, 0)], _, rfl, rfl, rfl, rfl, rfl, rfl⟩
      | false =>
        replace h := cnd_f h
        cbv
        revert h
        refine st_cmp hJ fun b22 eb22 h => ?_
        cbv
        cases b22 with
        | true =>
          replace h := cnd_t h
          cbv
          obtain ⟨⟨l25, v29⟩, h24, h⟩ := bnd h
          obtain ⟨c26, n27, hl28⟩ := nameL eZone l25
          try dsimp only at h
          refine call_by hP (s30 hl9 hl28 h24) hJ rfl rfl ?_
          cbv
          cases h
          obtain ⟨rfl, rfl⟩ := IsL.uniq hl16 hl28
          exact ⟨_, .refl _, [], _, _, [(19, 0)], _, rfl, rfl, rfl, rfl, rfl, rfl⟩
        | false =>
          replace h := cnd_f h
          cbv
          revert h
          refine st_cmp hJ fun b23 eb23 h => ?_
          cbv
          cases b23 with
          | true =>
            replace h := cnd_t h
            cbv
            obtain ⟨⟨l26, v30⟩, h25, h⟩ := bnd h
            obtain ⟨c27, n28, hl29⟩ := nameL eZone l26
            try dsimp only at h
            refine call_by hP (s31 hl9 hl29 h25) hJ rfl rfl ?_
            cbv
            cases h
            obtain ⟨rfl, rfl⟩ := IsL.uniq hl16 hl29
            exact ⟨_, .refl _, [], _, _, [(21, 0)], _, rfl, rfl, rfl, rfl, rfl, rfl⟩
          | false =>
            replace h := cnd_f h
            cbv
            revert h
            refine st_cmp hJ fun b24 eb24 h => ?_
            cbv
            cases b24 with
            | true =>
              replace h := cnd_t h
              cbv
              obtain ⟨⟨l27, v31⟩, h26, h⟩ := bnd h
              obtain ⟨c28, n29, hl30⟩ := nameL eZone l27
              try dsimp only at h
              refine call_by hP (s32 hl9 hl30 h26) hJ rfl rfl ?_
              cbv
              cases h
              obtain ⟨rfl, rfl⟩ := IsL.uniq hl16 hl30
              exact ⟨_, .refl _, [], _, _, [(23, 0)], _, rfl, rfl, rfl, rfl, rfl, rfl⟩
            | false =>
              replace h := cnd_f h
              cbv
              obtain ⟨l27, h26, h⟩ := bnd h
              obtain ⟨c28, n29, hl30⟩ := nameL eZone l27
              refine call_by hP (s20 hl9 hl30 h26) hJ rfl rfl ?_
              cbv
              cases h
              obtain ⟨rfl, rfl⟩ := IsL.uniq hl16 hl30
              exact ⟨_, .refl _, [], _, _, [(20, 0)], _, rfl, rfl, rfl, rfl, rfl, rfl⟩
end Go.AX
