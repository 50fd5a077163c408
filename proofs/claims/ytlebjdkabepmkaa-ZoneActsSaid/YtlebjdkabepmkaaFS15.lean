/- What functions of the program compute: each is what its Lean function says. -/
import Derived.Test.YtlebjdkabepmkaaFS13
import Derived.Test.YtlebjdkabepmkaaFS2
import Derived.Test.YtlebjdkabepmkaaFS3
import Derived.Test.YtlebjdkabepmkaaFS4
import Derived.Test.YtlebjdkabepmkaaFS5
import Derived.Test.YtlebjdkabepmkaaFS6
import Derived.Test.YtlebjdkabepmkaaFS8
import Derived.Test.YtlebjdkabepmkaaFS9
namespace Go.AX
open Go.Proofs
set_option autoImplicit false
set_option linter.unusedVariables false
set_option maxRecDepth 100000
set_option maxHeartbeats 4000000
set_option linter.unusedSimpArgs false

theorem s4 {v1 : Int} {v2 : Int} {v3 : Int} {v4 : Int} {v5 : Int} {l6 : List TZone} {c7 : List D} {n8 : Nat} {v10 : Int} {v11 : Int} {v12 : Int} (hl9 : IsL eZone c7 n8 l6) {b13 : Bool}  (h : m_law04_ZoneActs (TGeom.mk v1 v2 v3 v4 v5) l6 v10 (TAt.mk v11 v12) = some b13) : Spec Try.prog 4 [.agg [.d (.int .i64 v1), .d (.int .i64 v2), .d (.int .i64 v3), .d (.int .i64 v4), .d (.int .i64 v5)], .d (.lst c7 n8), .d (.int .u8 v10), .agg [.d (.int .i64 v11), .d (.int .i64 v12)]] ⟨.d (.bool b13), [], 0, True⟩ := by
  refine spec_b [6, 4, 10] Try.func4 rfl rfl rfl fun J P hJ hP => ?_
  dsimp only [m_law04_ZoneActs] at h
  cbv
  obtain ⟨j16, hj17, h⟩ := jn h
  refine JoinP.mk ({x : Unit // j16 () = some b13}) (fun x => ⟨[(1, .d (.lst c7 n8)), (2, .d (.int .u8 v10)), (4, .ptr 0 0), (7, .ptr 1 0)], [(0, .box [.d (.int .i64 v1), .d (.int .i64 v2), .d (.int .i64 v3), .d (.int .i64 v4), .d (.int .i64 v5)]), (1, .box [.d (.int .i64 v11), .d (.int .i64 v12)])], 2, 68⟩) (fun _ => True) [1, 2, 4, 7] ?_ ?_
  · cbv
    obtain ⟨j19, hj20, h⟩ := jn h
    refine JoinP.mk ({x : Bool // j19 (x) = some b13}) (fun x => ⟨[(1, .d (.lst c7 n8)), (2, .d (.int .u8 v10)), (4, .ptr 0 0), (7, .ptr 1 0), (20, .d (.bool x.1))], [(0, .box [.d (.int .i64 v1), .d (.int .i64 v2), .d (.int .i64 v3), .d (.int .i64 v4), .d (.int .i64 v5)]), (1, .box [.d (.int .i64 v11), .d (.int .i64 v12)])], 2, 68⟩) (fun _ => True) [1, 2, 4, 7, 20] ?_ ?_
    · cbv
      obtain ⟨b23, h22, h⟩ := bnd h
      refine call_by hP (s8 h22) hJ rfl rfl ?_
      cbv
      revert h
      refine st_not hJ fun b24 eb24 h => ?_
      cbv
      cases b24 with
      | true =>
        replace h := cnd_t h
        cbv
        exact ⟨⟨(true), h⟩, [(0, 0), (2, 1)], 2, [], rfl, trivial⟩
      | false =>
        replace h := cnd_f h
        cbv
        obtain ⟨b27, h26, h⟩ := bnd h
        refine call_by hP (s9 h26) hJ rfl rfl ?_
        cbv
        revert h
        refine st_not hJ fun b28 eb28 h => ?_
        cbv
        exact ⟨⟨(b28), h⟩, [(0, 0), (2, 1)], 2, [], rfl, trivial⟩
    · rintro ⟨b21, h⟩ -
      rw [hj20] at h
      try dsimp only at h ⊢
      cbv
      cases b21 with
      | true =>
        replace h := cnd_t h
        cbv
        obtain ⟨b24, h23, h⟩ := bnd h
        refine call_by hP (s8 h23) hJ rfl rfl ?_
        cbv
        cases h
        exact ⟨_, .refl _, [], _, _, [], _, rfl, rfl, rfl, rfl, rfl, rfl⟩
      | false =>
        replace h := cnd_f h
        cbv
        exact ⟨⟨(), h⟩, [(0, 0), (1, 1)], 2, [], rfl, trivial⟩
  · rintro ⟨_, h⟩ -
    rw [hj17] at h
    try dsimp only at h ⊢
    cbv
    obtain ⟨j19, hj20, h⟩ := jn h
    refine JoinP.mk ({x : Unit // j19 () = some b13}) (fun x => ⟨[(1, .d (.lst c7 n8)), (2, .d (.int .u8 v10)), (4, .ptr 0 0), (7, .ptr 1 0)], [(0, .box [.d (.int .i64 v1), .d (.int .i64 v2), .d (.int .i64 v3), .d (.int .i64 v4), .d (.int .i64 v5)]), (1, .box [.d (.int .i64 v11), .d (.int .i64 v12)])], 2, 68⟩) (fun _ => True) [1, 2, 4, 7] ?_ ?_
    · cbv
      obtain ⟨b23, h22, h⟩ := bnd h
      refine call_by hP (s15 hl9 h22) hJ rfl rfl ?_
      cbv
      obtain ⟨b26, h25, h⟩ := bnd h
      refine call_by hP (s16 hl9 h25) hJ rfl rfl ?_
      cbv
      revert h
      refine st_neb hJ fun b27 eb27 h => ?_
      cbv
      cases b27 with
      | true =>
        replace h := cnd_t h
        cbv
        refine ⟨fun _ => by kernel_rfl, ?_⟩
        cbv
        cases h
        exact ⟨_, .refl _, [], _, _, [], _, rfl, rfl, rfl, rfl, rfl, rfl⟩
      | false =>
        replace h := cnd_f h
        cbv
        obtain ⟨l30, h29, h⟩ := bnd h
        obtain ⟨c31, n32, hl33⟩ := nameL eZone l30
        refine call_by hP (s10 hl33 h29) hJ rfl rfl ?_
        cbv
        obtain ⟨l36, h35, h⟩ := bnd h
        obtain ⟨c37, n38, hl39⟩ := nameL eZone l36
        refine call_by hP (s17 hl39 h35) hJ rfl rfl ?_
        cbv
        obtain ⟨b42, h41, h⟩ := bnd h
        refine snap_by hP (s14 hl33 hl39 h41) hJ (by cbv) rfl ⟨trivial, trivial⟩ ?_
        cbv
        revert h
        refine st_not hJ fun b43 eb43 h => ?_
        cbv
        refine ⟨fun _ => by kernel_rfl, ?_⟩
        cbv
        cases b43 with
        | true =>
          replace h := cnd_t h
          cbv
          cases h
          exact ⟨_, .refl _, [], _, _, [], _, rfl, rfl, rfl, rfl, rfl, rfl⟩
        | false =>
          replace h := cnd_f h
          cbv
          exact ⟨⟨(), h⟩, [(0, 0), (1, 1)], 2, [], rfl, trivial⟩
    · rintro ⟨_, h⟩ -
      rw [hj20] at h
      try dsimp only at h ⊢
      cbv
      obtain ⟨b23, h22, h⟩ := bnd h
      refine call_by hP (s16 hl9 h22) hJ rfl rfl ?_
      cbv
      revert h
      refine st_not hJ fun b24 eb24 h => ?_
      cbv
      cases b24 with
      | true =>
        replace h := cnd_t h
        cbv
        cases h
        exact ⟨_, .refl _, [], _, _, [], _, rfl, rfl, rfl, rfl, rfl, rfl⟩
      | false =>
        replace h := cnd_f h
        cbv
        revert h
        refine st_div hJ fun v25 zv25 ev25 h => ?_
        cbv
        revert h
        refine st_conv hJ fun v26 ev26 h => ?_
        cbv
        obtain ⟨⟨l29, v33⟩, h28, h⟩ := bnd h
        obtain ⟨c30, n31, hl32⟩ := nameL eZone l29
        try dsimp only at h
        refine call_by hP (s18 hl9 hl32 h28) hJ rfl rfl ?_
        cbv
        obtain ⟨⟨l36, v40⟩, h35, h⟩ := bnd h
        obtain ⟨c37, n38, hl39⟩ := nameL eZone l36
        try dsimp only at h
        refine call_by hP (s19 hl9 hl39 h35) hJ rfl rfl ?_
        cbv
        obtain ⟨b43, h42, h⟩ := bnd h
        refine call_by hP (s14 hl32 hl39 h42) hJ rfl rfl ?_
        cbv
        cases b43 with
        | true =>
          replace h := cnd_t h
          cbv
          revert h
          refine st_cmp hJ fun b44 eb44 h => ?_
          cbv
          cases h
          exact ⟨_, .refl _, [], _, _, [], _, rfl, rfl, rfl, rfl, rfl, rfl⟩
        | false =>
          replace h := cnd_f h
          cbv
          cases h
          exact ⟨_, .refl _, [], _, _, [], _, rfl, rfl, rfl, rfl, rfl, rfl⟩
end Go.AX
