/- What functions of the program compute: each is what its Lean function says. -/
import Derived.Test.YthecmjmlkoomiaaLS6
namespace Go.AX
open Go.Proofs
set_option autoImplicit false
set_option linter.unusedVariables false
set_option maxRecDepth 100000
set_option maxHeartbeats 100000000
set_option linter.unusedSimpArgs false

theorem s43 {v1 : Int} {v2 : Int} {v3 : Int} {v4 : Int} {v5 : Int}  {b6 : Bool}  (h : m_ref03_Right (TGeom.mk v1 v2 v3 v4 v5) = some b6) : Spec Try.prog 43 [.agg [.d (.int .i64 v1), .d (.int .i64 v2), .d (.int .i64 v3), .d (.int .i64 v4), .d (.int .i64 v5)]] ⟨.d (.bool b6), [], 0, True⟩ := by
  refine spec_b [6, 10] Try.func43 rfl rfl rfl fun J P hJ hP => ?_
  dsimp only [m_ref03_Right] at h
  cbv
  obtain ⟨j9, hj10, h⟩ := jn h
  refine JoinP.mk ({x : Unit // j9 () = some b6}) (fun x => ⟨[(1, .ptr 0 0)], [(0, .box [.d (.int .i64 v1), .d (.int .i64 v2), .d (.int .i64 v3), .d (.int .i64 v4), .d (.int .i64 v5)])], 1, 53⟩) (fun _ => True) [1] ?_ ?_
  · cbv
    revert h
    refine st_cmp hJ fun b11 eb11 h => ?_
    cbv
    cases b11 with
    | true =>
      replace h := cnd_t h
      cbv
      cases h
      exact ⟨_, .refl _, [], _, _, [], _, rfl, rfl, rfl, rfl, rfl, rfl⟩
    | false =>
      replace h := cnd_f h
      cbv
      revert h
      refine st_cmp hJ fun b12 eb12 h => ?_
      cbv
      cases b12 with
      | true =>
        replace h := cnd_t h
        cbv
        cases h
        exact ⟨_, .refl _, [], _, _, [], _, rfl, rfl, rfl, rfl, rfl, rfl⟩
      | false =>
        replace h := cnd_f h
        cbv
        revert h
        refine st_cmp hJ fun b13 eb13 h => ?_
        cbv
        cases b13 with
        | true =>
          replace h := cnd_t h
          cbv
          cases h
          exact ⟨_, .refl _, [], _, _, [], _, rfl, rfl, rfl, rfl, rfl, rfl⟩
        | false =>
          replace h := cnd_f h
          cbv
          revert h
          refine st_cmp hJ fun b14 eb14 h => ?_
          cbv
          cases b14 with
          | true =>
            replace h := cnd_t h
            cbv
            cases h
            exact ⟨_, .refl _, [], _, _, [], _, rfl, rfl, rfl, rfl, rfl, rfl⟩
          | false =>
            replace h := cnd_f h
            cbv
            revert h
            refine st_bin hJ fun v15 ev15 h => ?_
            cbv
            revert h
            refine st_cmp hJ fun b16 eb16 h => ?_
            cbv
            cases b16 with
            | true =>
              replace h := cnd_t h
              cbv
              cases h
              exact ⟨_, .refl _, [], _, _, [], _, rfl, rfl, rfl, rfl, rfl, rfl⟩
            | false =>
              replace h := cnd_f h
              cbv
              exact ⟨⟨(), h⟩, [(0, 0)], 1, [], rfl, trivial⟩
  · rintro ⟨_, h⟩ -
    rw [hj10] at h
    try dsimp only at h ⊢
    cbv
    obtain ⟨j12, hj13, h⟩ := jn h
    refine JoinP.mk ({x : Unit // j12 () = some b6}) (fun x => ⟨[(1, .ptr 0 0)], [(0, .box [.d (.int .i64 v1), .d (.int .i64 v2), .d (.int .i64 v3), .d (.int .i64 v4), .d (.int .i64 v5)])], 1, 53⟩) (fun _ => True) [1] ?_ ?_
    · cbv
      revert h
      refine st_cmp hJ fun b14 eb14 h => ?_
      cbv
      cases b14 with
      | true =>
        replace h := cnd_t h
        cbv
        cases h
        exact ⟨_, .refl _, [], _, _, [], _, rfl, rfl, rfl, rfl, rfl, rfl⟩
      | false =>
        replace h := cnd_f h
        cbv
        revert h
        refine st_cmp hJ fun b15 eb15 h => ?_
        cbv
        cases b15 with
        | true =>
          replace h := cnd_t h
          cbv
          cases h
          exact ⟨_, .refl _, [], _, _, [], _, rfl, rfl, rfl, rfl, rfl, rfl⟩
        | false =>
          replace h := cnd_f h
          cbv
          revert h
          refine st_cmp hJ fun b16 eb16 h => ?_
          cbv
          cases b16 with
          | true =>
            replace h := cnd_t h
            cbv
            cases h
            exact ⟨_, .refl _, [], _, _, [], _, rfl, rfl, rfl, rfl, rfl, rfl⟩
          | false =>
            replace h := cnd_f h
            cbv
            revert h
            refine st_cmp hJ fun b17 eb17 h => ?_
            cbv
            cases b17 with
            | true =>
              replace h := cnd_t h
              cbv
              cases h
              exact ⟨_, .refl _, [], _, _, [], _, rfl, rfl, rfl, rfl, rfl, rfl⟩
            | false =>
              replace h := cnd_f h
              cbv
              exact ⟨⟨(), h⟩, [(0, 0)], 1, [], rfl, trivial⟩
    · rintro ⟨_, h⟩ -
      rw [hj13] at h
      try dsimp only at h ⊢
      cbv
      obtain ⟨v16, h15, h⟩ := bnd h
      refine call_by hP (s76 h15) hJ rfl rfl ?_
      cbv
      revert h
      refine st_bin hJ fun v17 ev17 h => ?_
      cbv
      revert h
      refine st_cmp hJ fun b18 eb18 h => ?_
      cbv
      refine ⟨fun _ => by kernel_rfl, ?_⟩
      cbv
      cases h
      exact ⟨_, .refl _, [], _, _, [], _, rfl, rfl, rfl, rfl, rfl, rfl⟩
end Go.AX
