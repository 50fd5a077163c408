/- What functions of the program compute: each is what its Lean function says. -/
import Derived.Test.YtgphlcbjgcogkaaXM
namespace Go.AX
open Go.Proofs
set_option linter.unusedVariables false
set_option maxRecDepth 100000
set_option maxHeartbeats 100000000
set_option linter.unusedSimpArgs false
set_option autoImplicit true
set_option relaxedAutoImplicit true
variable {Ze : ZeT} {Zn : ZnT} {Za : ZaT} {Zb : ZbT} {Zm : ZmT}

theorem s50 (hZ : ZS Ze Zn Za Zb Zm)  (h : m_rec_Right x0 = some z0) : Spec Try.prog 50 [.agg [.d (.int .i64 x0.Kind), .d (.int .i64 x0.Epoch), .d (.int .i64 x0.Seq), .d (.int .i64 x0.Block), .d (.int .i64 x0.Count), .big 32 (Za .u8 _ x0.Data)]] ⟨.d (.bool z0), [], 0, True⟩ := by
  refine spec_b [6] Try.func50 rfl rfl rfl fun J P hJ hP => ?_
  dsimp only [m_rec_Right] at h
  cbv
  obtain ⟨z32u8, ez32u8, h⟩ := letv h; have rz32u8 := zrep hJ hZ 32 .u8 ez32u8
  obtain ⟨j2, hj3, h⟩ := jn h
  refine JoinP.mk {x : Unit // j2 x = some z0} (fun x => ⟨[(1, .ptr 0 0)], [(0, .box [.d (.int .i64 x0.Kind), .d (.int .i64 x0.Epoch), .d (.int .i64 x0.Seq), .d (.int .i64 x0.Block), .d (.int .i64 x0.Count), .big 32 (Za .u8 _ x0.Data)])], 1, 84⟩) (fun _ => True) [1] ?_ ?_
  · cbv
    revert h; refine zc hJ fun b4 h => ?_; cbv
    cases b4 with
    | true =>
      replace h := cnd_t h; cbv
      cases h
      exact ⟨_, .refl _, [], _, _, [], _, rfl, rfl, rfl, rfl, rfl, rfl⟩
    | false =>
      replace h := cnd_f h; cbv
      revert h; refine zc hJ fun b5 h => ?_; cbv
      cases b5 with
      | true =>
        replace h := cnd_t h; cbv
        cases h
        exact ⟨_, .refl _, [], _, _, [], _, rfl, rfl, rfl, rfl, rfl, rfl⟩
      | false =>
        replace h := cnd_f h; cbv
        revert h; refine zc hJ fun b6 h => ?_; cbv
        cases b6 with
        | true =>
          replace h := cnd_t h; cbv
          cases h
          exact ⟨_, .refl _, [], _, _, [], _, rfl, rfl, rfl, rfl, rfl, rfl⟩
        | false =>
          replace h := cnd_f h; cbv
          revert h; refine zc hJ fun b7 h => ?_; cbv
          cases b7 with
          | true =>
            replace h := cnd_t h; cbv
            cases h
            exact ⟨_, .refl _, [], _, _, [], _, rfl, rfl, rfl, rfl, rfl, rfl⟩
          | false =>
            replace h := cnd_f h; cbv
            exact ⟨⟨_, h⟩, [(0, 0)], 1, [], rfl, trivial⟩
  · rintro ⟨_, h⟩ -; rw [hj3] at h; try dsimp only at h ⊢
    cbv
    try rw [rz32u8]
    revert h; refine st_eqL hJ (neg := false) (e := ((x0.Data.l == z32u8.l) && true)) (show eqLs [.big 32 .u8] [.big 32 (Za .u8 _ x0.Data)] [.big 32 (Za .u8 _ z32u8)] _ from ⟨rfl, rfl, _, _, _, ((isA hZ .u8 x0.Data)).trans (encI_map _ _), ((isA hZ .u8 z32u8)).trans (encI_map _ _), Ar.h _, Ar.h _, rfl, rfl⟩) rfl fun b4 _ h => ?_; cbv
    revert h; refine zc hJ fun b5 h => ?_; cbv
    cases b5 with
    | true =>
      replace h := cnd_t h; cbv
      revert h; refine zc hJ fun b6 h => ?_; cbv
      cases b6 with
      | true =>
        replace h := cnd_t h; cbv
        revert h; refine zc hJ fun b7 h => ?_; cbv
        cases b7 with
        | true =>
          replace h := cnd_t h; cbv
          revert h; refine zc hJ fun b8 h => ?_; cbv
          cases h
          exact ⟨_, .refl _, [], _, _, [], _, rfl, rfl, rfl, rfl, rfl, rfl⟩
        | false =>
          replace h := cnd_f h; cbv
          cases h
          exact ⟨_, .refl _, [], _, _, [], _, rfl, rfl, rfl, rfl, rfl, rfl⟩
      | false =>
        replace h := cnd_f h; cbv
        cases h
        exact ⟨_, .refl _, [], _, _, [], _, rfl, rfl, rfl, rfl, rfl, rfl⟩
    | false =>
      replace h := cnd_f h; cbv
      revert h; refine zc hJ fun b6 h => ?_; cbv
      cases b6 with
      | true =>
        replace h := cnd_t h; cbv
        revert h; refine zc hJ fun b7 h => ?_; cbv
        cases b7 with
        | true =>
          replace h := cnd_t h; cbv
          revert h; refine zc hJ fun b8 h => ?_; cbv
          cases b8 with
          | true =>
            replace h := cnd_t h; cbv
            revert h; refine zc hJ fun b9 h => ?_; cbv
            cases b9 with
            | true =>
              replace h := cnd_t h; cbv
              cases h
              exact ⟨_, .refl _, [], _, _, [], _, rfl, rfl, rfl, rfl, rfl, rfl⟩
            | false =>
              replace h := cnd_f h; cbv
              cases h
              exact ⟨_, .refl _, [], _, _, [], _, rfl, rfl, rfl, rfl, rfl, rfl⟩
          | false =>
            replace h := cnd_f h; cbv
            cases h
            exact ⟨_, .refl _, [], _, _, [], _, rfl, rfl, rfl, rfl, rfl, rfl⟩
        | false =>
          replace h := cnd_f h; cbv
          cases h
          exact ⟨_, .refl _, [], _, _, [], _, rfl, rfl, rfl, rfl, rfl, rfl⟩
      | false =>
        replace h := cnd_f h; cbv
        revert h; refine zc hJ fun b7 h => ?_; cbv
        cases b7 with
        | true =>
          replace h := cnd_t h; cbv
          revert h; refine zc hJ fun b8 h => ?_; cbv
          cases b8 with
          | true =>
            replace h := cnd_t h; cbv
            revert h; refine zc hJ fun b9 h => ?_; cbv
            cases b9 with
            | true =>
              replace h := cnd_t h; cbv
              revert h; refine zc hJ fun b10 h => ?_; cbv
              cases b10 with
              | true =>
                replace h := cnd_t h; cbv
                cases h
                exact ⟨_, .refl _, [], _, _, [], _, rfl, rfl, rfl, rfl, rfl, rfl⟩
              | false =>
                replace h := cnd_f h; cbv
                cases h
                exact ⟨_, .refl _, [], _, _, [], _, rfl, rfl, rfl, rfl, rfl, rfl⟩
            | false =>
              replace h := cnd_f h; cbv
              cases h
              exact ⟨_, .refl _, [], _, _, [], _, rfl, rfl, rfl, rfl, rfl, rfl⟩
          | false =>
            replace h := cnd_f h; cbv
            revert h; refine zc hJ fun b9 h => ?_; cbv
            cases b9 with
            | true =>
              replace h := cnd_t h; cbv
              revert h; refine zc hJ fun b10 h => ?_; cbv
              cases b10 with
              | true =>
                replace h := cnd_t h; cbv
                revert h; refine zc hJ fun b11 h => ?_; cbv
                cases b11 with
                | true =>
                  replace h := cnd_t h; cbv
                  cases h
                  exact ⟨_, .refl _, [], _, _, [], _, rfl, rfl, rfl, rfl, rfl, rfl⟩
                | false =>
                  replace h := cnd_f h; cbv
                  cases h
                  exact ⟨_, .refl _, [], _, _, [], _, rfl, rfl, rfl, rfl, rfl, rfl⟩
              | false =>
                replace h := cnd_f h; cbv
                cases h
                exact ⟨_, .refl _, [], _, _, [], _, rfl, rfl, rfl, rfl, rfl, rfl⟩
            | false =>
              replace h := cnd_f h; cbv
              cases h
              exact ⟨_, .refl _, [], _, _, [], _, rfl, rfl, rfl, rfl, rfl, rfl⟩
        | false =>
          replace h := cnd_f h; cbv
          cases h
          exact ⟨_, .refl _, [], _, _, [], _, rfl, rfl, rfl, rfl, rfl, rfl⟩
theorem s55 (hZ : ZS Ze Zn Za Zb Zm)  (h : m_cmp_isNaN x0 = some z0) : Spec Try.prog 55 [.d (.int .i64 x0)] ⟨.d (.bool z0), [], 0, True⟩ := by
  refine spec_b [] Try.func55 rfl rfl rfl fun J P hJ hP => ?_
  dsimp only [m_cmp_isNaN] at h
  cbv
  revert h; refine zc hJ fun b2 h => ?_; cbv
  cases h
  exact ⟨_, .refl _, [], _, _, [], _, rfl, rfl, rfl, rfl, rfl, rfl⟩
end Go.AX
