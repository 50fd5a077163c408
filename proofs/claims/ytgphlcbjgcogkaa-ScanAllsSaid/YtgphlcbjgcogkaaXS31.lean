/- What functions of the program compute: each is what its Lean function says. -/
import Derived.Test.YtgphlcbjgcogkaaXS21
import Derived.Test.YtgphlcbjgcogkaaXS26
import Derived.Test.YtgphlcbjgcogkaaXS27
import Derived.Test.YtgphlcbjgcogkaaXS28
import Derived.Test.YtgphlcbjgcogkaaXS29
import Derived.Test.YtgphlcbjgcogkaaXS6
import Derived.Test.YtgphlcbjgcogkaaXS9
namespace Go.AX
open Go.Proofs
set_option linter.unusedVariables false
set_option maxRecDepth 100000
set_option maxHeartbeats 100000000
set_option linter.unusedSimpArgs false
set_option autoImplicit true
set_option relaxedAutoImplicit true
variable {Ze : ZeT} {Zn : ZnT} {Za : ZaT} {Zb : ZbT} {Zm : ZmT}

theorem s5 (hZ : ZS Ze Zn Za Zb Zm)  (h : m_law14_ScanAlls x0 x1 x2 x3 = some z0) : Spec Try.prog 5 [.agg [.d (.int .i64 x0.Conv), .d (.int .i64 x0.Soft), .d (.int .i64 x0.Seq), .d (.int .i64 x0.Size), .d (.int .i64 x0.Open)], .d (.lst (Ze _ eRef14_Step x1) (Zn _ x1)), .d (.int .i64 x2), .d (.int .i64 x3)] ⟨.d (.bool z0), [], 0, True⟩ := by
  refine spec_b [6, 4, 14] Try.func5 rfl rfl rfl fun J P hJ hP => ?_
  dsimp only [m_law14_ScanAlls] at h
  cbv
  obtain ⟨j2, hj3, h⟩ := jn h
  refine JoinP.mk {x : Unit // j2 x = some z0} (fun x => ⟨[(1, .d (.lst (Ze _ eRef14_Step x1) (Zn _ x1))), (2, .d (.int .i64 x2)), (3, .d (.int .i64 x3)), (4, .ptr 0 0)], [(0, .box [.d (.int .i64 x0.Conv), .d (.int .i64 x0.Soft), .d (.int .i64 x0.Seq), .d (.int .i64 x0.Size), .d (.int .i64 x0.Open)])], 1, 76⟩) (fun _ => True) [1, 2, 3, 4] ?_ ?_
  · cbv
    obtain ⟨j4, hj5, h⟩ := jn h
    refine JoinP.mk {x : Bool // j4 x = some z0} (fun x => ⟨[(1, .d (.lst (Ze _ eRef14_Step x1) (Zn _ x1))), (2, .d (.int .i64 x2)), (3, .d (.int .i64 x3)), (4, .ptr 0 0), (26, .d (.bool x.1))], [(0, .box [.d (.int .i64 x0.Conv), .d (.int .i64 x0.Soft), .d (.int .i64 x0.Seq), .d (.int .i64 x0.Size), .d (.int .i64 x0.Open)])], 1, 76⟩) (fun _ => True) [1, 2, 3, 4, 26] ?_ ?_
    · cbv
      obtain ⟨b7, h6, h⟩ := bnd h
      refine call_by hP (s7 hZ h6) hJ rfl rfl ?_; cbv
      revert h; refine st_not hJ fun b8 _ h => ?_; cbv
      cases b8 with
      | true =>
        replace h := cnd_t h; cbv
        exact ⟨⟨_, h⟩, [(0, 0)], 1, [], rfl, trivial⟩
      | false =>
        replace h := cnd_f h; cbv
        obtain ⟨b10, h9, h⟩ := bnd h
        refine call_by hP (s12 hZ h9) hJ rfl rfl ?_; cbv
        revert h; refine st_not hJ fun b11 _ h => ?_; cbv
        cases b11 with
        | true =>
          replace h := cnd_t h; cbv
          exact ⟨⟨_, h⟩, [(0, 0)], 1, [], rfl, trivial⟩
        | false =>
          replace h := cnd_f h; cbv
          revert h; refine zln hJ hZ fun v12 h => ?_; cbv
          revert h; refine zc hJ fun b13 h => ?_; cbv
          exact ⟨⟨_, h⟩, [(0, 0)], 1, [], rfl, trivial⟩
    · rintro ⟨b6, h⟩ -; rw [hj5] at h; try dsimp only at h ⊢
      cbv
      cases b6 with
      | true =>
        replace h := cnd_t h; cbv
        obtain ⟨b8, h7, h⟩ := bnd h
        refine call_by hP (s7 hZ h7) hJ rfl rfl ?_; cbv
        cases h
        exact ⟨_, .refl _, [], _, _, [], _, rfl, rfl, rfl, rfl, rfl, rfl⟩
      | false =>
        replace h := cnd_f h; cbv
        exact ⟨⟨_, h⟩, [(0, 0)], 1, [], rfl, trivial⟩
  · rintro ⟨_, h⟩ -; rw [hj3] at h; try dsimp only at h ⊢
    cbv
    obtain ⟨o5, h4, h⟩ := bnd h
    refine callM_by hP (s13 hZ h4) [] false hJ rfl rfl rfl rfl rfl (.inl rfl) ?_; cbv
    obtain ⟨⟨l7, v8, o9⟩, h6, h⟩ := bnd h; try dsimp only at h
    refine callM_by hP (s14 hZ h6) [(3, 0), (4, 1), (5, 2), (6, 3), (7, 4), (8, 5)] false hJ rfl rfl rfl rfl rfl (.inl rfl) ?_; cbv
    obtain ⟨j10, hj11, h⟩ := jn h
    refine JoinP.mk {x : TDev_Device // j10 x = some z0} (fun x => ⟨[(2, .d (.int .i64 x2)), (3, .d (.int .i64 x3)), (4, .ptr 0 0), (9, .ptr 1 0)], [(0, .box [.d (.int .i64 x0.Conv), .d (.int .i64 x0.Soft), .d (.int .i64 x0.Seq), .d (.int .i64 x0.Size), .d (.int .i64 x0.Open)]), (1, .box [.d (.int .i64 x.1.g.Conv), .d (.int .i64 x.1.g.Soft), .d (.int .i64 x.1.g.Seq), .d (.int .i64 x.1.g.Size), .d (.int .i64 x.1.g.Open), .own 2 (Zn _ x.1.zones) 2, .map 3, .map 4, .map 5, .own 6 (Zn _ x.1.cached) 66, .d (.int .i64 x.1.left_), .d (.bool x.1.down), .d (.int .i64 x.1.illegal)]), (2, .row (Ze _ eZone x.1.zones) 2 66), (3, .mp false false (Zm _ _ (eI .i64) eB x.1.finished)), (4, .mp true true (Zm _ _ eAt (eA (n := 64) .u8) x.1.safe)), (5, .mp true true (Zm _ _ eAt (eA (n := 64) .u8) x.1.now)), (6, .row (Ze _ eDev_write x.1.cached) 66 88)], 7, 76⟩) (fun _ => True) [2, 3, 4, 9] ?_ ?_
    · cbv
      revert h; refine zc hJ fun b12 h => ?_; cbv
      cases b12 with
      | true =>
        replace h := cnd_t h; cbv
        cases h
        exact ⟨_, .refl _, [], _, _, [], _, rfl, rfl, rfl, rfl, rfl, rfl⟩
      | false =>
        replace h := cnd_f h; cbv
        obtain ⟨⟨l14, o15⟩, h13, h⟩ := bnd h; try dsimp only at h
        refine callM_by hP (s15 hZ h13) [(3, 0), (4, 1), (5, 2), (6, 3), (7, 4), (8, 5)] false hJ rfl rfl rfl rfl rfl (.inl rfl) ?_; cbv
        obtain ⟨b17, h16, h⟩ := bnd h
        refine snap_by hP (s9 hZ h16) hJ (by cbv) rfl ⟨trivial, trivial⟩ ?_; cbv
        revert h; refine st_not hJ fun b18 _ h => ?_; cbv
        cases b18 with
        | true =>
          replace h := cnd_t h; cbv
          cases h
          exact ⟨_, .refl _, [], _, _, [], _, rfl, rfl, rfl, rfl, rfl, rfl⟩
        | false =>
          replace h := cnd_f h; cbv
          exact ⟨⟨_, h⟩, [(0, 0), (3, 1), (4, 2), (5, 3), (6, 4), (7, 5), (8, 6)], 7, [], rfl, trivial⟩
    · rintro ⟨o12, h⟩ -; rw [hj11] at h; try dsimp only at h ⊢
      cbv
      obtain ⟨v14, h13, h⟩ := bnd h
      refine callM_by hP (s16 hZ h13) [(1, 0), (2, 1), (3, 2), (4, 3), (5, 4), (6, 5)] false hJ rfl rfl rfl rfl rfl (.inl rfl) ?_; cbv
      obtain ⟨o16, h15, h⟩ := bnd h
      refine callM_by hP (s17 hZ h15) [(1, 0), (2, 1), (3, 2), (4, 3), (5, 4), (6, 5)] false hJ rfl rfl rfl rfl rfl (.inl rfl) ?_; cbv
      obtain ⟨⟨l18, v19, o20⟩, h17, h⟩ := bnd h; try dsimp only at h
      refine callM_by hP (s14 hZ h17) [(1, 0), (2, 1), (3, 2), (4, 3), (5, 4), (6, 5)] false hJ rfl rfl rfl rfl rfl (.inl rfl) ?_; cbv
      revert h; refine zc hJ fun b21 h => ?_; cbv
      cases b21 with
      | true =>
        replace h := cnd_t h; cbv
        revert h; refine zln hJ hZ fun v22 h => ?_; cbv
        revert h; refine zc hJ fun b23 h => ?_; cbv
        cases b23 with
        | true =>
          replace h := cnd_t h; cbv
          obtain ⟨v25, h24, h⟩ := bnd h
          refine callM_by hP (s16 hZ h24) [(1, 0), (2, 1), (3, 2), (4, 3), (5, 4), (6, 5)] false hJ rfl rfl rfl rfl rfl (.inl rfl) ?_; cbv
          revert h; refine zc hJ fun b26 h => ?_; cbv
          cases h
          exact ⟨_, .refl _, [], _, _, [], _, rfl, rfl, rfl, rfl, rfl, rfl⟩
        | false =>
          replace h := cnd_f h; cbv
          cases h
          exact ⟨_, .refl _, [], _, _, [], _, rfl, rfl, rfl, rfl, rfl, rfl⟩
      | false =>
        replace h := cnd_f h; cbv
        cases h
        exact ⟨_, .refl _, [], _, _, [], _, rfl, rfl, rfl, rfl, rfl, rfl⟩
end Go.AX
