/- What functions of the program compute: each is what its Lean function says. -/
import Derived.Test.YtgphlcbjgcogkaaXS13
import Derived.Test.YtgphlcbjgcogkaaXS14
import Derived.Test.YtgphlcbjgcogkaaXS15
import Derived.Test.YtgphlcbjgcogkaaXS5
namespace Go.AX
open Go.Proofs
set_option linter.unusedVariables false
set_option maxRecDepth 100000
set_option maxHeartbeats 100000000
set_option linter.unusedSimpArgs false
set_option autoImplicit true
set_option relaxedAutoImplicit true
variable {Ze : ZeT} {Zn : ZnT} {Za : ZaT} {Zb : ZbT} {Zm : ZmT}

theorem s51 (hZ : ZS Ze Zn Za Zb Zm)  (h : m_rec_Lay x0 = some z0) : Spec Try.prog 51 [.agg [.d (.int .i64 x0.Kind), .d (.int .i64 x0.Epoch), .d (.int .i64 x0.Seq), .d (.int .i64 x0.Block), .d (.int .i64 x0.Count), .big 32 (Za .u8 _ x0.Data)]] ⟨.agg [.big 64 (Za .u8 _ z0)], [], 0, True⟩ := by
  refine spec_b [] Try.func51 rfl rfl rfl fun J P hJ hP => ?_
  dsimp only [m_rec_Lay] at h
  cbv
  obtain ⟨z64u8, ez64u8, h⟩ := letv h; have rz64u8 := zrep hJ hZ 64 .u8 ez64u8
  try rw [rz64u8]
  try rw [rz64u8]
  refine st_val hJ ?_; cbv
  revert h; refine zw hJ fun v2 h => ?_; cbv
  revert h; refine zpx hJ fun v3 k4 hy5 ho6 h => ?_; cbv
  obtain ⟨a7, ea8, h⟩ := letv h; rw [zset hJ hZ ho6 ea8]; refine zok (px_leA hJ ho6 hy5) ?_
  clear ea8; cbv
  revert h; refine zw hJ fun v9 h => ?_; cbv
  obtain ⟨⟨b11, a12⟩, h10, h⟩ := bnd h; try dsimp only at h
  refine callM_by hP (s69 hZ h10) [(4, 0)] false hJ rfl rfl rfl rfl rfl (.inl rfl) ?_; cbv
  revert h; refine zw hJ fun v13 h => ?_; cbv
  obtain ⟨⟨b15, a16⟩, h14, h⟩ := bnd h; try dsimp only at h
  refine callM_by hP (s69 hZ h14) [(4, 0)] false hJ rfl rfl rfl rfl rfl (.inl rfl) ?_; cbv
  revert h; refine zw hJ fun v17 h => ?_; cbv
  obtain ⟨⟨b19, a20⟩, h18, h⟩ := bnd h; try dsimp only at h
  refine callM_by hP (s69 hZ h18) [(4, 0)] false hJ rfl rfl rfl rfl rfl (.inl rfl) ?_; cbv
  revert h; refine zw hJ fun v21 h => ?_; cbv
  obtain ⟨⟨b23, a24⟩, h22, h⟩ := bnd h; try dsimp only at h
  refine callM_by hP (s69 hZ h22) [(4, 0)] false hJ rfl rfl rfl rfl rfl (.inl rfl) ?_; cbv
  refine st_val hJ ?_; cbv
  refine st_val hJ ?_; cbv
  obtain ⟨a25, ha26, h⟩ := letv h; obtain ⟨v27, hv27, h⟩ := letv h
  obtain ⟨e281, e282⟩ := zcpP hJ hZ (off := 25) (len := 39) (by decide) (srcW hJ (isA hZ .u8 x0.Data)) (Ar.h x0.Data).symm ha26 hv27
  rw [e281, e282]; refine zok (by first | exact trivial | exact ⟨trivial, by subst hJ; exact Nat.le_refl _⟩ | (subst hJ; exact Nat.le_refl _) | (subst hJ; decide) | exact ⟨trivial, by subst hJ; decide⟩) ?_
  clear e281 e282 hv27 ha26; cbv
  refine ⟨fun _ => by kernel_rfl, ?_⟩; cbv
  revert h; refine st_sla hJ (eI_len .u8) (cells := (Za .u8 _ a25)) (isA hZ .u8 a25) (Ar.h a25) fun c30 n31 l29 k33 hl32 hs34 h => ?_; obtain ⟨rfl, rfl⟩ := isQ hZ hl32; cbv
  obtain ⟨v36, h35, h⟩ := bnd h
  refine snap_by hP (Spec.seen (pre := []) (s67 hZ h35) hs34) hJ (by cbv) rfl ⟨trivial, trivial⟩ ?_; cbv
  revert h; refine zw hJ fun v37 h => ?_; cbv
  obtain ⟨⟨b39, a40⟩, h38, h⟩ := bnd h; try dsimp only at h
  refine callM_by hP (s69 hZ h38) [(4, 0)] false hJ rfl rfl rfl rfl rfl (.inl rfl) ?_; cbv
  cases h
  exact ⟨_, .refl _, [], _, _, [], _, rfl, rfl, rfl, rfl, rfl, rfl⟩
theorem s29 (hZ : ZS Ze Zn Za Zb Zm)  (h : m_scan_All_1 x0 x1 = some z0) : Spec Try.prog 29 [.agg [.d (.int .i64 x0.Place), .d (.int .i64 x0.Rec.Kind), .d (.int .i64 x0.Rec.Epoch), .d (.int .i64 x0.Rec.Seq), .d (.int .i64 x0.Rec.Block), .d (.int .i64 x0.Rec.Count), .big 32 (Za .u8 _ x0.Rec.Data)], .agg [.d (.int .i64 x1.Place), .d (.int .i64 x1.Rec.Kind), .d (.int .i64 x1.Rec.Epoch), .d (.int .i64 x1.Rec.Seq), .d (.int .i64 x1.Rec.Block), .d (.int .i64 x1.Rec.Count), .big 32 (Za .u8 _ x1.Rec.Data)]] ⟨.d (.int .i64 z0), [], 0, True⟩ := by
  refine spec_b [] Try.func29 rfl rfl rfl fun J P hJ hP => ?_
  dsimp only [m_scan_All_1] at h
  cbv
  obtain ⟨v3, h2, h⟩ := bnd h
  refine call_by hP (s31 hZ h2) hJ rfl rfl ?_; cbv
  obtain ⟨v5, h4, h⟩ := bnd h
  refine call_by hP (s31 hZ h4) hJ rfl rfl ?_; cbv
  refine zbs hJ hZ (show IsL (eI .i64) _ _ [v3, v5] from ⟨rfl, rfl⟩) (by subst hJ; exact (by decide : 2 ≤ 16777216)) ?_; cbv
  obtain ⟨v7, h6, h⟩ := bnd h
  refine snap_by hP (s30 hZ h6) hJ (by cbv) rfl ⟨trivial, trivial⟩ ?_; cbv
  refine ⟨fun _ => by kernel_rfl, ?_⟩; cbv
  cases h
  exact ⟨_, .refl _, [], _, _, [], _, rfl, rfl, rfl, rfl, rfl, rfl⟩
theorem s20 (hZ : ZS Ze Zn Za Zb Zm)  (h : m_ref03_Right x0 = some z0) : Spec Try.prog 20 [.agg [.d (.int .i64 x0.Conv), .d (.int .i64 x0.Soft), .d (.int .i64 x0.Seq), .d (.int .i64 x0.Size), .d (.int .i64 x0.Open)]] ⟨.d (.bool z0), [], 0, True⟩ := by
  refine spec_b [6, 10] Try.func20 rfl rfl rfl fun J P hJ hP => ?_
  dsimp only [m_ref03_Right] at h
  cbv
  obtain ⟨j2, hj3, h⟩ := jn h
  refine JoinP.mk {x : Unit // j2 x = some z0} (fun x => ⟨[(1, .ptr 0 0)], [(0, .box [.d (.int .i64 x0.Conv), .d (.int .i64 x0.Soft), .d (.int .i64 x0.Seq), .d (.int .i64 x0.Size), .d (.int .i64 x0.Open)])], 1, 53⟩) (fun _ => True) [1] ?_ ?_
  · cbv
    revert h; refine zc hJ fun b4 h => ?_; cbv
    cases b4 with
    | true =>
      replace h := cnd_t h; cbv
      cases h
      exact ⟨_, .refl _, [], _, _, [], _, rfl, rfl, rfl, rfl, rfl, rfl⟩
    | false =>
      replace h := cnd_f h; cbv
      revert h; refine zc hJ fun b5 h => ?_; cbv
      cases b5 with
      | true =>
        replace h := cnd_t h; cbv
        cases h
        exact ⟨_, .refl _, [], _, _, [], _, rfl, rfl, rfl, rfl, rfl, rfl⟩
      | false =>
        replace h := cnd_f h; cbv
        revert h; refine zc hJ fun b6 h => ?_; cbv
        cases b6 with
        | true =>
          replace h := cnd_t h; cbv
          cases h
          exact ⟨_, .refl _, [], _, _, [], _, rfl, rfl, rfl, rfl, rfl, rfl⟩
        | false =>
          replace h := cnd_f h; cbv
          revert h; refine zc hJ fun b7 h => ?_; cbv
          cases b7 with
          | true =>
            replace h := cnd_t h; cbv
            cases h
            exact ⟨_, .refl _, [], _, _, [], _, rfl, rfl, rfl, rfl, rfl, rfl⟩
          | false =>
            replace h := cnd_f h; cbv
            revert h; refine zb hJ fun v8 h => ?_; cbv
            revert h; refine zc hJ fun b9 h => ?_; cbv
            cases b9 with
            | true =>
              replace h := cnd_t h; cbv
              cases h
              exact ⟨_, .refl _, [], _, _, [], _, rfl, rfl, rfl, rfl, rfl, rfl⟩
            | false =>
              replace h := cnd_f h; cbv
              exact ⟨⟨_, h⟩, [(0, 0)], 1, [], rfl, trivial⟩
  · rintro ⟨_, h⟩ -; rw [hj3] at h; try dsimp only at h ⊢
    cbv
    obtain ⟨j4, hj5, h⟩ := jn h
    refine JoinP.mk {x : Unit // j4 x = some z0} (fun x => ⟨[(1, .ptr 0 0)], [(0, .box [.d (.int .i64 x0.Conv), .d (.int .i64 x0.Soft), .d (.int .i64 x0.Seq), .d (.int .i64 x0.Size), .d (.int .i64 x0.Open)])], 1, 53⟩) (fun _ => True) [1] ?_ ?_
    · cbv
      revert h; refine zc hJ fun b6 h => ?_; cbv
      cases b6 with
      | true =>
        replace h := cnd_t h; cbv
        cases h
        exact ⟨_, .refl _, [], _, _, [], _, rfl, rfl, rfl, rfl, rfl, rfl⟩
      | false =>
        replace h := cnd_f h; cbv
        revert h; refine zc hJ fun b7 h => ?_; cbv
        cases b7 with
        | true =>
          replace h := cnd_t h; cbv
          cases h
          exact ⟨_, .refl _, [], _, _, [], _, rfl, rfl, rfl, rfl, rfl, rfl⟩
        | false =>
          replace h := cnd_f h; cbv
          revert h; refine zc hJ fun b8 h => ?_; cbv
          cases b8 with
          | true =>
            replace h := cnd_t h; cbv
            cases h
            exact ⟨_, .refl _, [], _, _, [], _, rfl, rfl, rfl, rfl, rfl, rfl⟩
          | false =>
            replace h := cnd_f h; cbv
            revert h; refine zc hJ fun b9 h => ?_; cbv
            cases b9 with
            | true =>
              replace h := cnd_t h; cbv
              cases h
              exact ⟨_, .refl _, [], _, _, [], _, rfl, rfl, rfl, rfl, rfl, rfl⟩
            | false =>
              replace h := cnd_f h; cbv
              exact ⟨⟨_, h⟩, [(0, 0)], 1, [], rfl, trivial⟩
    · rintro ⟨_, h⟩ -; rw [hj5] at h; try dsimp only at h ⊢
      cbv
      obtain ⟨v7, h6, h⟩ := bnd h
      refine call_by hP (s38 hZ h6) hJ rfl rfl ?_; cbv
      revert h; refine zb hJ fun v8 h => ?_; cbv
      revert h; refine zc hJ fun b9 h => ?_; cbv
      refine ⟨fun _ => by kernel_rfl, ?_⟩; cbv
      cases h
      exact ⟨_, .refl _, [], _, _, [], _, rfl, rfl, rfl, rfl, rfl, rfl⟩
end Go.AX
