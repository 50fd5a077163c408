/- What functions of the program compute: each is what its Lean function says. -/
import Derived.Test.YtgphlcbjgcogkaaXS1
import Derived.Test.YtgphlcbjgcogkaaXS3
import Derived.Test.YtgphlcbjgcogkaaXS4
import Derived.Test.YtgphlcbjgcogkaaXS5
namespace Go.AX
open Go.Proofs
set_option linter.unusedVariables false
set_option maxRecDepth 100000
set_option maxHeartbeats 100000000
set_option linter.unusedSimpArgs false
set_option autoImplicit true
set_option relaxedAutoImplicit true
variable {Ze : ZeT} {Zn : ZnT} {Za : ZaT} {Zb : ZbT} {Zm : ZmT}

theorem s69 (hZ : ZS Ze Zn Za Zb Zm)  (h : m_word_Put x1 x2 x3 o0 = some (z0, z1)) : SpecM Try.prog 69 1 [(0, .box [.big 64 (Za .u8 _ o0)])] [.sla 0 0 64 1 64, .d (.int .i64 x1), .d (.int .i64 x2), .d (.int .u64 x3)] ⟨.d (.bool z0), [(0, .box [.big 64 (Za .u8 _ z1)])], 0, True⟩ := by
  refine specM_b [16] 1 1 Try.func69 rfl rfl rfl rfl rfl rfl fun J P hJ hP => ?_
  dsimp only [m_word_Put] at h
  cbv
  obtain ⟨b3, h2, h⟩ := bnd h
  refine snap_by hP (specA hZ [] (s85 hZ h2)) hJ (by cbv) rfl ⟨trivial, trivial⟩ ?_; cbv
  revert h; refine st_not hJ fun b4 _ h => ?_; cbv
  cases b4 with
  | true =>
    replace h := cnd_t h; cbv
    cases h
    exact ⟨_, .refl _, [], _, _, [(0, 0)], _, rfl, rfl, rfl, rfl, rfl, rfl⟩
  | false =>
    replace h := cnd_f h; cbv
    obtain ⟨j5, hj6, h⟩ := jn h
    refine JoinP.mk {x : (Ar 64) // j5 x = some (z0, z1)} (fun x => ⟨[], [(0, .box [.big 64 (Za .u8 _ x.1)])], 1, 31⟩) (fun _ => True) [] ?_ ?_
    · cbv
      obtain ⟨p8, q7, hp9, hf10, hq11⟩ := bnd_loop h; clear h
      refine LoopB.mk {x : Nat × Int × (Ar 64) // loopN p8 x.1 x.2 = some q7} (fun x => ⟨[(0, .sla 0 0 64 1 64), (1, .d (.int .i64 x1)), (3, .d (.int .u64 x3)), (15, .d (.int .i64 x2)), (16, .d (.int .i64 x.1.2.1))], [(0, .box [.big 64 (Za .u8 _ x.1.2.2)])], 1, 31⟩) (fun x => x.1.1) [0, 1, 3, 15, 16] 1 ⟨(FUEL, _), hf10⟩ ⟨[(0, 0)], [], ?_⟩ ?_
      · rfl
      · rintro ⟨⟨N14, ⟨v17, a18⟩⟩, hr13⟩; obtain ⟨M15, o12, eN16, h, hr13⟩ := loopN_step hr13; subst eN16; rw [hp9] at h; try dsimp only at h ⊢
        cbv
        revert h; refine zc hJ fun b19 h => ?_; cbv
        cases b19 with
        | true =>
          replace h := cnd_t h; cbv
          revert h; refine zb hJ fun v20 h => ?_; cbv
          revert h; refine zw hJ fun v21 h => ?_; cbv
          revert h; refine zb hJ fun v22 h => ?_; cbv
          revert h; refine zsh hJ fun v23 h => ?_; cbv
          revert h; refine zw hJ fun v24 h => ?_; cbv
          revert h; refine zpx hJ fun v25 k26 hy27 ho28 h => ?_; cbv
          obtain ⟨a29, ea30, h⟩ := letv h; rw [zset hJ hZ ho28 ea30]; refine zok (px_leA hJ ho28 hy27) ?_
          clear ea30; cbv
          revert h; refine zb hJ fun v31 h => ?_; cbv
          cases h; exact ⟨⟨(M15, _), hr13⟩, [(0, 0)], 1, [], rfl, Nat.lt_succ_self _⟩
        | false =>
          replace h := cnd_f h; cbv
          cases h; have h := hq11; obtain rfl := hr13; try dsimp only at h
          exact ⟨⟨_, h⟩, [(0, 0)], 1, [], rfl, trivial⟩
    · rintro ⟨a7, h⟩ -; rw [hj6] at h; try dsimp only at h ⊢
      cbv
      cases h
      exact ⟨_, .refl _, [], _, _, [(0, 0)], _, rfl, rfl, rfl, rfl, rfl, rfl⟩
theorem s27 (hZ : ZS Ze Zn Za Zb Zm)  (h : m_geom_Num x0 x1 = some z0) : Spec Try.prog 27 [.agg [.d (.int .i64 x0.Conv), .d (.int .i64 x0.Soft), .d (.int .i64 x0.Seq), .d (.int .i64 x0.Size), .d (.int .i64 x0.Open)], .agg [.d (.int .i64 x1.Zone), .d (.int .i64 x1.Off)]] ⟨.d (.int .i64 z0), [], 0, True⟩ := by
  refine spec_b [6] Try.func27 rfl rfl rfl fun J P hJ hP => ?_
  dsimp only [m_geom_Num] at h
  cbv
  obtain ⟨j2, hj3, h⟩ := jn h
  refine JoinP.mk {x : Unit // j2 x = some z0} (fun x => ⟨[(2, .ptr 0 0), (3, .ptr 1 0)], [(0, .box [.d (.int .i64 x0.Conv), .d (.int .i64 x0.Soft), .d (.int .i64 x0.Seq), .d (.int .i64 x0.Size), .d (.int .i64 x0.Open)]), (1, .box [.d (.int .i64 x1.Zone), .d (.int .i64 x1.Off)])], 2, 41⟩) (fun _ => True) [2, 3] ?_ ?_
  · cbv
    revert h; refine zc hJ fun b4 h => ?_; cbv
    cases b4 with
    | true =>
      replace h := cnd_t h; cbv
      refine ⟨fun _ => by kernel_rfl, ?_⟩; cbv
      cases h
      exact ⟨_, .refl _, [], _, _, [], _, rfl, rfl, rfl, rfl, rfl, rfl⟩
    | false =>
      replace h := cnd_f h; cbv
      obtain ⟨v6, h5, h⟩ := bnd h
      refine call_by hP (s52 hZ h5) hJ rfl rfl ?_; cbv
      revert h; refine zc hJ fun b7 h => ?_; cbv
      cases b7 with
      | true =>
        replace h := cnd_t h; cbv
        refine ⟨fun _ => by kernel_rfl, ?_⟩; cbv
        cases h
        exact ⟨_, .refl _, [], _, _, [], _, rfl, rfl, rfl, rfl, rfl, rfl⟩
      | false =>
        replace h := cnd_f h; cbv
        revert h; refine zc hJ fun b8 h => ?_; cbv
        cases b8 with
        | true =>
          replace h := cnd_t h; cbv
          refine ⟨fun _ => by kernel_rfl, ?_⟩; cbv
          cases h
          exact ⟨_, .refl _, [], _, _, [], _, rfl, rfl, rfl, rfl, rfl, rfl⟩
        | false =>
          replace h := cnd_f h; cbv
          revert h; refine zc hJ fun b9 h => ?_; cbv
          refine ⟨fun _ => by kernel_rfl, ?_⟩; cbv
          cases b9 with
          | true =>
            replace h := cnd_t h; cbv
            cases h
            exact ⟨_, .refl _, [], _, _, [], _, rfl, rfl, rfl, rfl, rfl, rfl⟩
          | false =>
            replace h := cnd_f h; cbv
            exact ⟨⟨_, h⟩, [(0, 0), (2, 1)], 2, [], rfl, trivial⟩
  · rintro ⟨_, h⟩ -; rw [hj3] at h; try dsimp only at h ⊢
    cbv
    revert h; refine zb hJ fun v4 h => ?_; cbv
    revert h; refine zb hJ fun v5 h => ?_; cbv
    revert h; refine zb hJ fun v6 h => ?_; cbv
    revert h; refine zb hJ fun v7 h => ?_; cbv
    cases h
    exact ⟨_, .refl _, [], _, _, [], _, rfl, rfl, rfl, rfl, rfl, rfl⟩
theorem s31 (hZ : ZS Ze Zn Za Zb Zm)  (h : m_cmp_Compare x0 x1 = some z0) : Spec Try.prog 31 [.d (.int .i64 x0), .d (.int .i64 x1)] ⟨.d (.int .i64 z0), [], 0, True⟩ := by
  refine spec_b [] Try.func31 rfl rfl rfl fun J P hJ hP => ?_
  dsimp only [m_cmp_Compare] at h
  cbv
  obtain ⟨b3, h2, h⟩ := bnd h
  refine call_by hP (s55 hZ h2) hJ rfl rfl ?_; cbv
  obtain ⟨b5, h4, h⟩ := bnd h
  refine call_by hP (s55 hZ h4) hJ rfl rfl ?_; cbv
  cases b3 with
  | true =>
    replace h := cnd_t h; cbv
    cases b5 with
    | true =>
      replace h := cnd_t h; cbv
      cases h
      exact ⟨_, .refl _, [], _, _, [], _, rfl, rfl, rfl, rfl, rfl, rfl⟩
    | false =>
      replace h := cnd_f h; cbv
      cases h
      exact ⟨_, .refl _, [], _, _, [], _, rfl, rfl, rfl, rfl, rfl, rfl⟩
  | false =>
    replace h := cnd_f h; cbv
    cases b5 with
    | true =>
      replace h := cnd_t h; cbv
      cases h
      exact ⟨_, .refl _, [], _, _, [], _, rfl, rfl, rfl, rfl, rfl, rfl⟩
    | false =>
      replace h := cnd_f h; cbv
      revert h; refine zc hJ fun b6 h => ?_; cbv
      cases b6 with
      | true =>
        replace h := cnd_t h; cbv
        cases h
        exact ⟨_, .refl _, [], _, _, [], _, rfl, rfl, rfl, rfl, rfl, rfl⟩
      | false =>
        replace h := cnd_f h; cbv
        revert h; refine zc hJ fun b7 h => ?_; cbv
        cases b7 with
        | true =>
          replace h := cnd_t h; cbv
          cases h
          exact ⟨_, .refl _, [], _, _, [], _, rfl, rfl, rfl, rfl, rfl, rfl⟩
        | false =>
          replace h := cnd_f h; cbv
          cases h
          exact ⟨_, .refl _, [], _, _, [], _, rfl, rfl, rfl, rfl, rfl, rfl⟩
theorem s32 (hZ : ZS Ze Zn Za Zb Zm)  (h : m_scan_down o0 = some z0) : SpecM Try.prog 32 6 [(0, .box [.d (.int .i64 o0.g.Conv), .d (.int .i64 o0.g.Soft), .d (.int .i64 o0.g.Seq), .d (.int .i64 o0.g.Size), .d (.int .i64 o0.g.Open), .own 1 (Zn _ o0.zones) 2, .map 2, .map 3, .map 4, .own 5 (Zn _ o0.cached) 66, .d (.int .i64 o0.left_), .d (.bool o0.down), .d (.int .i64 o0.illegal)]), (1, .row (Ze _ eZone o0.zones) 2 66), (2, .mp false false (Zm _ _ (eI .i64) eB o0.finished)), (3, .mp true true (Zm _ _ eAt (eA (n := 64) .u8) o0.safe)), (4, .mp true true (Zm _ _ eAt (eA (n := 64) .u8) o0.now)), (5, .row (Ze _ eDev_write o0.cached) 66 88)] [.ptr 0 0] ⟨.d (.int .i64 z0), [(0, .box [.d (.int .i64 o0.g.Conv), .d (.int .i64 o0.g.Soft), .d (.int .i64 o0.g.Seq), .d (.int .i64 o0.g.Size), .d (.int .i64 o0.g.Open), .own 1 (Zn _ o0.zones) 2, .map 2, .map 3, .map 4, .own 5 (Zn _ o0.cached) 66, .d (.int .i64 o0.left_), .d (.bool o0.down), .d (.int .i64 o0.illegal)]), (1, .row (Ze _ eZone o0.zones) 2 66), (2, .mp false false (Zm _ _ (eI .i64) eB o0.finished)), (3, .mp true true (Zm _ _ eAt (eA (n := 64) .u8) o0.safe)), (4, .mp true true (Zm _ _ eAt (eA (n := 64) .u8) o0.now)), (5, .row (Ze _ eDev_write o0.cached) 66 88)], 0, True⟩ := by
  refine specM_b [] 6 6 Try.func32 rfl rfl rfl rfl rfl rfl fun J P hJ hP => ?_
  dsimp only [m_scan_down] at h
  cbv
  obtain ⟨b3, h2, h⟩ := bnd h
  refine callM_by hP (s56 hZ h2) [(0, 0), (1, 1), (2, 2), (3, 3), (4, 4), (5, 5)] false hJ rfl rfl rfl rfl rfl (.inl rfl) ?_; cbv
  cases b3 with
  | true =>
    replace h := cnd_t h; cbv
    cases h
    exact ⟨_, .refl _, [], _, _, [(0, 0), (1, 1), (2, 2), (3, 3), (4, 4), (5, 5)], _, rfl, rfl, rfl, rfl, rfl, rfl⟩
  | false =>
    replace h := cnd_f h; cbv
    cases h
    exact ⟨_, .refl _, [], _, _, [(0, 0), (1, 1), (2, 2), (3, 3), (4, 4), (5, 5)], _, rfl, rfl, rfl, rfl, rfl, rfl⟩
end Go.AX
