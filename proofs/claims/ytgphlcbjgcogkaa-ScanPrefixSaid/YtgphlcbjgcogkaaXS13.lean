/- What functions of the program compute: each is what its Lean function says. -/
import Derived.Test.YtgphlcbjgcogkaaXS1
import Derived.Test.YtgphlcbjgcogkaaXS2
import Derived.Test.YtgphlcbjgcogkaaXS3
namespace Go.AX
open Go.Proofs
set_option linter.unusedVariables false
set_option maxRecDepth 100000
set_option maxHeartbeats 100000000
set_option linter.unusedSimpArgs false
set_option autoImplicit true
set_option relaxedAutoImplicit true
variable {Ze : ZeT} {Zn : ZnT} {Za : ZaT} {Zb : ZbT} {Zm : ZmT}

theorem s83 (hZ : ZS Ze Zn Za Zb Zm)  (h : m_geom_Sectors x0 x1 = some z0) : Spec Try.prog 83 [.agg [.d (.int .i64 x0.Conv), .d (.int .i64 x0.Soft), .d (.int .i64 x0.Seq), .d (.int .i64 x0.Size), .d (.int .i64 x0.Open)], .d (.int .i64 x1)] ⟨.d (.int .i64 z0), [], 0, True⟩ := by
  refine spec_b [4] Try.func83 rfl rfl rfl fun J P hJ hP => ?_
  dsimp only [m_geom_Sectors] at h
  cbv
  obtain ⟨j2, hj3, h⟩ := jn h
  refine JoinP.mk {x : Bool // j2 x = some z0} (fun x => ⟨[(1, .d (.int .i64 x1)), (2, .ptr 0 0), (5, .d (.bool x.1))], [(0, .box [.d (.int .i64 x0.Conv), .d (.int .i64 x0.Soft), .d (.int .i64 x0.Seq), .d (.int .i64 x0.Size), .d (.int .i64 x0.Open)])], 1, 23⟩) (fun _ => True) [1, 2, 5] ?_ ?_
  · cbv
    revert h; refine zc hJ fun b4 h => ?_; cbv
    cases b4 with
    | true =>
      replace h := cnd_t h; cbv
      exact ⟨⟨_, h⟩, [(0, 0)], 1, [], rfl, trivial⟩
    | false =>
      replace h := cnd_f h; cbv
      obtain ⟨v6, h5, h⟩ := bnd h
      refine call_by hP (s52 hZ h5) hJ rfl rfl ?_; cbv
      revert h; refine zc hJ fun b7 h => ?_; cbv
      exact ⟨⟨_, h⟩, [(0, 0)], 1, [], rfl, trivial⟩
  · rintro ⟨b4, h⟩ -; rw [hj3] at h; try dsimp only at h ⊢
    cbv
    cases b4 with
    | true =>
      replace h := cnd_t h; cbv
      cases h
      exact ⟨_, .refl _, [], _, _, [], _, rfl, rfl, rfl, rfl, rfl, rfl⟩
    | false =>
      replace h := cnd_f h; cbv
      revert h; refine zc hJ fun b5 h => ?_; cbv
      cases b5 with
      | true =>
        replace h := cnd_t h; cbv
        cases h
        exact ⟨_, .refl _, [], _, _, [], _, rfl, rfl, rfl, rfl, rfl, rfl⟩
      | false =>
        replace h := cnd_f h; cbv
        cases h
        exact ⟨_, .refl _, [], _, _, [], _, rfl, rfl, rfl, rfl, rfl, rfl⟩
theorem s44 (hZ : ZS Ze Zn Za Zb Zm)  (h : m___dev_Device__command x1 x2 o0 o1 o3 = some (z0, z1)) : SpecM Try.prog 44 10 [(0, .box [.d (.int .i64 o0.g.Conv), .d (.int .i64 o0.g.Soft), .d (.int .i64 o0.g.Seq), .d (.int .i64 o0.g.Size), .d (.int .i64 o0.g.Open), .own 8 (Zn _ o0.zones) 2, .map 4, .map 5, .map 6, .own 9 (Zn _ o0.cached) 66, .d (.int .i64 o0.left_), .d (.bool o0.down), .d (.int .i64 o0.illegal)]), (1, .box [.big 64 (Za .u8 _ o1)]), (2, .box [.ptr 0 0]), (3, .box [.d (.int .i64 o3.Zone), .d (.int .i64 o3.Off)]), (4, .mp false false (Zm _ _ (eI .i64) eB o0.finished)), (5, .mp true true (Zm _ _ eAt (eA (n := 64) .u8) o0.safe)), (6, .mp true true (Zm _ _ eAt (eA (n := 64) .u8) o0.now)), (7, .row (Ze _ eZone x1) 2 66), (8, .row (Ze _ eZone o0.zones) 2 66), (9, .row (Ze _ eDev_write o0.cached) 66 88)] [.ptr 0 0, .own 7 (Zn _ x1) 2, .d (.int .i64 x2), .fn 45 [.ptr 1 0, .ptr 2 0, .ptr 3 0]] ⟨.d (.int .i64 z0), [(0, .box [.d (.int .i64 z1.g.Conv), .d (.int .i64 z1.g.Soft), .d (.int .i64 z1.g.Seq), .d (.int .i64 z1.g.Size), .d (.int .i64 z1.g.Open), .own 10 (Zn _ z1.zones) 2, .map 4, .map 5, .map 6, .own 11 (Zn _ z1.cached) 66, .d (.int .i64 z1.left_), .d (.bool z1.down), .d (.int .i64 z1.illegal)]), (1, .box [.big 64 (Za .u8 _ o1)]), (2, .box [.ptr 0 0]), (3, .box [.d (.int .i64 o3.Zone), .d (.int .i64 o3.Off)]), (4, .mp false false (Zm _ _ (eI .i64) eB z1.finished)), (5, .mp true true (Zm _ _ eAt (eA (n := 64) .u8) z1.safe)), (6, .mp true true (Zm _ _ eAt (eA (n := 64) .u8) z1.now)), (10, .row (Ze _ eZone z1.zones) 2 66), (11, .row (Ze _ eDev_write z1.cached) 66 88), (9, .dead), (8, .dead), (7, .dead)], 2, True⟩ := by
  refine specM_b [] 7 10 Try.func44 rfl rfl rfl rfl rfl rfl fun J P hJ hP => ?_
  dsimp only [m___dev_Device__command] at h
  cbv
  refine tst h (fun hb2 h => ?_) (fun hb2 h => ?_)
  · cbv
    cases h
    exact ⟨_, .refl _, [], _, _, [(0, 0), (1, 1), (2, 2), (3, 3), (4, 4), (5, 5), (6, 6), (8, 10), (9, 11)], _, rfl, rfl, rfl, rfl, rfl, rfl⟩
  · cbv
    obtain ⟨⟨v4, o5⟩, h3, h⟩ := bnd h; try dsimp only at h
    refine callM_by hP (s46 hZ h3) [(0, 0), (8, 1), (4, 2), (5, 3), (6, 4), (9, 5)] false hJ rfl rfl rfl rfl rfl (.inl rfl) ?_; cbv
    revert h; refine zc hJ fun b6 h => ?_; cbv
    cases b6 with
    | true =>
      replace h := cnd_t h; cbv
      cases h
      exact ⟨_, .refl _, [], _, _, [(0, 0), (1, 1), (2, 2), (3, 3), (4, 4), (5, 5), (6, 6), (8, 10), (9, 11)], _, rfl, rfl, rfl, rfl, rfl, rfl⟩
    | false =>
      replace h := cnd_f h; cbv
      obtain ⟨o8, h7, h⟩ := bnd h
      obtain ⟨_, h12, h⟩ := bnd h
      refine callM_by hP (s45 hZ h7) [(1, 0), (2, 1), (3, 2), (0, 3), (7, 4), (4, 5), (5, 6), (6, 7), (9, 8)] false hJ rfl rfl rfl rfl rfl (.inl rfl) ?_; try rw [hZ.neq h12]; cbv
      obtain ⟨o10, h9, h⟩ := bnd h
      obtain ⟨_, h11, h⟩ := bnd h
      refine callM_by hP (s66 hZ h9) [(0, 0), (7, 1), (4, 2), (5, 3), (6, 4), (25, 5)] false hJ rfl rfl rfl rfl rfl (.inl rfl) ?_; try rw [hZ.neq h11]; cbv
      cases h
      exact ⟨_, .refl _, [], _, _, [(0, 0), (1, 1), (2, 2), (3, 3), (4, 4), (5, 5), (6, 6), (7, 10), (25, 11)], _, rfl, rfl, rfl, rfl, rfl, rfl⟩
theorem s67 (hZ : ZS Ze Zn Za Zb Zm)  (h : m_crc_Sum x0 = some z0) : Spec Try.prog 67 [.d (.lst (Ze _ (eI .u8) x0) (Zn _ x0))] ⟨.d (.int .u32 z0), [], 0, True⟩ := by
  refine spec_b [] Try.func67 rfl rfl rfl fun J P hJ hP => ?_
  dsimp only [m_crc_Sum] at h
  cbv
  obtain ⟨v3, h2, h⟩ := bnd h
  refine call_by hP (s84 hZ h2) hJ rfl rfl ?_; cbv
  cases h
  exact ⟨_, .refl _, [], _, _, [], _, rfl, rfl, rfl, rfl, rfl, rfl⟩
theorem s68 (hZ : ZS Ze Zn Za Zb Zm)  (h : m_word_Get x0 x1 x2 = some (z0, z1)) : Spec Try.prog 68 [.d (.lst (Ze _ (eI .u8) x0) (Zn _ x0)), .d (.int .i64 x1), .d (.int .i64 x2)] ⟨.tup [.d (.int .u64 z0), .d (.bool z1)], [], 0, True⟩ := by
  refine spec_b [18] Try.func68 rfl rfl rfl fun J P hJ hP => ?_
  dsimp only [m_word_Get] at h
  cbv
  obtain ⟨b3, h2, h⟩ := bnd h
  refine call_by hP (s85 hZ h2) hJ rfl rfl ?_; cbv
  revert h; refine st_not hJ fun b4 _ h => ?_; cbv
  cases b4 with
  | true =>
    replace h := cnd_t h; cbv
    cases h
    exact ⟨_, .refl _, [], _, _, [], _, rfl, rfl, rfl, rfl, rfl, rfl⟩
  | false =>
    replace h := cnd_f h; cbv
    obtain ⟨j5, hj6, h⟩ := jn h
    refine JoinP.mk {x : Int // j5 x = some (z0, z1)} (fun x => ⟨[(8, .d (.int .u64 x.1))], [], 0, 34⟩) (fun _ => True) [8] ?_ ?_
    · cbv
      obtain ⟨p8, q7, hp9, hf10, hq11⟩ := bnd_loop h; clear h
      refine LoopB.mk {x : Nat × Int × Int // loopN p8 x.1 x.2 = some q7} (fun x => ⟨[(0, .d (.lst (Ze _ (eI .u8) x0) (Zn _ x0))), (1, .d (.int .i64 x1)), (8, .d (.int .u64 x.1.2.1)), (15, .d (.int .i64 x2)), (16, .d (.int .i64 x.1.2.2))], [], 0, 34⟩) (fun x => x.1.1) [0, 1, 8, 15, 16] 0 ⟨(FUEL, _), hf10⟩ ⟨[], [], ?_⟩ ?_
      · rfl
      · rintro ⟨⟨N14, ⟨v17, v18⟩⟩, hr13⟩; obtain ⟨M15, o12, eN16, h, hr13⟩ := loopN_step hr13; subst eN16; rw [hp9] at h; try dsimp only at h ⊢
        cbv
        revert h; refine zc hJ fun b19 h => ?_; cbv
        cases b19 with
        | true =>
          replace h := cnd_t h; cbv
          revert h; refine zb hJ fun v20 h => ?_; cbv
          revert h; refine zlp hJ hZ fun y21 k22 hy23 ho24 h => ?_; cbv
          refine zl hJ hZ (eI_len .u8) hy23 ho24 (fun hJ => by subst hJ; rfl) (LdW.lds (eI_len .u8) (wI .u8 _)) ?_; cbv
          revert h; refine zw hJ fun v25 h => ?_; cbv
          revert h; refine zw hJ fun v26 h => ?_; cbv
          revert h; refine zb hJ fun v27 h => ?_; cbv
          revert h; refine zsh hJ fun v28 h => ?_; cbv
          revert h; refine zb hJ fun v29 h => ?_; cbv
          revert h; refine zb hJ fun v30 h => ?_; cbv
          cases h; exact ⟨⟨(M15, _), hr13⟩, [], 0, [], rfl, Nat.lt_succ_self _⟩
        | false =>
          replace h := cnd_f h; cbv
          cases h; have h := hq11; obtain rfl := hr13; try dsimp only at h
          exact ⟨⟨_, h⟩, [], 0, [], rfl, trivial⟩
    · rintro ⟨v7, h⟩ -; rw [hj6] at h; try dsimp only at h ⊢
      cbv
      cases h
      exact ⟨_, .refl _, [], _, _, [], _, rfl, rfl, rfl, rfl, rfl, rfl⟩
end Go.AX
