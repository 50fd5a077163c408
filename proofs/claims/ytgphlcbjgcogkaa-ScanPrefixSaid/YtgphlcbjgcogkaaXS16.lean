/- What functions of the program compute: each is what its Lean function says. -/
import Derived.Test.YtgphlcbjgcogkaaXS11
import Derived.Test.YtgphlcbjgcogkaaXS12
import Derived.Test.YtgphlcbjgcogkaaXS13
namespace Go.AX
open Go.Proofs
set_option linter.unusedVariables false
set_option maxRecDepth 100000
set_option maxHeartbeats 100000000
set_option linter.unusedSimpArgs false
set_option autoImplicit true
set_option relaxedAutoImplicit true
variable {Ze : ZeT} {Zn : ZnT} {Za : ZaT} {Zb : ZbT} {Zm : ZmT}

theorem s21 (hZ : ZS Ze Zn Za Zb Zm)  (h : m_dev_New x0 = some z0) : SpecM Try.prog 21 0 [] [.agg [.d (.int .i64 x0.Conv), .d (.int .i64 x0.Soft), .d (.int .i64 x0.Seq), .d (.int .i64 x0.Size), .d (.int .i64 x0.Open)]] ⟨.ptr 0 0, [(0, .box [.d (.int .i64 z0.g.Conv), .d (.int .i64 z0.g.Soft), .d (.int .i64 z0.g.Seq), .d (.int .i64 z0.g.Size), .d (.int .i64 z0.g.Open), .own 1 (Zn _ z0.zones) 2, .map 2, .map 3, .map 4, .d .nils, .d (.int .i64 z0.left_), .d (.bool z0.down), .d (.int .i64 z0.illegal)]), (1, .row (Ze _ eZone z0.zones) 2 66), (2, .mp false false (Zm _ _ (eI .i64) eB z0.finished)), (3, .mp true true (Zm _ _ eAt (eA (n := 64) .u8) z0.safe)), (4, .mp true true (Zm _ _ eAt (eA (n := 64) .u8) z0.now))], 5, True⟩ := by
  refine specM_b [] 0 0 Try.func21 rfl rfl rfl rfl rfl rfl fun J P hJ hP => ?_
  dsimp only [m_dev_New] at h
  cbv
  obtain ⟨l3, h2, h⟩ := bnd h
  refine call_by hP (s39 hZ h2) hJ rfl rfl ?_; cbv
  refine zmm hJ hZ (f := (eI .i64)) (g := eB) ?_; cbv
  refine zmm hJ hZ (f := eAt) (g := (eA (n := 64) .u8)) ?_; cbv
  refine zmm hJ hZ (f := eAt) (g := (eA (n := 64) .u8)) ?_; cbv
  refine ⟨fun _ => by kernel_rfl, ?_⟩; cbv
  cases h
  exact ⟨_, .refl _, [], _, _, [(14, 0), (5, 1), (7, 2), (9, 3), (11, 4)], _, rfl, rfl, rfl, rfl, rfl, rfl⟩
theorem s42 (hZ : ZS Ze Zn Za Zb Zm)  (h : m_ref02_Seal x0 = some z0) : Spec Try.prog 42 [.d (.lst (Ze _ (eI .u8) x0) (Zn _ x0))] ⟨.own 0 (Zn _ z0) 1, [(0, .row (Ze _ (eI .u8) z0) 1 5)], 1, True⟩ := by
  refine spec_b [18] Try.func42 rfl rfl rfl fun J P hJ hP => ?_
  dsimp only [m_ref02_Seal] at h
  cbv
  revert h; refine zap0 hJ hZ (eI_len .u8) fun l2 h => ?_; cbv
  obtain ⟨v4, h3, h⟩ := bnd h
  refine call_by hP (s63 hZ h3) hJ rfl rfl ?_; cbv
  obtain ⟨j5, hj6, h⟩ := jn h
  refine JoinP.mk {x : (List Int) // j5 x = some z0} (fun x => ⟨[(3, .own 0 (Zn _ x.1) 1)], [(0, .row (Ze _ (eI .u8) x.1) 1 5)], 1, 24⟩) (fun _ => True) [3] ?_ ?_
  · cbv
    obtain ⟨p8, q7, hp9, hf10, hq11⟩ := bnd_loop h; clear h
    refine LoopB.mk {x : Nat × Int × Int × (List Int) // loopN p8 x.1 x.2 = some q7} (fun x => ⟨[(3, .own 0 (Zn _ x.1.2.2.2) 1), (4, .d (.int .u32 x.1.2.1)), (5, .d (.int .i64 x.1.2.2.1))], [(0, .row (Ze _ (eI .u8) x.1.2.2.2) 1 5)], 1, 24⟩) (fun x => x.1.1) [3, 4, 5] 1 ⟨(FUEL, _), hf10⟩ ⟨[(4, 0)], [], ?_⟩ ?_
    · rfl
    · rintro ⟨⟨N14, ⟨v17, v18, l19⟩⟩, hr13⟩; obtain ⟨M15, o12, eN16, h, hr13⟩ := loopN_step hr13; subst eN16; rw [hp9] at h; try dsimp only at h ⊢
      cbv
      revert h; refine zc hJ fun b20 h => ?_; cbv
      cases b20 with
      | true =>
        replace h := cnd_t h; cbv
        revert h; refine zq hJ fun v21 h => ?_; cbv
        revert h; refine zw hJ fun v22 h => ?_; cbv
        refine zbs hJ hZ (show IsL (eI .u8) _ _ [v22] from ⟨rfl, rfl⟩) (by subst hJ; exact (by decide : 1 ≤ 16777216)) ?_; cbv
        revert h; refine zap hJ hZ (eI_len .u8) fun l23 h => ?_; cbv
        revert h; refine zq hJ fun v24 h => ?_; cbv
        revert h; refine zb hJ fun v25 h => ?_; cbv
        cases h; exact ⟨⟨(M15, _), hr13⟩, [(9, 0)], 1, [], rfl, Nat.lt_succ_self _⟩
      | false =>
        replace h := cnd_f h; cbv
        cases h; have h := hq11; obtain rfl := hr13; try dsimp only at h
        exact ⟨⟨_, h⟩, [(0, 0)], 1, [], rfl, trivial⟩
  · rintro ⟨l7, h⟩ -; rw [hj6] at h; try dsimp only at h ⊢
    cbv
    cases h
    exact ⟨_, .refl _, [], _, _, [(0, 0)], _, rfl, rfl, rfl, rfl, rfl, rfl⟩
theorem s64 (hZ : ZS Ze Zn Za Zb Zm)  (h : m_zone_there x0 x1 = some z0) : Spec Try.prog 64 [.agg [.d (.int .i64 x0.Conv), .d (.int .i64 x0.Soft), .d (.int .i64 x0.Seq), .d (.int .i64 x0.Size), .d (.int .i64 x0.Open)], .agg [.d (.int .i64 x1.Zone), .d (.int .i64 x1.Off)]] ⟨.d (.bool z0), [], 0, True⟩ := by
  refine spec_b [] Try.func64 rfl rfl rfl fun J P hJ hP => ?_
  dsimp only [m_zone_there] at h
  cbv
  revert h; refine zc hJ fun b2 h => ?_; cbv
  cases b2 with
  | true =>
    replace h := cnd_t h; cbv
    obtain ⟨v4, h3, h⟩ := bnd h
    refine call_by hP (s83 hZ h3) hJ rfl rfl ?_; cbv
    revert h; refine zc hJ fun b5 h => ?_; cbv
    refine ⟨fun _ => by kernel_rfl, ?_⟩; cbv
    cases h
    exact ⟨_, .refl _, [], _, _, [], _, rfl, rfl, rfl, rfl, rfl, rfl⟩
  | false =>
    replace h := cnd_f h; cbv
    refine ⟨fun _ => by kernel_rfl, ?_⟩; cbv
    cases h
    exact ⟨_, .refl _, [], _, _, [], _, rfl, rfl, rfl, rfl, rfl, rfl⟩
theorem s48 (hZ : ZS Ze Zn Za Zb Zm)  (h : m_crc_Right x0 = some z0) : Spec Try.prog 48 [.d (.lst (Ze _ (eI .u8) x0) (Zn _ x0))] ⟨.d (.bool z0), [], 0, True⟩ := by
  refine spec_b [20] Try.func48 rfl rfl rfl fun J P hJ hP => ?_
  dsimp only [m_crc_Right] at h
  cbv
  revert h; refine zln hJ hZ fun v2 h => ?_; cbv
  revert h; refine zb hJ fun v3 h => ?_; cbv
  revert h; refine zc hJ fun b4 h => ?_; cbv
  cases b4 with
  | true =>
    replace h := cnd_t h; cbv
    cases h
    exact ⟨_, .refl _, [], _, _, [], _, rfl, rfl, rfl, rfl, rfl, rfl⟩
  | false =>
    replace h := cnd_f h; cbv
    obtain ⟨j5, hj6, h⟩ := jn h
    refine JoinP.mk {x : Int // j5 x = some z0} (fun x => ⟨[(0, .d (.lst (Ze _ (eI .u8) x0) (Zn _ x0))), (3, .d (.int .i64 v3)), (4, .d (.int .u32 x.1))], [], 0, 34⟩) (fun _ => True) [0, 3, 4] ?_ ?_
    · cbv
      obtain ⟨p8, q7, hp9, hf10, hq11⟩ := bnd_loop h; clear h
      refine LoopB.mk {x : Nat × Int × Int // loopN p8 x.1 x.2 = some q7} (fun x => ⟨[(0, .d (.lst (Ze _ (eI .u8) x0) (Zn _ x0))), (3, .d (.int .i64 v3)), (4, .d (.int .u32 x.1.2.1)), (11, .d (.int .i64 x.1.2.2))], [], 0, 34⟩) (fun x => x.1.1) [0, 3, 4, 11] 0 ⟨(FUEL, _), hf10⟩ ⟨[], [], ?_⟩ ?_
      · rfl
      · rintro ⟨⟨N14, ⟨v17, v18⟩⟩, hr13⟩; obtain ⟨M15, o12, eN16, h, hr13⟩ := loopN_step hr13; subst eN16; rw [hp9] at h; try dsimp only at h ⊢
        cbv
        revert h; refine zc hJ fun b19 h => ?_; cbv
        cases b19 with
        | true =>
          replace h := cnd_t h; cbv
          revert h; refine zb hJ fun v20 h => ?_; cbv
          revert h; refine zlp hJ hZ fun y21 k22 hy23 ho24 h => ?_; cbv
          refine zl hJ hZ (eI_len .u8) hy23 ho24 (fun hJ => by subst hJ; rfl) (LdW.lds (eI_len .u8) (wI .u8 _)) ?_; cbv
          revert h; refine zw hJ fun v25 h => ?_; cbv
          revert h; refine zw hJ fun v26 h => ?_; cbv
          revert h; refine zb hJ fun v27 h => ?_; cbv
          revert h; refine zsh hJ fun v28 h => ?_; cbv
          revert h; refine zb hJ fun v29 h => ?_; cbv
          revert h; refine zb hJ fun v30 h => ?_; cbv
          cases h; exact ⟨⟨(M15, _), hr13⟩, [], 0, [], rfl, Nat.lt_succ_self _⟩
        | false =>
          replace h := cnd_f h; cbv
          cases h; have h := hq11; obtain rfl := hr13; try dsimp only at h
          exact ⟨⟨_, h⟩, [], 0, [], rfl, trivial⟩
    · rintro ⟨v7, h⟩ -; rw [hj6] at h; try dsimp only at h ⊢
      cbv
      revert h; refine zup hJ hZ (eI_len .u8) fun l8 h => ?_; cbv
      obtain ⟨v10, h9, h⟩ := bnd h
      refine call_by hP (s67 hZ h9) hJ rfl rfl ?_; cbv
      revert h; refine zc hJ fun b11 h => ?_; cbv
      cases h
      exact ⟨_, .refl _, [], _, _, [], _, rfl, rfl, rfl, rfl, rfl, rfl⟩
theorem s49 (hZ : ZS Ze Zn Za Zb Zm)  (h : m_rec_number x0 x1 x2 = some z0) : Spec Try.prog 49 [.lp (Za .u8 _ x0) 0, .d (.int .i64 x1), .d (.int .i64 x2)] ⟨.d (.int .i64 z0), [], 0, True⟩ := by
  refine spec_b [] Try.func49 rfl rfl rfl fun J P hJ hP => ?_
  dsimp only [m_rec_number] at h
  cbv
  obtain ⟨l2, el3, h⟩ := letv h; refine st_any hJ (v' := .d (.lst (Ze _ (eI .u8) l2) (Zn _ l2))) (by obtain ⟨rfl, rfl, rfl, rfl, rfl⟩ := hZ; subst hJ el3; exact congrArg (fun n => V.d (D.lst (encL (eI .u8) x0.l) n)) (Ar.h x0).symm) rfl trivial ?_
  clear el3; cbv
  obtain ⟨⟨v5, b6⟩, h4, h⟩ := bnd h; try dsimp only at h
  refine call_by hP (s68 hZ h4) hJ rfl rfl ?_; cbv
  revert h; refine zc hJ fun b7 h => ?_; cbv
  cases b7 with
  | true =>
    replace h := cnd_t h; cbv
    cases h
    exact ⟨_, .refl _, [], _, _, [], _, rfl, rfl, rfl, rfl, rfl, rfl⟩
  | false =>
    replace h := cnd_f h; cbv
    revert h; refine zw hJ fun v8 h => ?_; cbv
    cases h
    exact ⟨_, .refl _, [], _, _, [], _, rfl, rfl, rfl, rfl, rfl, rfl⟩
end Go.AX
