/- What functions of the program compute: each is what its Lean function says. -/
import Derived.Test.YtgphlcbjgcogkaaXS1
import Derived.Test.YtgphlcbjgcogkaaXS16
namespace Go.AX
open Go.Proofs
set_option linter.unusedVariables false
set_option maxRecDepth 100000
set_option maxHeartbeats 100000000
set_option linter.unusedSimpArgs false
set_option autoImplicit true
set_option relaxedAutoImplicit true
variable {Ze : ZeT} {Zn : ZnT} {Za : ZaT} {Zb : ZbT} {Zm : ZmT}

theorem s23 (hZ : ZS Ze Zn Za Zb Zm)  (h : m_ref06_Lay x0 = some z0) : Spec Try.prog 23 [.agg [.d (.int .i64 x0.Kind), .d (.int .i64 x0.Epoch), .d (.int .i64 x0.Seq), .d (.int .i64 x0.Block), .d (.int .i64 x0.Count), .big 32 (Za .u8 _ x0.Data)]] ⟨.agg [.big 64 (Za .u8 _ z0)], [], 0, True⟩ := by
  refine spec_b [20, 34] Try.func23 rfl rfl rfl fun J P hJ hP => ?_
  dsimp only [m_ref06_Lay] at h
  cbv
  obtain ⟨z64u8, ez64u8, h⟩ := letv h; have rz64u8 := zrep hJ hZ 64 .u8 ez64u8
  try rw [rz64u8]
  revert h; refine zw hJ fun v2 h => ?_; cbv
  refine zbs hJ hZ (show IsL (eI .u8) _ _ [v2] from ⟨rfl, rfl⟩) (by subst hJ; exact (by decide : 1 ≤ 16777216)) ?_; cbv
  obtain ⟨l4, h3, h⟩ := bnd h
  refine call_by hP (s41 hZ h3) hJ rfl rfl ?_; cbv
  revert h; refine zap hJ hZ (eI_len .u8) fun l5 h => ?_; cbv
  obtain ⟨l7, h6, h⟩ := bnd h
  refine call_by hP (s41 hZ h6) hJ rfl rfl ?_; cbv
  revert h; refine zap hJ hZ (eI_len .u8) fun l8 h => ?_; cbv
  obtain ⟨l10, h9, h⟩ := bnd h
  refine call_by hP (s41 hZ h9) hJ rfl rfl ?_; cbv
  revert h; refine zap hJ hZ (eI_len .u8) fun l11 h => ?_; cbv
  obtain ⟨l13, h12, h⟩ := bnd h
  refine call_by hP (s41 hZ h12) hJ rfl rfl ?_; cbv
  revert h; refine zap hJ hZ (eI_len .u8) fun l14 h => ?_; cbv
  obtain ⟨j15, hj16, h⟩ := jn h
  refine JoinP.mk {x : (List Int) // j15 x = some z0} (fun x => ⟨[(2, .ptr 0 0), (3, .own 1 (Zn _ x.1) 1)], [(0, .box [.big 64 (Za .u8 _ z64u8)]), (1, .row (Ze _ (eI .u8) x.1) 1 5)], 2, 58⟩) (fun _ => True) [2, 3] ?_ ?_
  · cbv
    obtain ⟨p18, q17, hp19, hf20, hq21⟩ := bnd_loop h; clear h
    refine LoopB.mk {x : Nat × Int × (List Int) // loopN p18 x.1 x.2 = some q17} (fun x => ⟨[(1, .ptr 0 0), (2, .ptr 1 0), (3, .own 2 (Zn _ x.1.2.2) 1), (4, .d (.int .i64 x.1.2.1))], [(0, .box [.d (.int .i64 x0.Kind), .d (.int .i64 x0.Epoch), .d (.int .i64 x0.Seq), .d (.int .i64 x0.Block), .d (.int .i64 x0.Count), .big 32 (Za .u8 _ x0.Data)]), (1, .box [.big 64 (Za .u8 _ z64u8)]), (2, .row (Ze _ (eI .u8) x.1.2.2) 1 5)], 3, 58⟩) (fun x => x.1.1) [1, 2, 3, 4] 3 ⟨(FUEL, _), hf20⟩ ⟨[(0, 0), (2, 1), (39, 2)], [], ?_⟩ ?_
    · rfl
    · rintro ⟨⟨N24, ⟨v27, l28⟩⟩, hr23⟩; obtain ⟨M25, o22, eN26, h, hr23⟩ := loopN_step hr23; subst eN26; rw [hp19] at h; try dsimp only at h ⊢
      cbv
      revert h; refine zc hJ fun b29 h => ?_; cbv
      cases b29 with
      | true =>
        replace h := cnd_t h; cbv
        revert h; refine zpx hJ fun v30 k31 hy32 ho33 h => ?_; cbv
        refine zlA hJ hZ hy32 ho33 (fun hJ => by subst hJ; simp [stdJ, std]) ?_; cbv
        refine zbs hJ hZ (show IsL (eI .u8) _ _ [v30] from ⟨rfl, rfl⟩) (by subst hJ; exact (by decide : 1 ≤ 16777216)) ?_; cbv
        revert h; refine zap hJ hZ (eI_len .u8) fun l34 h => ?_; cbv
        revert h; refine zb hJ fun v35 h => ?_; cbv
        cases h; exact ⟨⟨(M25, _), hr23⟩, [(0, 0), (1, 1), (12, 2)], 3, [], rfl, Nat.lt_succ_self _⟩
      | false =>
        replace h := cnd_f h; cbv
        cases h; have h := hq21; obtain rfl := hr23; try dsimp only at h
        exact ⟨⟨_, h⟩, [(1, 0), (2, 1)], 2, [], rfl, trivial⟩
  · rintro ⟨l17, h⟩ -; rw [hj16] at h; try dsimp only at h ⊢
    cbv
    refine zbs hJ hZ (show IsL (eI .u8) _ _ [0, 0, 0] from ⟨rfl, rfl⟩) (by subst hJ; exact (by decide : 3 ≤ 16777216)) ?_; cbv
    revert h; refine zap hJ hZ (eI_len .u8) fun l18 h => ?_; cbv
    obtain ⟨l20, h19, h⟩ := bnd h
    refine snap_by hP (s42 hZ h19) hJ (by cbv) rfl ⟨trivial, ⟨noL_enc (isL hZ (eI .u8) l20) (eI_noL .u8), trivial⟩⟩ ?_; cbv
    try rw [rz64u8]
    obtain ⟨j21, hj22, h⟩ := jn h
    refine JoinP.mk {x : (Ar 64) // j21 x = some z0} (fun x => ⟨[(2, .ptr 0 0), (5, .ptr 1 0)], [(0, .box [.big 64 (Za .u8 _ z64u8)]), (1, .box [.big 64 (Za .u8 _ x.1)])], 2, 58⟩) (fun _ => True) [2, 5] ?_ ?_
    · cbv
      obtain ⟨p24, q23, hp25, hf26, hq27⟩ := bnd_loop h; clear h
      refine LoopB.mk {x : Nat × Int × (Ar 64) // loopN p24 x.1 x.2 = some q23} (fun x => ⟨[(2, .ptr 0 0), (3, .own 1 (Zn _ l20) 1), (5, .ptr 2 0), (6, .d (.int .i64 x.1.2.1))], [(0, .box [.big 64 (Za .u8 _ z64u8)]), (1, .row (Ze _ (eI .u8) l20) 1 5), (2, .box [.big 64 (Za .u8 _ x.1.2.2)])], 3, 58⟩) (fun x => x.1.1) [2, 3, 5, 6] 3 ⟨(FUEL, _), hf26⟩ ⟨[(0, 0), (9, 1), (12, 2)], [], ?_⟩ ?_
      · rfl
      · rintro ⟨⟨N30, ⟨v33, a34⟩⟩, hr29⟩; obtain ⟨M31, o28, eN32, h, hr29⟩ := loopN_step hr29; subst eN32; rw [hp25] at h; try dsimp only at h ⊢
        cbv
        revert h; refine zc hJ fun b35 h => ?_; cbv
        cases b35 with
        | true =>
          replace h := cnd_t h; cbv
          revert h; refine zpr hJ hZ fun y36 k37 hy38 ho39 h => ?_; cbv
          refine zl hJ hZ (eI_len .u8) hy38 ho39 (fun hJ => by subst hJ; rfl) (LdW.lds (eI_len .u8) (wI .u8 _)) ?_; cbv
          revert h; refine zpx hJ fun v40 k41 hy42 ho43 h => ?_; cbv
          obtain ⟨a44, ea45, h⟩ := letv h; rw [zset hJ hZ ho43 ea45]; refine zok (px_leA hJ ho43 hy42) ?_
          clear ea45; cbv
          revert h; refine zb hJ fun v46 h => ?_; cbv
          cases h; exact ⟨⟨(M31, _), hr29⟩, [(0, 0), (1, 1), (2, 2)], 3, [], rfl, Nat.lt_succ_self _⟩
        | false =>
          replace h := cnd_f h; cbv
          cases h; have h := hq27; obtain rfl := hr29; try dsimp only at h
          exact ⟨⟨_, h⟩, [(0, 0), (2, 1)], 2, [], rfl, trivial⟩
    · rintro ⟨a23, h⟩ -; rw [hj22] at h; try dsimp only at h ⊢
      cbv
      cases h
      exact ⟨_, .refl _, [], _, _, [], _, rfl, rfl, rfl, rfl, rfl, rfl⟩
end Go.AX
