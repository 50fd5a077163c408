/- What functions of the program compute: each is what its Lean function says. -/
import Derived.Test.YtgphlcbjgcogkaaXS16
namespace Go.AX
open Go.Proofs
set_option linter.unusedVariables false
set_option maxRecDepth 100000
set_option maxHeartbeats 100000000
set_option linter.unusedSimpArgs false
set_option autoImplicit true
set_option relaxedAutoImplicit true
variable {Ze : ZeT} {Zn : ZnT} {Za : ZaT} {Zb : ZbT} {Zm : ZmT}

theorem s57 (hZ : ZS Ze Zn Za Zb Zm)  (h : m_ref06_Summed x0 = some z0) : Spec Try.prog 57 [.agg [.big 64 (Za .u8 _ x0)]] ⟨.d (.bool z0), [], 0, True⟩ := by
  refine spec_b [12, 24] Try.func57 rfl rfl rfl fun J P hJ hP => ?_
  dsimp only [m_ref06_Summed] at h
  cbv
  obtain ⟨j2, hj3, h⟩ := jn h
  refine JoinP.mk {x : (List Int) // j2 x = some z0} (fun x => ⟨[(1, .ptr 0 0), (3, .own 1 (Zn _ x.1) 1)], [(0, .box [.big 64 (Za .u8 _ x0)]), (1, .row (Ze _ (eI .u8) x.1) 1 5)], 2, 30⟩) (fun _ => True) [1, 3] ?_ ?_
  · cbv
    obtain ⟨p5, q4, hp6, hf7, hq8⟩ := bnd_loop h; clear h
    refine LoopB.mk {x : Nat × Int × (List Int) // loopN p5 x.1 x.2 = some q4} (fun x => ⟨[(1, .ptr 0 0), (3, .own 1 (Zn _ x.1.2.2) 1), (4, .d (.int .i64 x.1.2.1))], [(0, .box [.big 64 (Za .u8 _ x0)]), (1, .row (Ze _ (eI .u8) x.1.2.2) 1 5)], 2, 30⟩) (fun x => x.1.1) [1, 3, 4] 1 ⟨(FUEL, _), hf7⟩ ⟨[(0, 0)], [.slot 3 1 1 5], ?_⟩ ?_
    · simp only [hZ.e0, hZ.n0]; rfl
    · rintro ⟨⟨N11, ⟨v14, l15⟩⟩, hr10⟩; obtain ⟨M12, o9, eN13, h, hr10⟩ := loopN_step hr10; subst eN13; rw [hp6] at h; try dsimp only at h ⊢
      cbv
      revert h; refine zc hJ fun b16 h => ?_; cbv
      cases b16 with
      | true =>
        replace h := cnd_t h; cbv
        revert h; refine zpx hJ fun v17 k18 hy19 ho20 h => ?_; cbv
        refine zlA hJ hZ hy19 ho20 (fun hJ => by subst hJ; simp [stdJ, std]) ?_; cbv
        refine zbs hJ hZ (show IsL (eI .u8) _ _ [v17] from ⟨rfl, rfl⟩) (by subst hJ; exact (by decide : 1 ≤ 16777216)) ?_; cbv
        revert h; refine zap hJ hZ (eI_len .u8) fun l21 h => ?_; cbv
        revert h; refine zb hJ fun v22 h => ?_; cbv
        cases h; exact ⟨⟨(M12, _), hr10⟩, [(0, 0), (10, 1)], 2, [], rfl, Nat.lt_succ_self _⟩
      | false =>
        replace h := cnd_f h; cbv
        cases h; have h := hq8; obtain rfl := hr10; try dsimp only at h
        exact ⟨⟨_, h⟩, [(0, 0), (1, 1)], 2, [], rfl, trivial⟩
  · rintro ⟨l4, h⟩ -; rw [hj3] at h; try dsimp only at h ⊢
    cbv
    obtain ⟨l6, h5, h⟩ := bnd h
    refine snap_by hP (s42 hZ h5) hJ (by cbv) rfl ⟨trivial, ⟨noL_enc (isL hZ (eI .u8) l6) (eI_noL .u8), trivial⟩⟩ ?_; cbv
    obtain ⟨j7, hj8, h⟩ := jn h
    refine JoinP.mk {x : Unit // j7 x = some z0} (fun x => ⟨[], [], 0, 30⟩) (fun _ => True) [] ?_ ?_
    · cbv
      obtain ⟨p10, q9, hp11, hf12, hq13⟩ := bnd_loop h; clear h
      refine LoopB.mk {x : Nat × Int // loopN p10 x.1 x.2 = some q9} (fun x => ⟨[(1, .ptr 0 0), (3, .own 1 (Zn _ l6) 1), (5, .d (.int .i64 x.1.2))], [(0, .box [.big 64 (Za .u8 _ x0)]), (1, .row (Ze _ (eI .u8) l6) 1 5)], 2, 30⟩) (fun x => x.1.1) [1, 3, 5] 2 ⟨(FUEL, _), hf12⟩ ⟨[(0, 0), (3, 1)], [], ?_⟩ ?_
      · rfl
      · rintro ⟨⟨N16, v19⟩, hr15⟩; obtain ⟨M17, o14, eN18, h, hr15⟩ := loopN_step hr15; subst eN18; rw [hp11] at h; try dsimp only at h ⊢
        cbv
        revert h; refine zc hJ fun b20 h => ?_; cbv
        cases b20 with
        | true =>
          replace h := cnd_t h; cbv
          revert h; refine zpr hJ hZ fun y21 k22 hy23 ho24 h => ?_; cbv
          refine zl hJ hZ (eI_len .u8) hy23 ho24 (fun hJ => by subst hJ; rfl) (LdW.lds (eI_len .u8) (wI .u8 _)) ?_; cbv
          revert h; refine zpx hJ fun v25 k26 hy27 ho28 h => ?_; cbv
          refine zlA hJ hZ hy27 ho28 (fun hJ => by subst hJ; simp [stdJ, std]) ?_; cbv
          revert h; refine zc hJ fun b29 h => ?_; cbv
          refine ⟨fun _ => by kernel_rfl, ?_⟩; cbv
          cases b29 with
          | true =>
            replace h := cnd_t h; cbv
            cases h; have h := hq13; obtain rfl := hr15; try dsimp only at h
            cases h
            exact ⟨_, .refl _, [], _, _, [], _, rfl, rfl, rfl, rfl, rfl, rfl⟩
          | false =>
            replace h := cnd_f h; cbv
            revert h; refine zb hJ fun v30 h => ?_; cbv
            cases h; exact ⟨⟨(M17, _), hr15⟩, [(0, 0), (1, 1)], 2, [], rfl, Nat.lt_succ_self _⟩
        | false =>
          replace h := cnd_f h; cbv
          cases h; have h := hq13; obtain rfl := hr15; try dsimp only at h
          exact ⟨⟨_, h⟩, [], 0, [], rfl, trivial⟩
    · rintro ⟨_, h⟩ -; rw [hj8] at h; try dsimp only at h ⊢
      cbv
      cases h
      exact ⟨_, .refl _, [], _, _, [], _, rfl, rfl, rfl, rfl, rfl, rfl⟩
end Go.AX
