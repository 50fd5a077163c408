/- What functions of the program compute: each is what its Lean function says. -/
import Derived.Test.YtgphlcbjgcogkaaXM
namespace Go.AX
open Go.Proofs
set_option linter.unusedVariables false
set_option maxRecDepth 100000
set_option maxHeartbeats 100000000
set_option linter.unusedSimpArgs false
set_option autoImplicit true
set_option relaxedAutoImplicit true
variable {Ze : ZeT} {Zn : ZnT} {Za : ZaT} {Zb : ZbT} {Zm : ZmT}

theorem s30 (hZ : ZS Ze Zn Za Zb Zm)  (h : m_cmp_Or x0 = some z0) : Spec Try.prog 30 [.d (.lst (Ze _ (eI .i64) x0) (Zn _ x0))] ⟨.d (.int .i64 z0), [], 0, True⟩ := by
  refine spec_b [16] Try.func30 rfl rfl rfl fun J P hJ hP => ?_
  dsimp only [m_cmp_Or] at h
  cbv
  obtain ⟨j2, hj3, h⟩ := jn h
  refine JoinP.mk {x : Unit // j2 x = some z0} (fun x => ⟨[(3, .d (.int .i64 0))], [], 0, 18⟩) (fun _ => True) [3] ?_ ?_
  · cbv
    revert h; refine zln hJ hZ fun v4 h => ?_; cbv
    obtain ⟨p6, q5, hp7, hf8, hq9⟩ := bnd_loop h; clear h
    refine LoopB.mk {x : Nat × Int // loopN p6 x.1 x.2 = some q5} (fun x => ⟨[(3, .d (.int .i64 0)), (6, .d (.lst (Ze _ (eI .i64) x0) (Zn _ x0))), (7, .d (.int .i64 v4)), (8, .d (.int .i64 x.1.2))], [], 0, 18⟩) (fun x => x.1.1) [3, 6, 7, 8] 0 ⟨(FUEL, _), hf8⟩ ⟨[], [], ?_⟩ ?_
    · rfl
    · rintro ⟨⟨N12, v15⟩, hr11⟩; obtain ⟨M13, o10, eN14, h, hr11⟩ := loopN_step hr11; subst eN14; rw [hp7] at h; try dsimp only at h ⊢
      cbv
      revert h; refine zc hJ fun b16 h => ?_; cbv
      cases b16 with
      | true =>
        replace h := cnd_t h; cbv
        revert h; refine zlp hJ hZ fun y17 k18 hy19 ho20 h => ?_; cbv
        refine zl hJ hZ (eI_len .i64) hy19 ho20 (fun hJ => by subst hJ; rfl) (LdW.lds (eI_len .i64) (wI .i64 _)) ?_; cbv
        revert h; refine zc hJ fun b21 h => ?_; cbv
        cases b21 with
        | true =>
          replace h := cnd_t h; cbv
          cases h; have h := hq9; obtain rfl := hr11; try dsimp only at h
          cases h
          exact ⟨_, .refl _, [], _, _, [], _, rfl, rfl, rfl, rfl, rfl, rfl⟩
        | false =>
          replace h := cnd_f h; cbv
          revert h; refine zb hJ fun v22 h => ?_; cbv
          cases h; exact ⟨⟨(M13, _), hr11⟩, [], 0, [], rfl, Nat.lt_succ_self _⟩
      | false =>
        replace h := cnd_f h; cbv
        cases h; have h := hq9; obtain rfl := hr11; try dsimp only at h
        exact ⟨⟨_, h⟩, [], 0, [], rfl, trivial⟩
  · rintro ⟨_, h⟩ -; rw [hj3] at h; try dsimp only at h ⊢
    cbv
    cases h
    exact ⟨_, .refl _, [], _, _, [], _, rfl, rfl, rfl, rfl, rfl, rfl⟩
theorem s56 (hZ : ZS Ze Zn Za Zb Zm)  (h : m___dev_Device__Down o0 = some z0) : SpecM Try.prog 56 6 [(0, .box [.d (.int .i64 o0.g.Conv), .d (.int .i64 o0.g.Soft), .d (.int .i64 o0.g.Seq), .d (.int .i64 o0.g.Size), .d (.int .i64 o0.g.Open), .own 1 (Zn _ o0.zones) 2, .map 2, .map 3, .map 4, .own 5 (Zn _ o0.cached) 66, .d (.int .i64 o0.left_), .d (.bool o0.down), .d (.int .i64 o0.illegal)]), (1, .row (Ze _ eZone o0.zones) 2 66), (2, .mp false false (Zm _ _ (eI .i64) eB o0.finished)), (3, .mp true true (Zm _ _ eAt (eA (n := 64) .u8) o0.safe)), (4, .mp true true (Zm _ _ eAt (eA (n := 64) .u8) o0.now)), (5, .row (Ze _ eDev_write o0.cached) 66 88)] [.ptr 0 0] ⟨.d (.bool z0), [(0, .box [.d (.int .i64 o0.g.Conv), .d (.int .i64 o0.g.Soft), .d (.int .i64 o0.g.Seq), .d (.int .i64 o0.g.Size), .d (.int .i64 o0.g.Open), .own 1 (Zn _ o0.zones) 2, .map 2, .map 3, .map 4, .own 5 (Zn _ o0.cached) 66, .d (.int .i64 o0.left_), .d (.bool o0.down), .d (.int .i64 o0.illegal)]), (1, .row (Ze _ eZone o0.zones) 2 66), (2, .mp false false (Zm _ _ (eI .i64) eB o0.finished)), (3, .mp true true (Zm _ _ eAt (eA (n := 64) .u8) o0.safe)), (4, .mp true true (Zm _ _ eAt (eA (n := 64) .u8) o0.now)), (5, .row (Ze _ eDev_write o0.cached) 66 88)], 0, True⟩ := by
  refine specM_b [] 6 6 Try.func56 rfl rfl rfl rfl rfl rfl fun J P hJ hP => ?_
  dsimp only [m___dev_Device__Down] at h
  cbv
  cases h
  exact ⟨_, .refl _, [], _, _, [(0, 0), (1, 1), (2, 2), (3, 3), (4, 4), (5, 5)], _, rfl, rfl, rfl, rfl, rfl, rfl⟩
theorem s10 (hZ : ZS Ze Zn Za Zb Zm)  (h : m_scan_Chain x0 x1 = some z0) : Spec Try.prog 10 [.d (.lst (Ze _ eFound x0) (Zn _ x0)), .d (.int .i64 x1)] ⟨.own 0 (Zn _ z0) 38, [(0, .row (Ze _ eFound z0) 38 33)], 1, True⟩ := by
  refine spec_b [18] Try.func10 rfl rfl rfl fun J P hJ hP => ?_
  dsimp only [m_scan_Chain] at h
  cbv
  obtain ⟨z32u8, ez32u8, h⟩ := letv h; have rz32u8 := zrep hJ hZ 32 .u8 ez32u8
  obtain ⟨j2, hj3, h⟩ := jn h
  refine JoinP.mk {x : (List TFound) // j2 x = some z0} (fun x => ⟨[(5, .own 0 (Zn _ x.1) 38)], [(0, .row (Ze _ eFound x.1) 38 33)], 1, 28⟩) (fun _ => True) [5] ?_ ?_
  · cbv
    revert h; refine zln hJ hZ fun v4 h => ?_; cbv
    obtain ⟨p6, q5, hp7, hf8, hq9⟩ := bnd_loop h; clear h
    refine LoopB.mk {x : Nat × Int × Int × (List TFound) // loopN p6 x.1 x.2 = some q5} (fun x => ⟨[(1, .d (.int .i64 x.1.2.1)), (5, .own 0 (Zn _ x.1.2.2.2) 38), (8, .d (.lst (Ze _ eFound x0) (Zn _ x0))), (9, .d (.int .i64 v4)), (10, .d (.int .i64 x.1.2.2.1))], [(0, .row (Ze _ eFound x.1.2.2.2) 38 33)], 1, 28⟩) (fun x => x.1.1) [1, 5, 8, 9, 10] 0 ⟨(FUEL, _), hf8⟩ ⟨[], [.slot 5 0 38 33], ?_⟩ ?_
    · simp only [hZ.e0, hZ.n0]; rfl
    · rintro ⟨⟨N12, ⟨v15, v16, l17⟩⟩, hr11⟩; obtain ⟨M13, o10, eN14, h, hr11⟩ := loopN_step hr11; subst eN14; rw [hp7] at h; try dsimp only at h ⊢
      cbv
      revert h; refine zc hJ fun b18 h => ?_; cbv
      cases b18 with
      | true =>
        replace h := cnd_t h; cbv
        revert h; refine zlp hJ hZ fun y19 k20 hy21 ho22 h => ?_; cbv
        refine zl hJ hZ eFound_len hy21 ho22 (fun hJ => by subst hJ; rfl) (LdW.lds eFound_len (w_eFound hZ _)) ?_; cbv
        try rw [rz32u8]
        revert h; refine zb hJ fun v23 h => ?_; cbv
        revert h; refine zc hJ fun b24 h => ?_; cbv
        cases b24 with
        | true =>
          replace h := cnd_t h; cbv
          refine zbs hJ hZ (show IsL eFound _ _ [y19] from ⟨by obtain ⟨rfl, rfl, rfl, rfl, rfl⟩ := hZ; subst hJ; simp [stdJ, std, encL, eFound, eI], rfl⟩) (by subst hJ; exact (by decide : 38 ≤ 16777216)) ?_; cbv
          revert h; refine zap hJ hZ eFound_len fun l25 h => ?_; cbv
          revert h; refine zb hJ fun v26 h => ?_; cbv
          revert h; refine zb hJ fun v27 h => ?_; cbv
          cases h; exact ⟨⟨(M13, _), hr11⟩, [(17, 0)], 1, [], rfl, Nat.lt_succ_self _⟩
        | false =>
          replace h := cnd_f h; cbv
          revert h; refine zb hJ fun v25 h => ?_; cbv
          cases h; exact ⟨⟨(M13, _), hr11⟩, [(0, 0)], 1, [], rfl, Nat.lt_succ_self _⟩
      | false =>
        replace h := cnd_f h; cbv
        cases h; have h := hq9; obtain rfl := hr11; try dsimp only at h
        exact ⟨⟨_, h⟩, [(0, 0)], 1, [], rfl, trivial⟩
  · rintro ⟨l4, h⟩ -; rw [hj3] at h; try dsimp only at h ⊢
    cbv
    cases h
    exact ⟨_, .refl _, [], _, _, [(0, 0)], _, rfl, rfl, rfl, rfl, rfl, rfl⟩
end Go.AX
