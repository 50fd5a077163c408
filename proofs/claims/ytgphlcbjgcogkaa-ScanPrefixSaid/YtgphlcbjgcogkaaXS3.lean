/- What functions of the program compute: each is what its Lean function says. -/
import Derived.Test.YtgphlcbjgcogkaaXM
namespace Go.AX
open Go.Proofs
set_option linter.unusedVariables false
set_option maxRecDepth 100000
set_option maxHeartbeats 100000000
set_option linter.unusedSimpArgs false
set_option autoImplicit true
set_option relaxedAutoImplicit true
variable {Ze : ZeT} {Zn : ZnT} {Za : ZaT} {Zb : ZbT} {Zm : ZmT}

theorem s84 (hZ : ZS Ze Zn Za Zb Zm)  (h : m_crc_More x0 x1 = some z0) : Spec Try.prog 84 [.d (.int .u32 x0), .d (.lst (Ze _ (eI .u8) x1) (Zn _ x1))] ⟨.d (.int .u32 z0), [], 0, True⟩ := by
  refine spec_b [28, 26] Try.func84 rfl rfl rfl fun J P hJ hP => ?_
  dsimp only [m_crc_More] at h
  cbv
  revert h; refine zb hJ fun v2 h => ?_; cbv
  obtain ⟨j3, hj4, h⟩ := jn h
  refine JoinP.mk {x : Int // j3 x = some z0} (fun x => ⟨[(5, .d (.int .u32 x.1))], [], 0, 35⟩) (fun _ => True) [5] ?_ ?_
  · cbv
    revert h; refine zln hJ hZ fun v5 h => ?_; cbv
    obtain ⟨p7, q6, hp8, hf9, hq10⟩ := bnd_loop h; clear h
    refine LoopB.mk {x : Nat × Int × Int // loopN p7 x.1 x.2 = some q6} (fun x => ⟨[(5, .d (.int .u32 x.1.2.1)), (11, .d (.lst (Ze _ (eI .u8) x1) (Zn _ x1))), (12, .d (.int .i64 v5)), (13, .d (.int .i64 x.1.2.2))], [], 0, 35⟩) (fun x => x.1.1) [5, 11, 12, 13] 0 ⟨(FUEL, _), hf9⟩ ⟨[], [], ?_⟩ ?_
    · rfl
    · rintro ⟨⟨N13, ⟨v16, v17⟩⟩, hr12⟩; obtain ⟨M14, o11, eN15, h, hr12⟩ := loopN_step hr12; subst eN15; rw [hp8] at h; try dsimp only at h ⊢
      cbv
      revert h; refine zc hJ fun b18 h => ?_; cbv
      cases b18 with
      | true =>
        replace h := cnd_t h; cbv
        obtain ⟨j19, hj20, h⟩ := jn h
        refine JoinP.mk {x : Int // j19 x = some o11} (fun x => ⟨[(5, .d (.int .u32 x.1)), (11, .d (.lst (Ze _ (eI .u8) x1) (Zn _ x1))), (12, .d (.int .i64 v5)), (13, .d (.int .i64 v17))], [], 0, 35⟩) (fun _ => True) [5, 11, 12, 13] ?_ ?_
        · cbv
          revert h; refine zlp hJ hZ fun y21 k22 hy23 ho24 h => ?_; cbv
          refine zl hJ hZ (eI_len .u8) hy23 ho24 (fun hJ => by subst hJ; rfl) (LdW.lds (eI_len .u8) (wI .u8 _)) ?_; cbv
          revert h; refine zw hJ fun v25 h => ?_; cbv
          revert h; refine zb hJ fun v26 h => ?_; cbv
          obtain ⟨p28, q27, hp29, hf30, hq31⟩ := bnd_loop h; clear h
          refine LoopB.mk {x : Nat × Int × Int // loopN p28 x.1 x.2 = some q27} (fun x => ⟨[(5, .d (.int .u32 x.1.2.1)), (11, .d (.lst (Ze _ (eI .u8) x1) (Zn _ x1))), (12, .d (.int .i64 v5)), (13, .d (.int .i64 v17)), (21, .d (.int .i64 x.1.2.2))], [], 0, 35⟩) (fun x => x.1.1) [5, 11, 12, 13, 21] 0 ⟨(FUEL, _), hf30⟩ ⟨[], [], ?_⟩ ?_
          · rfl
          · rintro ⟨⟨N34, ⟨v37, v38⟩⟩, hr33⟩; obtain ⟨M35, o32, eN36, h, hr33⟩ := loopN_step hr33; subst eN36; rw [hp29] at h; try dsimp only at h ⊢
            cbv
            revert h; refine zc hJ fun b39 h => ?_; cbv
            cases b39 with
            | true =>
              replace h := cnd_t h; cbv
              revert h; refine zb hJ fun v40 h => ?_; cbv
              revert h; refine zsh hJ fun v41 h => ?_; cbv
              revert h; refine zc hJ fun b42 h => ?_; cbv
              cases b42 with
              | true =>
                replace h := cnd_t h; cbv
                revert h; refine zb hJ fun v43 h => ?_; cbv
                revert h; refine zb hJ fun v44 h => ?_; cbv
                cases h; exact ⟨⟨(M35, _), hr33⟩, [], 0, [], rfl, Nat.lt_succ_self _⟩
              | false =>
                replace h := cnd_f h; cbv
                revert h; refine zb hJ fun v43 h => ?_; cbv
                cases h; exact ⟨⟨(M35, _), hr33⟩, [], 0, [], rfl, Nat.lt_succ_self _⟩
            | false =>
              replace h := cnd_f h; cbv
              cases h; have h := hq31; obtain rfl := hr33; try dsimp only at h
              exact ⟨⟨_, h⟩, [], 0, [], rfl, trivial⟩
        · rintro ⟨v21, h⟩ -; rw [hj20] at h; try dsimp only at h ⊢
          cbv
          revert h; refine zb hJ fun v22 h => ?_; cbv
          cases h; exact ⟨⟨(M14, _), hr12⟩, [], 0, [], rfl, Nat.lt_succ_self _⟩
      | false =>
        replace h := cnd_f h; cbv
        cases h; have h := hq10; obtain rfl := hr12; try dsimp only at h
        exact ⟨⟨_, h⟩, [], 0, [], rfl, trivial⟩
  · rintro ⟨v5, h⟩ -; rw [hj4] at h; try dsimp only at h ⊢
    cbv
    revert h; refine zb hJ fun v6 h => ?_; cbv
    cases h
    exact ⟨_, .refl _, [], _, _, [], _, rfl, rfl, rfl, rfl, rfl, rfl⟩
theorem s85 (hZ : ZS Ze Zn Za Zb Zm)  (h : m_word_fits x0 x1 x2 = some z0) : Spec Try.prog 85 [.d (.lst (Ze _ (eI .u8) x0) (Zn _ x0)), .d (.int .i64 x1), .d (.int .i64 x2)] ⟨.d (.bool z0), [], 0, True⟩ := by
  refine spec_b [] Try.func85 rfl rfl rfl fun J P hJ hP => ?_
  dsimp only [m_word_fits] at h
  cbv
  revert h; refine zc hJ fun b2 h => ?_; cbv
  cases b2 with
  | true =>
    replace h := cnd_t h; cbv
    revert h; refine zc hJ fun b3 h => ?_; cbv
    cases b3 with
    | true =>
      replace h := cnd_t h; cbv
      revert h; refine zc hJ fun b4 h => ?_; cbv
      cases b4 with
      | true =>
        replace h := cnd_t h; cbv
        revert h; refine zln hJ hZ fun v5 h => ?_; cbv
        revert h; refine zb hJ fun v6 h => ?_; cbv
        revert h; refine zc hJ fun b7 h => ?_; cbv
        cases h
        exact ⟨_, .refl _, [], _, _, [], _, rfl, rfl, rfl, rfl, rfl, rfl⟩
      | false =>
        replace h := cnd_f h; cbv
        cases h
        exact ⟨_, .refl _, [], _, _, [], _, rfl, rfl, rfl, rfl, rfl, rfl⟩
    | false =>
      replace h := cnd_f h; cbv
      cases h
      exact ⟨_, .refl _, [], _, _, [], _, rfl, rfl, rfl, rfl, rfl, rfl⟩
  | false =>
    replace h := cnd_f h; cbv
    cases h
    exact ⟨_, .refl _, [], _, _, [], _, rfl, rfl, rfl, rfl, rfl, rfl⟩
end Go.AX
