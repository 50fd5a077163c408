/- What functions of the program compute: each is what its Lean function says. -/
import Derived.Test.YtgphlcbjgcogkaaXM
namespace Go.AX
open Go.Proofs
set_option linter.unusedVariables false
set_option maxRecDepth 100000
set_option maxHeartbeats 100000000
set_option linter.unusedSimpArgs false
set_option autoImplicit true
set_option relaxedAutoImplicit true
variable {Ze : ZeT} {Zn : ZnT} {Za : ZaT} {Zb : ZbT} {Zm : ZmT}

theorem s62 (hZ : ZS Ze Zn Za Zb Zm)  (h : m_ref03_Blocks x0 = some z0) : Spec Try.prog 62 [.agg [.d (.int .i64 x0.Conv), .d (.int .i64 x0.Soft), .d (.int .i64 x0.Seq), .d (.int .i64 x0.Size), .d (.int .i64 x0.Open)]] ⟨.d (.int .i64 z0), [], 0, True⟩ := by
  refine spec_b [12] Try.func62 rfl rfl rfl fun J P hJ hP => ?_
  dsimp only [m_ref03_Blocks] at h
  cbv
  obtain ⟨j2, hj3, h⟩ := jn h
  refine JoinP.mk {x : Int // j2 x = some z0} (fun x => ⟨[(3, .d (.int .i64 x.1))], [], 0, 19⟩) (fun _ => True) [3] ?_ ?_
  · cbv
    obtain ⟨p5, q4, hp6, hf7, hq8⟩ := bnd_loop h; clear h
    refine LoopB.mk {x : Nat × Int × Int // loopN p5 x.1 x.2 = some q4} (fun x => ⟨[(1, .ptr 0 0), (3, .d (.int .i64 x.1.2.1)), (4, .d (.int .i64 x.1.2.2))], [(0, .box [.d (.int .i64 x0.Conv), .d (.int .i64 x0.Soft), .d (.int .i64 x0.Seq), .d (.int .i64 x0.Size), .d (.int .i64 x0.Open)])], 1, 19⟩) (fun x => x.1.1) [1, 3, 4] 1 ⟨(FUEL, _), hf7⟩ ⟨[(0, 0)], [], ?_⟩ ?_
    · rfl
    · rintro ⟨⟨N11, ⟨v14, v15⟩⟩, hr10⟩; obtain ⟨M12, o9, eN13, h, hr10⟩ := loopN_step hr10; subst eN13; rw [hp6] at h; try dsimp only at h ⊢
      cbv
      revert h; refine zc hJ fun b16 h => ?_; cbv
      cases b16 with
      | true =>
        replace h := cnd_t h; cbv
        revert h; refine zq hJ fun v17 h => ?_; cbv
        revert h; refine zb hJ fun v18 h => ?_; cbv
        revert h; refine zb hJ fun v19 h => ?_; cbv
        cases h; exact ⟨⟨(M12, _), hr10⟩, [(0, 0)], 1, [], rfl, Nat.lt_succ_self _⟩
      | false =>
        replace h := cnd_f h; cbv
        cases h; have h := hq8; obtain rfl := hr10; try dsimp only at h
        exact ⟨⟨_, h⟩, [], 0, [], rfl, trivial⟩
  · rintro ⟨v4, h⟩ -; rw [hj3] at h; try dsimp only at h ⊢
    cbv
    revert h; refine zc hJ fun b5 h => ?_; cbv
    cases b5 with
    | true =>
      replace h := cnd_t h; cbv
      cases h
      exact ⟨_, .refl _, [], _, _, [], _, rfl, rfl, rfl, rfl, rfl, rfl⟩
    | false =>
      replace h := cnd_f h; cbv
      cases h
      exact ⟨_, .refl _, [], _, _, [], _, rfl, rfl, rfl, rfl, rfl, rfl⟩
theorem s58 (hZ : ZS Ze Zn Za Zb Zm)  (h : m_ref06_high x0 x1 x2 = some z0) : Spec Try.prog 58 [.agg [.big 64 (Za .u8 _ x0)], .d (.int .i64 x1), .d (.int .i64 x2)] ⟨.d (.int .i64 z0), [], 0, True⟩ := by
  refine spec_b [16] Try.func58 rfl rfl rfl fun J P hJ hP => ?_
  dsimp only [m_ref06_high] at h
  cbv
  obtain ⟨j2, hj3, h⟩ := jn h
  refine JoinP.mk {x : Int // j2 x = some z0} (fun x => ⟨[(7, .d (.int .i64 x.1))], [], 0, 28⟩) (fun _ => True) [7] ?_ ?_
  · cbv
    revert h; refine zb hJ fun v4 h => ?_; cbv
    revert h; refine zb hJ fun v5 h => ?_; cbv
    obtain ⟨p7, q6, hp8, hf9, hq10⟩ := bnd_loop h; clear h
    refine LoopB.mk {x : Nat × Int × Int // loopN p7 x.1 x.2 = some q6} (fun x => ⟨[(1, .d (.int .i64 x1)), (3, .ptr 0 0), (7, .d (.int .i64 x.1.2.1)), (8, .d (.int .i64 x.1.2.2))], [(0, .box [.big 64 (Za .u8 _ x0)])], 1, 28⟩) (fun x => x.1.1) [1, 3, 7, 8] 1 ⟨(FUEL, _), hf9⟩ ⟨[(0, 0)], [], ?_⟩ ?_
    · rfl
    · rintro ⟨⟨N13, ⟨v16, v17⟩⟩, hr12⟩; obtain ⟨M14, o11, eN15, h, hr12⟩ := loopN_step hr12; subst eN15; rw [hp8] at h; try dsimp only at h ⊢
      cbv
      revert h; refine zc hJ fun b18 h => ?_; cbv
      cases b18 with
      | true =>
        replace h := cnd_t h; cbv
        revert h; refine zb hJ fun v19 h => ?_; cbv
        revert h; refine zpx hJ fun v20 k21 hy22 ho23 h => ?_; cbv
        refine zlA hJ hZ hy22 ho23 (fun hJ => by subst hJ; simp [stdJ, std]) ?_; cbv
        revert h; refine zw hJ fun v24 h => ?_; cbv
        revert h; refine zb hJ fun v25 h => ?_; cbv
        revert h; refine zc hJ fun b26 h => ?_; cbv
        cases b26 with
        | true =>
          replace h := cnd_t h; cbv
          cases h; have h := hq10; obtain rfl := hr12; try dsimp only at h
          cases h
          exact ⟨_, .refl _, [], _, _, [], _, rfl, rfl, rfl, rfl, rfl, rfl⟩
        | false =>
          replace h := cnd_f h; cbv
          revert h; refine zb hJ fun v27 h => ?_; cbv
          cases h; exact ⟨⟨(M14, _), hr12⟩, [(0, 0)], 1, [], rfl, Nat.lt_succ_self _⟩
      | false =>
        replace h := cnd_f h; cbv
        cases h; have h := hq10; obtain rfl := hr12; try dsimp only at h
        exact ⟨⟨_, h⟩, [], 0, [], rfl, trivial⟩
  · rintro ⟨v4, h⟩ -; rw [hj3] at h; try dsimp only at h ⊢
    cbv
    cases h
    exact ⟨_, .refl _, [], _, _, [], _, rfl, rfl, rfl, rfl, rfl, rfl⟩
end Go.AX
