/- What functions of the program compute: each is what its Lean function says. -/
import Derived.Test.YtgphlcbjgcogkaaXS1
import Derived.Test.YtgphlcbjgcogkaaXS10
import Derived.Test.YtgphlcbjgcogkaaXS5
import Derived.Test.YtgphlcbjgcogkaaXS7
namespace Go.AX
open Go.Proofs
set_option linter.unusedVariables false
set_option maxRecDepth 100000
set_option maxHeartbeats 100000000
set_option linter.unusedSimpArgs false
set_option autoImplicit true
set_option relaxedAutoImplicit true
variable {Ze : ZeT} {Zn : ZnT} {Za : ZaT} {Zb : ZbT} {Zm : ZmT}

theorem s11 (hZ : ZS Ze Zn Za Zb Zm)  (h : m_scan_Last x0 x1 = some z0) : Spec Try.prog 11 [.d (.lst (Ze _ eFound x0) (Zn _ x0)), .d (.int .i64 x1)] ⟨.d (.int .i64 z0), [], 0, True⟩ := by
  refine spec_b [] Try.func11 rfl rfl rfl fun J P hJ hP => ?_
  dsimp only [m_scan_Last] at h
  cbv
  obtain ⟨l3, h2, h⟩ := bnd h
  refine call_by hP (s10 hZ h2) hJ rfl rfl ?_; cbv
  revert h; refine zln hJ hZ fun v4 h => ?_; cbv
  revert h; refine zb hJ fun v5 h => ?_; cbv
  cases h
  exact ⟨_, .refl _, [], _, _, [], _, rfl, rfl, rfl, rfl, rfl, rfl⟩
theorem s38 (hZ : ZS Ze Zn Za Zb Zm)  (h : m_ref03_Pages x0 = some z0) : Spec Try.prog 38 [.agg [.d (.int .i64 x0.Conv), .d (.int .i64 x0.Soft), .d (.int .i64 x0.Seq), .d (.int .i64 x0.Size), .d (.int .i64 x0.Open)]] ⟨.d (.int .i64 z0), [], 0, True⟩ := by
  refine spec_b [8] Try.func38 rfl rfl rfl fun J P hJ hP => ?_
  dsimp only [m_ref03_Pages] at h
  cbv
  obtain ⟨j2, hj3, h⟩ := jn h
  refine JoinP.mk {x : Int // j2 x = some z0} (fun x => ⟨[(3, .d (.int .i64 x.1))], [], 0, 12⟩) (fun _ => True) [3] ?_ ?_
  · cbv
    obtain ⟨p5, q4, hp6, hf7, hq8⟩ := bnd_loop h; clear h
    refine LoopB.mk {x : Nat × Int // loopN p5 x.1 x.2 = some q4} (fun x => ⟨[(1, .ptr 0 0), (3, .d (.int .i64 x.1.2))], [(0, .box [.d (.int .i64 x0.Conv), .d (.int .i64 x0.Soft), .d (.int .i64 x0.Seq), .d (.int .i64 x0.Size), .d (.int .i64 x0.Open)])], 1, 12⟩) (fun x => x.1.1) [1, 3] 1 ⟨(FUEL, _), hf7⟩ ⟨[(0, 0)], [], ?_⟩ ?_
    · rfl
    · rintro ⟨⟨N11, v14⟩, hr10⟩; obtain ⟨M12, o9, eN13, h, hr10⟩ := loopN_step hr10; subst eN13; rw [hp6] at h; try dsimp only at h ⊢
      cbv
      revert h; refine zb hJ fun v15 h => ?_; cbv
      obtain ⟨v17, h16, h⟩ := bnd h
      refine call_by hP (s62 hZ h16) hJ rfl rfl ?_; cbv
      revert h; refine zc hJ fun b18 h => ?_; cbv
      cases b18 with
      | true =>
        replace h := cnd_t h; cbv
        revert h; refine zb hJ fun v19 h => ?_; cbv
        cases h; exact ⟨⟨(M12, _), hr10⟩, [(0, 0)], 1, [], rfl, Nat.lt_succ_self _⟩
      | false =>
        replace h := cnd_f h; cbv
        cases h; have h := hq8; obtain rfl := hr10; try dsimp only at h
        exact ⟨⟨_, h⟩, [], 0, [], rfl, trivial⟩
  · rintro ⟨v4, h⟩ -; rw [hj3] at h; try dsimp only at h ⊢
    cbv
    cases h
    exact ⟨_, .refl _, [], _, _, [], _, rfl, rfl, rfl, rfl, rfl, rfl⟩
theorem s60 (hZ : ZS Ze Zn Za Zb Zm)  (h : m_zone_Power x0 = some z0) : Spec Try.prog 60 [.d (.lst (Ze _ eZone x0) (Zn _ x0))] ⟨.own 0 (Zn _ z0) 2, [(0, .row (Ze _ eZone z0) 2 66)], 1, True⟩ := by
  refine spec_b [16] Try.func60 rfl rfl rfl fun J P hJ hP => ?_
  dsimp only [m_zone_Power] at h
  cbv
  obtain ⟨l3, h2, h⟩ := bnd h
  refine call_by hP (s40 hZ h2) hJ rfl rfl ?_; cbv
  obtain ⟨j4, hj5, h⟩ := jn h
  refine JoinP.mk {x : (List TZone) // j4 x = some z0} (fun x => ⟨[(3, .own 0 (Zn _ x.1) 2)], [(0, .row (Ze _ eZone x.1) 2 66)], 1, 24⟩) (fun _ => True) [3] ?_ ?_
  · cbv
    revert h; refine zln hJ hZ fun v6 h => ?_; cbv
    obtain ⟨p8, q7, hp9, hf10, hq11⟩ := bnd_loop h; clear h
    refine LoopB.mk {x : Nat × Int × (List TZone) // loopN p8 x.1 x.2 = some q7} (fun x => ⟨[(3, .own 0 (Zn _ x.1.2.2) 2), (8, .d (.int .i64 v6)), (9, .d (.int .i64 x.1.2.1))], [(0, .row (Ze _ eZone x.1.2.2) 2 66)], 1, 24⟩) (fun x => x.1.1) [3, 8, 9] 1 ⟨(FUEL, _), hf10⟩ ⟨[(2, 0)], [], ?_⟩ ?_
    · rfl
    · rintro ⟨⟨N14, ⟨v17, l18⟩⟩, hr13⟩; obtain ⟨M15, o12, eN16, h, hr13⟩ := loopN_step hr13; subst eN16; rw [hp9] at h; try dsimp only at h ⊢
      cbv
      revert h; refine zc hJ fun b19 h => ?_; cbv
      cases b19 with
      | true =>
        replace h := cnd_t h; cbv
        revert h; refine zpr hJ hZ fun y20 k21 hy22 ho23 h => ?_; cbv
        refine zl hJ hZ eZone_len hy22 ho23 (fun hJ => by subst hJ; rfl) (l_eZone_0_3 hZ _) ?_; cbv
        revert h; refine zc hJ fun b24 h => ?_; cbv
        cases b24 with
        | true =>
          replace h := cnd_t h; cbv
          revert h; refine zpr hJ hZ fun y25 k26 hy27 ho28 h => ?_; cbv
          obtain ⟨l30, h29, h⟩ := bnd h
          obtain ⟨_, h32, h⟩ := bnd h
          refine callM_by hP (s80 hZ hy27 ho28 h29) [(0, 0)] false hJ rfl rfl rfl rfl rfl (.inl rfl) ?_; try rw [hZ.neq h32]; cbv
          revert h; refine zb hJ fun v31 h => ?_; cbv
          cases h; exact ⟨⟨(M15, _), hr13⟩, [(0, 0)], 1, [], rfl, Nat.lt_succ_self _⟩
        | false =>
          replace h := cnd_f h; cbv
          revert h; refine zb hJ fun v25 h => ?_; cbv
          cases h; exact ⟨⟨(M15, _), hr13⟩, [(0, 0)], 1, [], rfl, Nat.lt_succ_self _⟩
      | false =>
        replace h := cnd_f h; cbv
        cases h; have h := hq11; obtain rfl := hr13; try dsimp only at h
        exact ⟨⟨_, h⟩, [(0, 0)], 1, [], rfl, trivial⟩
  · rintro ⟨l6, h⟩ -; rw [hj5] at h; try dsimp only at h ⊢
    cbv
    cases h
    exact ⟨_, .refl _, [], _, _, [(0, 0)], _, rfl, rfl, rfl, rfl, rfl, rfl⟩
end Go.AX
