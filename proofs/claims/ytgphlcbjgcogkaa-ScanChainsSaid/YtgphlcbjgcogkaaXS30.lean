/- What functions of the program compute: each is what its Lean function says. -/
import Derived.Test.YtgphlcbjgcogkaaXS15
import Derived.Test.YtgphlcbjgcogkaaXS29
import Derived.Test.YtgphlcbjgcogkaaXS5
import Derived.Test.YtgphlcbjgcogkaaXS6
namespace Go.AX
open Go.Proofs
set_option linter.unusedVariables false
set_option maxRecDepth 100000
set_option maxHeartbeats 100000000
set_option linter.unusedSimpArgs false
set_option autoImplicit true
set_option relaxedAutoImplicit true
variable {Ze : ZeT} {Zn : ZnT} {Za : ZaT} {Zb : ZbT} {Zm : ZmT}

theorem s3 (hZ : ZS Ze Zn Za Zb Zm)  (h : m_law14_ScanChains x0 x1 = some z0) : Spec Try.prog 3 [.d (.lst (Ze _ eFound x0) (Zn _ x0)), .d (.int .i64 x1)] ⟨.d (.bool z0), [], 0, True⟩ := by
  refine spec_b [6, 4] Try.func3 rfl rfl rfl fun J P hJ hP => ?_
  dsimp only [m_law14_ScanChains] at h
  cbv
  obtain ⟨j2, hj3, h⟩ := jn h
  refine JoinP.mk {x : Unit // j2 x = some z0} (fun x => ⟨[(0, .d (.lst (Ze _ eFound x0) (Zn _ x0))), (1, .d (.int .i64 x1))], [], 0, 40⟩) (fun _ => True) [0, 1] ?_ ?_
  · cbv
    obtain ⟨j4, hj5, h⟩ := jn h
    refine JoinP.mk {x : Bool // j4 x = some z0} (fun x => ⟨[(0, .d (.lst (Ze _ eFound x0) (Zn _ x0))), (1, .d (.int .i64 x1)), (20, .d (.bool x.1))], [], 0, 40⟩) (fun _ => True) [0, 1, 20] ?_ ?_
    · cbv
      obtain ⟨b7, h6, h⟩ := bnd h
      refine call_by hP (s7 hZ h6) hJ rfl rfl ?_; cbv
      revert h; refine st_not hJ fun b8 _ h => ?_; cbv
      cases b8 with
      | true =>
        replace h := cnd_t h; cbv
        exact ⟨⟨_, h⟩, [], 0, [], rfl, trivial⟩
      | false =>
        replace h := cnd_f h; cbv
        revert h; refine zln hJ hZ fun v9 h => ?_; cbv
        revert h; refine zc hJ fun b10 h => ?_; cbv
        cases b10 with
        | true =>
          replace h := cnd_t h; cbv
          exact ⟨⟨_, h⟩, [], 0, [], rfl, trivial⟩
        | false =>
          replace h := cnd_f h; cbv
          revert h; refine zc hJ fun b11 h => ?_; cbv
          cases b11 with
          | true =>
            replace h := cnd_t h; cbv
            exact ⟨⟨_, h⟩, [], 0, [], rfl, trivial⟩
          | false =>
            replace h := cnd_f h; cbv
            revert h; refine zc hJ fun b12 h => ?_; cbv
            exact ⟨⟨_, h⟩, [], 0, [], rfl, trivial⟩
    · rintro ⟨b6, h⟩ -; rw [hj5] at h; try dsimp only at h ⊢
      cbv
      cases b6 with
      | true =>
        replace h := cnd_t h; cbv
        obtain ⟨b8, h7, h⟩ := bnd h
        refine call_by hP (s7 hZ h7) hJ rfl rfl ?_; cbv
        cases h
        exact ⟨_, .refl _, [], _, _, [], _, rfl, rfl, rfl, rfl, rfl, rfl⟩
      | false =>
        replace h := cnd_f h; cbv
        exact ⟨⟨_, h⟩, [], 0, [], rfl, trivial⟩
  · rintro ⟨_, h⟩ -; rw [hj3] at h; try dsimp only at h ⊢
    cbv
    obtain ⟨l5, h4, h⟩ := bnd h
    refine call_by hP (s8 hZ h4) hJ rfl rfl ?_; cbv
    obtain ⟨l7, h6, h⟩ := bnd h
    refine call_by hP (s10 hZ h6) hJ rfl rfl ?_; cbv
    obtain ⟨b9, h8, h⟩ := bnd h
    refine snap_by hP (s9 hZ h8) hJ (by cbv) rfl ⟨trivial, trivial⟩ ?_; cbv
    cases b9 with
    | true =>
      replace h := cnd_t h; cbv
      obtain ⟨v11, h10, h⟩ := bnd h
      refine call_by hP (s11 hZ h10) hJ rfl rfl ?_; cbv
      revert h; refine zln hJ hZ fun v12 h => ?_; cbv
      revert h; refine zb hJ fun v13 h => ?_; cbv
      revert h; refine zc hJ fun b14 h => ?_; cbv
      cases h
      exact ⟨_, .refl _, [], _, _, [], _, rfl, rfl, rfl, rfl, rfl, rfl⟩
    | false =>
      replace h := cnd_f h; cbv
      cases h
      exact ⟨_, .refl _, [], _, _, [], _, rfl, rfl, rfl, rfl, rfl, rfl⟩
theorem s4 (hZ : ZS Ze Zn Za Zb Zm)  (h : m_law14_ScanTwice x0 x1 = some z0) : Spec Try.prog 4 [.d (.lst (Ze _ eFound x0) (Zn _ x0)), .d (.int .i64 x1)] ⟨.d (.bool z0), [], 0, True⟩ := by
  refine spec_b [6, 4, 18] Try.func4 rfl rfl rfl fun J P hJ hP => ?_
  dsimp only [m_law14_ScanTwice] at h
  cbv
  obtain ⟨j2, hj3, h⟩ := jn h
  refine JoinP.mk {x : Unit // j2 x = some z0} (fun x => ⟨[(0, .d (.lst (Ze _ eFound x0) (Zn _ x0))), (1, .d (.int .i64 x1))], [], 0, 67⟩) (fun _ => True) [0, 1] ?_ ?_
  · cbv
    obtain ⟨j4, hj5, h⟩ := jn h
    refine JoinP.mk {x : Bool // j4 x = some z0} (fun x => ⟨[(0, .d (.lst (Ze _ eFound x0) (Zn _ x0))), (1, .d (.int .i64 x1)), (22, .d (.bool x.1))], [], 0, 67⟩) (fun _ => True) [0, 1, 22] ?_ ?_
    · cbv
      obtain ⟨b7, h6, h⟩ := bnd h
      refine call_by hP (s7 hZ h6) hJ rfl rfl ?_; cbv
      revert h; refine st_not hJ fun b8 _ h => ?_; cbv
      cases b8 with
      | true =>
        replace h := cnd_t h; cbv
        exact ⟨⟨_, h⟩, [], 0, [], rfl, trivial⟩
      | false =>
        replace h := cnd_f h; cbv
        revert h; refine zln hJ hZ fun v9 h => ?_; cbv
        revert h; refine zc hJ fun b10 h => ?_; cbv
        cases b10 with
        | true =>
          replace h := cnd_t h; cbv
          exact ⟨⟨_, h⟩, [], 0, [], rfl, trivial⟩
        | false =>
          replace h := cnd_f h; cbv
          revert h; refine zc hJ fun b11 h => ?_; cbv
          cases b11 with
          | true =>
            replace h := cnd_t h; cbv
            exact ⟨⟨_, h⟩, [], 0, [], rfl, trivial⟩
          | false =>
            replace h := cnd_f h; cbv
            revert h; refine zc hJ fun b12 h => ?_; cbv
            exact ⟨⟨_, h⟩, [], 0, [], rfl, trivial⟩
    · rintro ⟨b6, h⟩ -; rw [hj5] at h; try dsimp only at h ⊢
      cbv
      cases b6 with
      | true =>
        replace h := cnd_t h; cbv
        obtain ⟨b8, h7, h⟩ := bnd h
        refine call_by hP (s7 hZ h7) hJ rfl rfl ?_; cbv
        cases h
        exact ⟨_, .refl _, [], _, _, [], _, rfl, rfl, rfl, rfl, rfl, rfl⟩
      | false =>
        replace h := cnd_f h; cbv
        exact ⟨⟨_, h⟩, [], 0, [], rfl, trivial⟩
  · rintro ⟨_, h⟩ -; rw [hj3] at h; try dsimp only at h ⊢
    cbv
    obtain ⟨l5, h4, h⟩ := bnd h
    refine call_by hP (s10 hZ h4) hJ rfl rfl ?_; cbv
    obtain ⟨j6, hj7, h⟩ := jn h
    refine JoinP.mk {x : Unit // j6 x = some z0} (fun x => ⟨[(0, .d (.lst (Ze _ eFound x0) (Zn _ x0))), (1, .d (.int .i64 x1)), (5, .own 0 (Zn _ l5) 38)], [(0, .row (Ze _ eFound l5) 38 33)], 1, 67⟩) (fun _ => True) [0, 1, 5] ?_ ?_
    · cbv
      obtain ⟨p9, q8, hp10, hf11, hq12⟩ := bnd_loop h; clear h
      refine LoopB.mk {x : Nat × Int // loopN p9 x.1 x.2 = some q8} (fun x => ⟨[(0, .d (.lst (Ze _ eFound x0) (Zn _ x0))), (1, .d (.int .i64 x1)), (5, .own 0 (Zn _ l5) 38), (6, .d (.int .i64 x.1.2))], [(0, .row (Ze _ eFound l5) 38 33)], 1, 67⟩) (fun x => x.1.1) [0, 1, 5, 6] 1 ⟨(FUEL, _), hf11⟩ ⟨[(2, 0)], [], ?_⟩ ?_
      · rfl
      · rintro ⟨⟨N15, v18⟩, hr14⟩; obtain ⟨M16, o13, eN17, h, hr14⟩ := loopN_step hr14; subst eN17; rw [hp10] at h; try dsimp only at h ⊢
        cbv
        revert h; refine zln hJ hZ fun v19 h => ?_; cbv
        revert h; refine zc hJ fun b20 h => ?_; cbv
        cases b20 with
        | true =>
          replace h := cnd_t h; cbv
          revert h; refine zpr hJ hZ fun y21 k22 hy23 ho24 h => ?_; cbv
          refine zl hJ hZ eFound_len hy23 ho24 (fun hJ => by subst hJ; rfl) (l_eFound_3_3 hZ _) ?_; cbv
          revert h; refine zb hJ fun v25 h => ?_; cbv
          revert h; refine zb hJ fun v26 h => ?_; cbv
          revert h; refine zc hJ fun b27 h => ?_; cbv
          cases b27 with
          | true =>
            replace h := cnd_t h; cbv
            cases h; have h := hq12; obtain rfl := hr14; try dsimp only at h
            cases h
            exact ⟨_, .refl _, [], _, _, [], _, rfl, rfl, rfl, rfl, rfl, rfl⟩
          | false =>
            replace h := cnd_f h; cbv
            revert h; refine zb hJ fun v28 h => ?_; cbv
            cases h; exact ⟨⟨(M16, _), hr14⟩, [(0, 0)], 1, [], rfl, Nat.lt_succ_self _⟩
        | false =>
          replace h := cnd_f h; cbv
          cases h; have h := hq12; obtain rfl := hr14; try dsimp only at h
          exact ⟨⟨_, h⟩, [(0, 0)], 1, [], rfl, trivial⟩
    · rintro ⟨_, h⟩ -; rw [hj7] at h; try dsimp only at h ⊢
      cbv
      obtain ⟨v9, h8, h⟩ := bnd h
      refine call_by hP (s11 hZ h8) hJ rfl rfl ?_; cbv
      obtain ⟨l11, h10, h⟩ := bnd h
      refine snap_by hP (s10 hZ h10) hJ (by cbv) rfl ⟨trivial, ⟨noL_enc (isL hZ eFound l11) eFound_noL, trivial⟩⟩ ?_; cbv
      obtain ⟨b13, h12, h⟩ := bnd h
      refine snap_by hP (s9 hZ h12) hJ (by cbv) rfl ⟨trivial, trivial⟩ ?_; cbv
      cases b13 with
      | true =>
        replace h := cnd_t h; cbv
        revert h; refine zln hJ hZ fun v14 h => ?_; cbv
        revert h; refine zb hJ fun v15 h => ?_; cbv
        revert h; refine zc hJ fun b16 h => ?_; cbv
        cases b16 with
        | true =>
          replace h := cnd_t h; cbv
          obtain ⟨l18, h17, h⟩ := bnd h
          refine snap_by hP (s10 hZ h17) hJ (by cbv) rfl ⟨trivial, ⟨noL_enc (isL hZ eFound l18) eFound_noL, trivial⟩⟩ ?_; cbv
          revert h; refine zln hJ hZ fun v19 h => ?_; cbv
          revert h; refine zc hJ fun b20 h => ?_; cbv
          cases h
          exact ⟨_, .refl _, [], _, _, [], _, rfl, rfl, rfl, rfl, rfl, rfl⟩
        | false =>
          replace h := cnd_f h; cbv
          cases h
          exact ⟨_, .refl _, [], _, _, [], _, rfl, rfl, rfl, rfl, rfl, rfl⟩
      | false =>
        replace h := cnd_f h; cbv
        cases h
        exact ⟨_, .refl _, [], _, _, [], _, rfl, rfl, rfl, rfl, rfl, rfl⟩
end Go.AX
