/- What functions of the program compute: each is what its Lean function says. -/
import Derived.Test.YtgphlcbjgcogkaaXM
namespace Go.AX
open Go.Proofs
set_option linter.unusedVariables false
set_option maxRecDepth 100000
set_option maxHeartbeats 100000000
set_option linter.unusedSimpArgs false
set_option autoImplicit true
set_option relaxedAutoImplicit true
variable {Ze : ZeT} {Zn : ZnT} {Za : ZaT} {Zb : ZbT} {Zm : ZmT}

theorem s8 (hZ : ZS Ze Zn Za Zb Zm)  (h : m_ref14_Chain x0 x1 = some z0) : Spec Try.prog 8 [.d (.lst (Ze _ eFound x0) (Zn _ x0)), .d (.int .i64 x1)] ⟨.own 0 (Zn _ z0) 38, [(0, .row (Ze _ eFound z0) 38 33)], 1, True⟩ := by
  refine spec_b [18] Try.func8 rfl rfl rfl fun J P hJ hP => ?_
  dsimp only [m_ref14_Chain] at h
  cbv
  obtain ⟨p3, q2, hp4, hf5, hq6⟩ := bnd_loop h; clear h
  refine LoopB.mk {x : Nat × Int × (List TFound) // loopN p3 x.1 x.2 = some q2} (fun x => ⟨[(0, .d (.lst (Ze _ eFound x0) (Zn _ x0))), (1, .d (.int .i64 x1)), (5, .own 0 (Zn _ x.1.2.2) 38), (6, .d (.int .i64 x.1.2.1))], [(0, .row (Ze _ eFound x.1.2.2) 38 33)], 1, 42⟩) (fun x => x.1.1) [0, 1, 5, 6] 0 ⟨(FUEL, _), hf5⟩ ⟨[], [.slot 5 0 38 33], ?_⟩ ?_
  · simp only [hZ.e0, hZ.n0]; rfl
  · rintro ⟨⟨N9, ⟨v12, l13⟩⟩, hr8⟩; obtain ⟨M10, o7, eN11, h, hr8⟩ := loopN_step hr8; subst eN11; rw [hp4] at h; try dsimp only at h ⊢
    cbv
    obtain ⟨j14, hj15, h⟩ := jn h
    refine JoinP.mk {x : Int // j14 x = some o7} (fun x => ⟨[(0, .d (.lst (Ze _ eFound x0) (Zn _ x0))), (1, .d (.int .i64 x1)), (5, .own 0 (Zn _ l13) 38), (7, .d (.int .i64 x.1))], [(0, .row (Ze _ eFound l13) 38 33)], 1, 42⟩) (fun _ => True) [0, 1, 5, 7] ?_ ?_
    · cbv
      revert h; refine zln hJ hZ fun v16 h => ?_; cbv
      revert h; refine zb hJ fun v17 h => ?_; cbv
      obtain ⟨p19, q18, hp20, hf21, hq22⟩ := bnd_loop h; clear h
      refine LoopB.mk {x : Nat × Int × Int // loopN p19 x.1 x.2 = some q18} (fun x => ⟨[(0, .d (.lst (Ze _ eFound x0) (Zn _ x0))), (1, .d (.int .i64 x1)), (5, .own 0 (Zn _ l13) 38), (6, .d (.int .i64 v12)), (7, .d (.int .i64 x.1.2.1)), (8, .d (.int .i64 x.1.2.2))], [(0, .row (Ze _ eFound l13) 38 33)], 1, 42⟩) (fun x => x.1.1) [0, 1, 5, 6, 7, 8] 1 ⟨(FUEL, _), hf21⟩ ⟨[(0, 0)], [], ?_⟩ ?_
      · rfl
      · rintro ⟨⟨N25, ⟨v28, v29⟩⟩, hr24⟩; obtain ⟨M26, o23, eN27, h, hr24⟩ := loopN_step hr24; subst eN27; rw [hp20] at h; try dsimp only at h ⊢
        cbv
        revert h; refine zc hJ fun b30 h => ?_; cbv
        cases b30 with
        | true =>
          replace h := cnd_t h; cbv
          revert h; refine zlp hJ hZ fun y31 k32 hy33 ho34 h => ?_; cbv
          refine zl hJ hZ eFound_len hy33 ho34 (fun hJ => by subst hJ; rfl) (l_eFound_3_3 hZ _) ?_; cbv
          revert h; refine zb hJ fun v35 h => ?_; cbv
          revert h; refine zln hJ hZ fun v36 h => ?_; cbv
          revert h; refine zb hJ fun v37 h => ?_; cbv
          revert h; refine zc hJ fun b38 h => ?_; cbv
          cases b38 with
          | true =>
            replace h := cnd_t h; cbv
            revert h; refine zb hJ fun v39 h => ?_; cbv
            cases h; exact ⟨⟨(M26, _), hr24⟩, [(0, 0)], 1, [], rfl, Nat.lt_succ_self _⟩
          | false =>
            replace h := cnd_f h; cbv
            revert h; refine zb hJ fun v39 h => ?_; cbv
            cases h; exact ⟨⟨(M26, _), hr24⟩, [(0, 0)], 1, [], rfl, Nat.lt_succ_self _⟩
        | false =>
          replace h := cnd_f h; cbv
          cases h; have h := hq22; obtain rfl := hr24; try dsimp only at h
          exact ⟨⟨_, h⟩, [(0, 0)], 1, [], rfl, trivial⟩
    · rintro ⟨v16, h⟩ -; rw [hj15] at h; try dsimp only at h ⊢
      cbv
      revert h; refine zc hJ fun b17 h => ?_; cbv
      cases b17 with
      | true =>
        replace h := cnd_t h; cbv
        cases h; have h := hq6; obtain rfl := hr8; try dsimp only at h
        cases h
        exact ⟨_, .refl _, [], _, _, [(0, 0)], _, rfl, rfl, rfl, rfl, rfl, rfl⟩
      | false =>
        replace h := cnd_f h; cbv
        revert h; refine zlp hJ hZ fun y18 k19 hy20 ho21 h => ?_; cbv
        refine zl hJ hZ eFound_len hy20 ho21 (fun hJ => by subst hJ; rfl) (LdW.lds eFound_len (w_eFound hZ _)) ?_; cbv
        refine zbs hJ hZ (show IsL eFound _ _ [y18] from ⟨by obtain ⟨rfl, rfl, rfl, rfl, rfl⟩ := hZ; subst hJ; simp [stdJ, std, encL, eFound, eI], rfl⟩) (by subst hJ; exact (by decide : 38 ≤ 16777216)) ?_; cbv
        revert h; refine zap hJ hZ eFound_len fun l22 h => ?_; cbv
        revert h; refine zb hJ fun v23 h => ?_; cbv
        cases h; exact ⟨⟨(M10, _), hr8⟩, [(10, 0)], 1, [], rfl, Nat.lt_succ_self _⟩
theorem s9 (hZ : ZS Ze Zn Za Zb Zm)  (h : m_ref14_Same x0 x1 = some z0) : Spec Try.prog 9 [.d (.lst (Ze _ eFound x0) (Zn _ x0)), .d (.lst (Ze _ eFound x1) (Zn _ x1))] ⟨.d (.bool z0), [], 0, True⟩ := by
  refine spec_b [16] Try.func9 rfl rfl rfl fun J P hJ hP => ?_
  dsimp only [m_ref14_Same] at h
  cbv
  revert h; refine zln hJ hZ fun v2 h => ?_; cbv
  revert h; refine zln hJ hZ fun v3 h => ?_; cbv
  revert h; refine zc hJ fun b4 h => ?_; cbv
  cases b4 with
  | true =>
    replace h := cnd_t h; cbv
    cases h
    exact ⟨_, .refl _, [], _, _, [], _, rfl, rfl, rfl, rfl, rfl, rfl⟩
  | false =>
    replace h := cnd_f h; cbv
    obtain ⟨j5, hj6, h⟩ := jn h
    refine JoinP.mk {x : Unit // j5 x = some z0} (fun x => ⟨[], [], 0, 26⟩) (fun _ => True) [] ?_ ?_
    · cbv
      obtain ⟨p8, q7, hp9, hf10, hq11⟩ := bnd_loop h; clear h
      refine LoopB.mk {x : Nat × Int // loopN p8 x.1 x.2 = some q7} (fun x => ⟨[(0, .d (.lst (Ze _ eFound x0) (Zn _ x0))), (1, .d (.lst (Ze _ eFound x1) (Zn _ x1))), (5, .d (.int .i64 x.1.2))], [], 0, 26⟩) (fun x => x.1.1) [0, 1, 5] 0 ⟨(FUEL, _), hf10⟩ ⟨[], [], ?_⟩ ?_
      · rfl
      · rintro ⟨⟨N14, v17⟩, hr13⟩; obtain ⟨M15, o12, eN16, h, hr13⟩ := loopN_step hr13; subst eN16; rw [hp9] at h; try dsimp only at h ⊢
        cbv
        revert h; refine zln hJ hZ fun v18 h => ?_; cbv
        revert h; refine zc hJ fun b19 h => ?_; cbv
        cases b19 with
        | true =>
          replace h := cnd_t h; cbv
          revert h; refine zlp hJ hZ fun y20 k21 hy22 ho23 h => ?_; cbv
          refine zl hJ hZ eFound_len hy22 ho23 (fun hJ => by subst hJ; rfl) (LdW.lds eFound_len (w_eFound hZ _)) ?_; cbv
          revert h; refine zlp hJ hZ fun y24 k25 hy26 ho27 h => ?_; cbv
          refine zl hJ hZ eFound_len hy26 ho27 (fun hJ => by subst hJ; rfl) (LdW.lds eFound_len (w_eFound hZ _)) ?_; cbv
          revert h; refine st_eqL hJ (neg := true) (e := !((y20.Place == y24.Place) && ((y20.Rec.Kind == y24.Rec.Kind) && ((y20.Rec.Epoch == y24.Rec.Epoch) && ((y20.Rec.Seq == y24.Rec.Seq) && ((y20.Rec.Block == y24.Rec.Block) && ((y20.Rec.Count == y24.Rec.Count) && ((y20.Rec.Data.l == y24.Rec.Data.l) && true)))))))) (show eqLs [.int .i64, .int .i64, .int .i64, .int .i64, .int .i64, .int .i64, .big 32 .u8] [.d (.int .i64 y20.Place), .d (.int .i64 y20.Rec.Kind), .d (.int .i64 y20.Rec.Epoch), .d (.int .i64 y20.Rec.Seq), .d (.int .i64 y20.Rec.Block), .d (.int .i64 y20.Rec.Count), .big 32 (Za .u8 _ y20.Rec.Data)] [.d (.int .i64 y24.Place), .d (.int .i64 y24.Rec.Kind), .d (.int .i64 y24.Rec.Epoch), .d (.int .i64 y24.Rec.Seq), .d (.int .i64 y24.Rec.Block), .d (.int .i64 y24.Rec.Count), .big 32 (Za .u8 _ y24.Rec.Data)] _ from ⟨rfl, rfl, _, ⟨rfl, rfl, _, ⟨rfl, rfl, _, ⟨rfl, rfl, _, ⟨rfl, rfl, _, ⟨rfl, rfl, _, ⟨rfl, rfl, _, _, _, ((isA hZ .u8 y20.Rec.Data)).trans (encI_map _ _), ((isA hZ .u8 y24.Rec.Data)).trans (encI_map _ _), Ar.h _, Ar.h _, rfl, rfl⟩, rfl⟩, rfl⟩, rfl⟩, rfl⟩, rfl⟩, rfl⟩) rfl fun b28 _ h => ?_; cbv
          refine ⟨fun _ => by kernel_rfl, ?_⟩; cbv
          cases b28 with
          | true =>
            replace h := cnd_t h; cbv
            cases h; have h := hq11; obtain rfl := hr13; try dsimp only at h
            cases h
            exact ⟨_, .refl _, [], _, _, [], _, rfl, rfl, rfl, rfl, rfl, rfl⟩
          | false =>
            replace h := cnd_f h; cbv
            revert h; refine zb hJ fun v29 h => ?_; cbv
            cases h; exact ⟨⟨(M15, _), hr13⟩, [], 0, [], rfl, Nat.lt_succ_self _⟩
        | false =>
          replace h := cnd_f h; cbv
          cases h; have h := hq11; obtain rfl := hr13; try dsimp only at h
          exact ⟨⟨_, h⟩, [], 0, [], rfl, trivial⟩
    · rintro ⟨_, h⟩ -; rw [hj6] at h; try dsimp only at h ⊢
      cbv
      cases h
      exact ⟨_, .refl _, [], _, _, [], _, rfl, rfl, rfl, rfl, rfl, rfl⟩
end Go.AX
