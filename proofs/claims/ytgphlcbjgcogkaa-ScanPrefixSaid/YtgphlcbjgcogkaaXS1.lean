/- What functions of the program compute: each is what its Lean function says. -/
import Derived.Test.YtgphlcbjgcogkaaXM
namespace Go.AX
open Go.Proofs
set_option linter.unusedVariables false
set_option maxRecDepth 100000
set_option maxHeartbeats 100000000
set_option linter.unusedSimpArgs false
set_option autoImplicit true
set_option relaxedAutoImplicit true
variable {Ze : ZeT} {Zn : ZnT} {Za : ZaT} {Zb : ZbT} {Zm : ZmT}

theorem s18 (hZ : ZS Ze Zn Za Zb Zm)  (h : m_law14_put x0 x1 = some z0) : Spec Try.prog 18 [.d (.int .i64 x0), .d (.int .i64 x1)] ⟨.agg [.d (.int .i64 z0.Kind), .d (.int .i64 z0.Epoch), .d (.int .i64 z0.Seq), .d (.int .i64 z0.Block), .d (.int .i64 z0.Count), .big 32 (Za .u8 _ z0.Data)], [], 0, True⟩ := by
  refine spec_b [] Try.func18 rfl rfl rfl fun J P hJ hP => ?_
  dsimp only [m_law14_put] at h
  cbv
  obtain ⟨z32u8, ez32u8, h⟩ := letv h; have rz32u8 := zrep hJ hZ 32 .u8 ez32u8
  try rw [rz32u8]
  try rw [rz32u8]
  cases h
  exact ⟨_, .refl _, [], _, _, [], _, rfl, rfl, rfl, rfl, rfl, rfl⟩
theorem s52 (hZ : ZS Ze Zn Za Zb Zm)  (h : m_geom_Zones x0 = some z0) : Spec Try.prog 52 [.agg [.d (.int .i64 x0.Conv), .d (.int .i64 x0.Soft), .d (.int .i64 x0.Seq), .d (.int .i64 x0.Size), .d (.int .i64 x0.Open)]] ⟨.d (.int .i64 z0), [], 0, True⟩ := by
  refine spec_b [] Try.func52 rfl rfl rfl fun J P hJ hP => ?_
  dsimp only [m_geom_Zones] at h
  cbv
  revert h; refine zb hJ fun v2 h => ?_; cbv
  cases h
  exact ⟨_, .refl _, [], _, _, [], _, rfl, rfl, rfl, rfl, rfl, rfl⟩
theorem s40 (hZ : ZS Ze Zn Za Zb Zm) (h : m_slices_Clone x0 = some z0) : Spec Try.prog 40 [.d (.lst (Ze _ eZone x0) (Zn _ x0))] ⟨.own 0 (Zn _ z0) 2, [(0, .row (Ze _ eZone z0) 2 66)], 1, True⟩ := by
  refine spec_b [] Try.func40 rfl rfl rfl fun J P hJ hP => ?_
  dsimp only [m_slices_Clone] at h
  cbv
  intro b hb
  cases b with
  | true =>
    cbv
    have hn : Zn _ x0 = 0 := hb rfl
    have h0 : x0 = [] := List.eq_nil_of_length_eq_zero (by rw [← hZ.len]; exact hn)
    subst h0
    have h1 : z0 = [] := (Option.some.inj h).symm
    subst h1
    simp only [hZ.e0, hZ.n0]
    exact ⟨_, .refl _, [.slot 2 1000000 2 66], _, _, [(1000000, 0)], _, rfl, rfl, rfl, rfl, rfl, rfl⟩
  | false =>
    cbv
    refine zbs hJ hZ (show IsL eZone _ _ ([] : List TZone) from ⟨rfl, rfl⟩) (by subst hJ; exact (by decide : 0 ≤ 16777216)) ?_; cbv
    revert h; refine zap hJ hZ eZone_len fun l h => ?_; cbv
    cases h
    exact ⟨_, .refl _, [], _, _, [(6, 0)], _, rfl, rfl, rfl, rfl, rfl, rfl⟩
theorem s41 (hZ : ZS Ze Zn Za Zb Zm)  (h : m_ref06_low x0 x1 = some z0) : Spec Try.prog 41 [.d (.int .i64 x0), .d (.int .i64 x1)] ⟨.own 0 (Zn _ z0) 1, [(0, .row (Ze _ (eI .u8) z0) 1 5)], 1, True⟩ := by
  refine spec_b [14] Try.func41 rfl rfl rfl fun J P hJ hP => ?_
  dsimp only [m_ref06_low] at h
  cbv
  obtain ⟨j2, hj3, h⟩ := jn h
  refine JoinP.mk {x : (List Int) // j2 x = some z0} (fun x => ⟨[(5, .own 0 (Zn _ x.1) 1)], [(0, .row (Ze _ (eI .u8) x.1) 1 5)], 1, 21⟩) (fun _ => True) [5] ?_ ?_
  · cbv
    obtain ⟨p5, q4, hp6, hf7, hq8⟩ := bnd_loop h; clear h
    refine LoopB.mk {x : Nat × Int × Int × (List Int) // loopN p5 x.1 x.2 = some q4} (fun x => ⟨[(0, .d (.int .i64 x.1.2.1)), (1, .d (.int .i64 x1)), (5, .own 0 (Zn _ x.1.2.2.2) 1), (6, .d (.int .i64 x.1.2.2.1))], [(0, .row (Ze _ (eI .u8) x.1.2.2.2) 1 5)], 1, 21⟩) (fun x => x.1.1) [0, 1, 5, 6] 0 ⟨(FUEL, _), hf7⟩ ⟨[], [.slot 5 0 1 5], ?_⟩ ?_
    · simp only [hZ.e0, hZ.n0]; rfl
    · rintro ⟨⟨N11, ⟨v14, v15, l16⟩⟩, hr10⟩; obtain ⟨M12, o9, eN13, h, hr10⟩ := loopN_step hr10; subst eN13; rw [hp6] at h; try dsimp only at h ⊢
      cbv
      revert h; refine zc hJ fun b17 h => ?_; cbv
      cases b17 with
      | true =>
        replace h := cnd_t h; cbv
        revert h; refine zq hJ fun v18 h => ?_; cbv
        revert h; refine zw hJ fun v19 h => ?_; cbv
        refine zbs hJ hZ (show IsL (eI .u8) _ _ [v19] from ⟨rfl, rfl⟩) (by subst hJ; exact (by decide : 1 ≤ 16777216)) ?_; cbv
        revert h; refine zap hJ hZ (eI_len .u8) fun l20 h => ?_; cbv
        revert h; refine zq hJ fun v21 h => ?_; cbv
        revert h; refine zb hJ fun v22 h => ?_; cbv
        cases h; exact ⟨⟨(M12, _), hr10⟩, [(10, 0)], 1, [], rfl, Nat.lt_succ_self _⟩
      | false =>
        replace h := cnd_f h; cbv
        cases h; have h := hq8; obtain rfl := hr10; try dsimp only at h
        exact ⟨⟨_, h⟩, [(0, 0)], 1, [], rfl, trivial⟩
  · rintro ⟨l4, h⟩ -; rw [hj3] at h; try dsimp only at h ⊢
    cbv
    cases h
    exact ⟨_, .refl _, [], _, _, [(0, 0)], _, rfl, rfl, rfl, rfl, rfl, rfl⟩
theorem s82 (hZ : ZS Ze Zn Za Zb Zm)  (h : m_ref02_bits x0 = some z0) : Spec Try.prog 82 [.d (.lst (Ze _ (eI .u8) x0) (Zn _ x0))] ⟨.own 0 (Zn _ z0) 1, [(0, .row (Ze _ eB z0) 1 4)], 1, True⟩ := by
  refine spec_b [22, 8] Try.func82 rfl rfl rfl fun J P hJ hP => ?_
  dsimp only [m_ref02_bits] at h
  cbv
  obtain ⟨j2, hj3, h⟩ := jn h
  refine JoinP.mk {x : (List Bool) // j2 x = some z0} (fun x => ⟨[(3, .own 0 (Zn _ x.1) 1)], [(0, .row (Ze _ eB x.1) 1 4)], 1, 31⟩) (fun _ => True) [3] ?_ ?_
  · cbv
    obtain ⟨p5, q4, hp6, hf7, hq8⟩ := bnd_loop h; clear h
    refine LoopB.mk {x : Nat × Int × (List Bool) // loopN p5 x.1 x.2 = some q4} (fun x => ⟨[(0, .d (.lst (Ze _ (eI .u8) x0) (Zn _ x0))), (3, .own 0 (Zn _ x.1.2.2) 1), (4, .d (.int .i64 x.1.2.1))], [(0, .row (Ze _ eB x.1.2.2) 1 4)], 1, 31⟩) (fun x => x.1.1) [0, 3, 4] 0 ⟨(FUEL, _), hf7⟩ ⟨[], [.slot 3 0 1 4], ?_⟩ ?_
    · simp only [hZ.e0, hZ.n0]; rfl
    · rintro ⟨⟨N11, ⟨v14, l15⟩⟩, hr10⟩; obtain ⟨M12, o9, eN13, h, hr10⟩ := loopN_step hr10; subst eN13; rw [hp6] at h; try dsimp only at h ⊢
      cbv
      revert h; refine zln hJ hZ fun v16 h => ?_; cbv
      revert h; refine zc hJ fun b17 h => ?_; cbv
      cases b17 with
      | true =>
        replace h := cnd_t h; cbv
        obtain ⟨j18, hj19, h⟩ := jn h
        refine JoinP.mk {x : (List Bool) // j18 x = some o9} (fun x => ⟨[(0, .d (.lst (Ze _ (eI .u8) x0) (Zn _ x0))), (3, .own 0 (Zn _ x.1) 1), (4, .d (.int .i64 v14))], [(0, .row (Ze _ eB x.1) 1 4)], 1, 31⟩) (fun _ => True) [0, 3, 4] ?_ ?_
        · cbv
          revert h; refine zlp hJ hZ fun y20 k21 hy22 ho23 h => ?_; cbv
          refine zl hJ hZ (eI_len .u8) hy22 ho23 (fun hJ => by subst hJ; rfl) (LdW.lds (eI_len .u8) (wI .u8 _)) ?_; cbv
          revert h; refine zw hJ fun v24 h => ?_; cbv
          obtain ⟨p26, q25, hp27, hf28, hq29⟩ := bnd_loop h; clear h
          refine LoopB.mk {x : Nat × Int × Int × (List Bool) // loopN p26 x.1 x.2 = some q25} (fun x => ⟨[(0, .d (.lst (Ze _ (eI .u8) x0) (Zn _ x0))), (3, .own 0 (Zn _ x.1.2.2.2) 1), (4, .d (.int .i64 v14)), (5, .d (.int .i64 x.1.2.1)), (6, .d (.int .i64 x.1.2.2.1))], [(0, .row (Ze _ eB x.1.2.2.2) 1 4)], 1, 31⟩) (fun x => x.1.1) [0, 3, 4, 5, 6] 1 ⟨(FUEL, _), hf28⟩ ⟨[(0, 0)], [], ?_⟩ ?_
          · rfl
          · rintro ⟨⟨N32, ⟨v35, v36, l37⟩⟩, hr31⟩; obtain ⟨M33, o30, eN34, h, hr31⟩ := loopN_step hr31; subst eN34; rw [hp27] at h; try dsimp only at h ⊢
            cbv
            revert h; refine zc hJ fun b38 h => ?_; cbv
            cases b38 with
            | true =>
              replace h := cnd_t h; cbv
              revert h; refine zq hJ fun v39 h => ?_; cbv
              revert h; refine zc hJ fun b40 h => ?_; cbv
              refine zbs hJ hZ (show IsL eB _ _ [b40] from ⟨rfl, rfl⟩) (by subst hJ; exact (by decide : 1 ≤ 16777216)) ?_; cbv
              revert h; refine zap hJ hZ eB_len fun l41 h => ?_; cbv
              revert h; refine zq hJ fun v42 h => ?_; cbv
              revert h; refine zb hJ fun v43 h => ?_; cbv
              cases h; exact ⟨⟨(M33, _), hr31⟩, [(9, 0)], 1, [], rfl, Nat.lt_succ_self _⟩
            | false =>
              replace h := cnd_f h; cbv
              cases h; have h := hq29; obtain rfl := hr31; try dsimp only at h
              exact ⟨⟨_, h⟩, [(0, 0)], 1, [], rfl, trivial⟩
        · rintro ⟨l20, h⟩ -; rw [hj19] at h; try dsimp only at h ⊢
          cbv
          revert h; refine zb hJ fun v21 h => ?_; cbv
          cases h; exact ⟨⟨(M12, _), hr10⟩, [(0, 0)], 1, [], rfl, Nat.lt_succ_self _⟩
      | false =>
        replace h := cnd_f h; cbv
        cases h; have h := hq8; obtain rfl := hr10; try dsimp only at h
        exact ⟨⟨_, h⟩, [(0, 0)], 1, [], rfl, trivial⟩
  · rintro ⟨l4, h⟩ -; rw [hj3] at h; try dsimp only at h ⊢
    cbv
    cases h
    exact ⟨_, .refl _, [], _, _, [(0, 0)], _, rfl, rfl, rfl, rfl, rfl, rfl⟩
end Go.AX
