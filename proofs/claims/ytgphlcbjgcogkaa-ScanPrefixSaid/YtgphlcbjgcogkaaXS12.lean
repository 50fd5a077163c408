/- What functions of the program compute: each is what its Lean function says. -/
import Derived.Test.YtgphlcbjgcogkaaXS1
namespace Go.AX
open Go.Proofs
set_option linter.unusedVariables false
set_option maxRecDepth 100000
set_option maxHeartbeats 100000000
set_option linter.unusedSimpArgs false
set_option autoImplicit true
set_option relaxedAutoImplicit true
variable {Ze : ZeT} {Zn : ZnT} {Za : ZaT} {Zb : ZbT} {Zm : ZmT}

theorem s63 (hZ : ZS Ze Zn Za Zb Zm)  (h : m_ref02_Sum x0 = some z0) : Spec Try.prog 63 [.d (.lst (Ze _ (eI .u8) x0) (Zn _ x0))] ⟨.d (.int .u32 z0), [], 0, True⟩ := by
  refine spec_b [14, 44, 20, 32, 58] Try.func63 rfl rfl rfl fun J P hJ hP => ?_
  dsimp only [m_ref02_Sum] at h
  cbv
  obtain ⟨z32b, ez32b, h⟩ := letv h; have rz32b := zrepB hJ hZ 32 ez32b
  obtain ⟨a2, ea3, h⟩ := letv h; try rw [show (J .set (J .set (J .set (J .set (J .set (J .set (J .set (J .set (J .set (J .set (J .set (J .set (J .set (J .set (J .set (J .set (J .set (J .set (J .set (J .set (J .set (J .set (J .set (J .set (J .set (J .set (J .set (J .set (J .set (J .set (J .set (J .set (J .rep 32 (.bool false)) 0 (.bool true)) 1 (.bool true)) 2 (.bool true)) 3 (.bool false)) 4 (.bool true)) 5 (.bool true)) 6 (.bool false)) 7 (.bool true)) 8 (.bool true)) 9 (.bool false)) 10 (.bool true)) 11 (.bool true)) 12 (.bool true)) 13 (.bool false)) 14 (.bool false)) 15 (.bool false)) 16 (.bool true)) 17 (.bool false)) 18 (.bool false)) 19 (.bool false)) 20 (.bool false)) 21 (.bool false)) 22 (.bool true)) 23 (.bool true)) 24 (.bool false)) 25 (.bool false)) 26 (.bool true)) 27 (.bool false)) 28 (.bool false)) 29 (.bool false)) 30 (.bool false)) 31 (.bool false)) = (Zb _ a2) from (by rw [isB hZ a2, ea3]; subst hJ; rfl)]
  clear ea3
  try rw [rz32b]
  try rw [rz32b]
  obtain ⟨j4, hj5, h⟩ := jn h
  refine JoinP.mk {x : (Ar 32) // j4 x = some z0} (fun x => ⟨[(0, .d (.lst (Ze _ (eI .u8) x0) (Zn _ x0))), (3, .ptr 0 0), (4, .ptr 1 0)], [(0, .box [.big 32 (Zb _ a2)]), (1, .box [.big 32 (Zb _ x.1)])], 2, 74⟩) (fun _ => True) [0, 3, 4] ?_ ?_
  · cbv
    obtain ⟨p7, q6, hp8, hf9, hq10⟩ := bnd_loop h; clear h
    refine LoopB.mk {x : Nat × Int × (Ar 32) // loopN p7 x.1 x.2 = some q6} (fun x => ⟨[(0, .d (.lst (Ze _ (eI .u8) x0) (Zn _ x0))), (3, .ptr 0 0), (4, .ptr 1 0), (5, .d (.int .i64 x.1.2.1))], [(0, .box [.big 32 (Zb _ a2)]), (1, .box [.big 32 (Zb _ x.1.2.2)])], 2, 74⟩) (fun x => x.1.1) [0, 3, 4, 5] 2 ⟨(FUEL, _), hf9⟩ ⟨[(2, 0), (5, 1)], [], ?_⟩ ?_
    · rfl
    · rintro ⟨⟨N13, ⟨v16, a17⟩⟩, hr12⟩; obtain ⟨M14, o11, eN15, h, hr12⟩ := loopN_step hr12; subst eN15; rw [hp8] at h; try dsimp only at h ⊢
      cbv
      revert h; refine zc hJ fun b18 h => ?_; cbv
      cases b18 with
      | true =>
        replace h := cnd_t h; cbv
        revert h; refine zpx hJ fun v19 k20 hy21 ho22 h => ?_; cbv
        obtain ⟨a23, ea24, h⟩ := letv h; rw [zsetB hJ hZ ho22 ea24]; refine zok (px_leA hJ ho22 hy21) ?_
        clear ea24; cbv
        revert h; refine zb hJ fun v25 h => ?_; cbv
        cases h; exact ⟨⟨(M14, _), hr12⟩, [(0, 0), (1, 1)], 2, [], rfl, Nat.lt_succ_self _⟩
      | false =>
        replace h := cnd_f h; cbv
        cases h; have h := hq10; obtain rfl := hr12; try dsimp only at h
        exact ⟨⟨_, h⟩, [(0, 0), (1, 1)], 2, [], rfl, trivial⟩
  · rintro ⟨a6, h⟩ -; rw [hj5] at h; try dsimp only at h ⊢
    cbv
    obtain ⟨l8, h7, h⟩ := bnd h
    refine call_by hP (s82 hZ h7) hJ rfl rfl ?_; cbv
    obtain ⟨j9, hj10, h⟩ := jn h
    refine JoinP.mk {x : (Ar 32) // j9 x = some z0} (fun x => ⟨[(4, .ptr 0 0)], [(0, .box [.big 32 (Zb _ x.1)])], 1, 74⟩) (fun _ => True) [4] ?_ ?_
    · cbv
      obtain ⟨p12, q11, hp13, hf14, hq15⟩ := bnd_loop h; clear h
      refine LoopB.mk {x : Nat × Int × (Ar 32) // loopN p12 x.1 x.2 = some q11} (fun x => ⟨[(3, .ptr 0 0), (4, .ptr 1 0), (6, .own 2 (Zn _ l8) 1), (7, .d (.int .i64 x.1.2.1))], [(0, .box [.big 32 (Zb _ a2)]), (1, .box [.big 32 (Zb _ x.1.2.2)]), (2, .row (Ze _ eB l8) 1 4)], 3, 74⟩) (fun x => x.1.1) [3, 4, 6, 7] 3 ⟨(FUEL, _), hf14⟩ ⟨[(0, 0), (1, 1), (3, 2)], [], ?_⟩ ?_
      · rfl
      · rintro ⟨⟨N18, ⟨v21, a22⟩⟩, hr17⟩; obtain ⟨M19, o16, eN20, h, hr17⟩ := loopN_step hr17; subst eN20; rw [hp13] at h; try dsimp only at h ⊢
        cbv
        revert h; refine zln hJ hZ fun v23 h => ?_; cbv
        revert h; refine zc hJ fun b24 h => ?_; cbv
        cases b24 with
        | true =>
          replace h := cnd_t h; cbv
          obtain ⟨j25, hj26, h⟩ := jn h
          refine JoinP.mk {x : (Ar 32) // j25 x = some o16} (fun x => ⟨[(3, .ptr 0 0), (4, .ptr 1 0), (6, .own 2 (Zn _ l8) 1), (7, .d (.int .i64 v21))], [(0, .box [.big 32 (Zb _ a2)]), (1, .box [.big 32 (Zb _ x.1)]), (2, .row (Ze _ eB l8) 1 4)], 3, 74⟩) (fun _ => True) [3, 4, 6, 7] ?_ ?_
          · cbv
            revert h; refine zpx hJ fun v27 k28 hy29 ho30 h => ?_; cbv
            refine zlAB hJ hZ hy29 ho30 (fun hJ => by subst hJ; simp [stdJ, std]) ?_; cbv
            revert h; refine zpr hJ hZ fun y31 k32 hy33 ho34 h => ?_; cbv
            refine zl hJ hZ eB_len hy33 ho34 (fun hJ => by subst hJ; rfl) (LdW.lds eB_len (wB _)) ?_; cbv
            revert h; refine st_neb hJ fun b35 _ h => ?_; cbv
            refine ⟨fun _ => by kernel_rfl, ?_⟩; cbv
            obtain ⟨j36, hj37, h⟩ := jn h
            refine JoinP.mk {x : (Ar 32) // j36 x = some o16} (fun x => ⟨[(3, .ptr 0 0), (4, .ptr 1 0), (6, .own 2 (Zn _ l8) 1), (7, .d (.int .i64 v21)), (8, .d (.bool b35))], [(0, .box [.big 32 (Zb _ a2)]), (1, .box [.big 32 (Zb _ x.1)]), (2, .row (Ze _ eB l8) 1 4)], 3, 74⟩) (fun _ => True) [3, 4, 6, 7, 8] ?_ ?_
            · cbv
              obtain ⟨p39, q38, hp40, hf41, hq42⟩ := bnd_loop h; clear h
              refine LoopB.mk {x : Nat × Int × (Ar 32) // loopN p39 x.1 x.2 = some q38} (fun x => ⟨[(3, .ptr 0 0), (4, .ptr 1 0), (6, .own 2 (Zn _ l8) 1), (7, .d (.int .i64 v21)), (8, .d (.bool b35)), (9, .d (.int .i64 x.1.2.1))], [(0, .box [.big 32 (Zb _ a2)]), (1, .box [.big 32 (Zb _ x.1.2.2)]), (2, .row (Ze _ eB l8) 1 4)], 3, 74⟩) (fun x => x.1.1) [3, 4, 6, 7, 8, 9] 3 ⟨(FUEL, _), hf41⟩ ⟨[(0, 0), (1, 1), (2, 2)], [], ?_⟩ ?_
              · rfl
              · rintro ⟨⟨N45, ⟨v48, a49⟩⟩, hr44⟩; obtain ⟨M46, o43, eN47, h, hr44⟩ := loopN_step hr44; subst eN47; rw [hp40] at h; try dsimp only at h ⊢
                cbv
                revert h; refine zc hJ fun b50 h => ?_; cbv
                cases b50 with
                | true =>
                  replace h := cnd_t h; cbv
                  revert h; refine zb hJ fun v51 h => ?_; cbv
                  revert h; refine zpx hJ fun v52 k53 hy54 ho55 h => ?_; cbv
                  refine zlAB hJ hZ hy54 ho55 (fun hJ => by subst hJ; simp [stdJ, std]) ?_; cbv
                  revert h; refine zpx hJ fun v56 k57 hy58 ho59 h => ?_; cbv
                  obtain ⟨a60, ea61, h⟩ := letv h; rw [zsetB hJ hZ ho59 ea61]; refine zok (px_leA hJ ho59 hy58) ?_
                  clear ea61; cbv
                  revert h; refine zb hJ fun v62 h => ?_; cbv
                  cases h; exact ⟨⟨(M46, _), hr44⟩, [(0, 0), (1, 1), (2, 2)], 3, [], rfl, Nat.lt_succ_self _⟩
                | false =>
                  replace h := cnd_f h; cbv
                  cases h; have h := hq42; obtain rfl := hr44; try dsimp only at h
                  exact ⟨⟨_, h⟩, [(0, 0), (1, 1), (2, 2)], 3, [], rfl, trivial⟩
            · rintro ⟨a38, h⟩ -; rw [hj37] at h; try dsimp only at h ⊢
              cbv
              revert h; refine zpx hJ fun v39 k40 hy41 ho42 h => ?_; cbv
              obtain ⟨a43, ea44, h⟩ := letv h; rw [zsetB hJ hZ ho42 ea44]; refine zok (px_leA hJ ho42 hy41) ?_
              clear ea44; cbv
              cases b35 with
              | true =>
                replace h := cnd_t h; cbv
                obtain ⟨p46, q45, hp47, hf48, hq49⟩ := bnd_loop h; clear h
                refine LoopB.mk {x : Nat × Int × (Ar 32) // loopN p46 x.1 x.2 = some q45} (fun x => ⟨[(3, .ptr 0 0), (4, .ptr 1 0), (6, .own 2 (Zn _ l8) 1), (7, .d (.int .i64 v21)), (10, .d (.int .i64 x.1.2.1))], [(0, .box [.big 32 (Zb _ a2)]), (1, .box [.big 32 (Zb _ x.1.2.2)]), (2, .row (Ze _ eB l8) 1 4)], 3, 74⟩) (fun x => x.1.1) [3, 4, 6, 7, 10] 3 ⟨(FUEL, _), hf48⟩ ⟨[(0, 0), (1, 1), (2, 2)], [], ?_⟩ ?_
                · rfl
                · rintro ⟨⟨N52, ⟨v55, a56⟩⟩, hr51⟩; obtain ⟨M53, o50, eN54, h, hr51⟩ := loopN_step hr51; subst eN54; rw [hp47] at h; try dsimp only at h ⊢
                  cbv
                  revert h; refine zc hJ fun b57 h => ?_; cbv
                  cases b57 with
                  | true =>
                    replace h := cnd_t h; cbv
                    revert h; refine zpx hJ fun v58 k59 hy60 ho61 h => ?_; cbv
                    refine zlAB hJ hZ hy60 ho61 (fun hJ => by subst hJ; simp [stdJ, std]) ?_; cbv
                    revert h; refine zb hJ fun v62 h => ?_; cbv
                    revert h; refine zpx hJ fun v63 k64 hy65 ho66 h => ?_; cbv
                    refine zlAB hJ hZ hy65 ho66 (fun hJ => by subst hJ; simp [stdJ, std]) ?_; cbv
                    revert h; refine st_neb hJ fun b67 _ h => ?_; cbv
                    revert h; refine zpx hJ fun v68 k69 hy70 ho71 h => ?_; cbv
                    obtain ⟨a72, ea73, h⟩ := letv h; rw [zsetB hJ hZ ho71 ea73]; refine zok (px_leA hJ ho71 hy70) ?_
                    clear ea73; cbv
                    refine ⟨fun _ => by kernel_rfl, ?_⟩; cbv
                    revert h; refine zb hJ fun v74 h => ?_; cbv
                    cases h; exact ⟨⟨(M53, _), hr51⟩, [(0, 0), (1, 1), (2, 2)], 3, [], rfl, Nat.lt_succ_self _⟩
                  | false =>
                    replace h := cnd_f h; cbv
                    cases h; have h := hq49; obtain rfl := hr51; try dsimp only at h
                    exact ⟨⟨_, h⟩, [(0, 0), (1, 1), (2, 2)], 3, [], rfl, trivial⟩
              | false =>
                replace h := cnd_f h; cbv
                exact ⟨⟨_, h⟩, [(0, 0), (1, 1), (2, 2)], 3, [], rfl, trivial⟩
          · rintro ⟨a27, h⟩ -; rw [hj26] at h; try dsimp only at h ⊢
            cbv
            revert h; refine zb hJ fun v28 h => ?_; cbv
            cases h; exact ⟨⟨(M19, _), hr17⟩, [(0, 0), (1, 1), (2, 2)], 3, [], rfl, Nat.lt_succ_self _⟩
        | false =>
          replace h := cnd_f h; cbv
          cases h; have h := hq15; obtain rfl := hr17; try dsimp only at h
          exact ⟨⟨_, h⟩, [(1, 0)], 1, [], rfl, trivial⟩
    · rintro ⟨a11, h⟩ -; rw [hj10] at h; try dsimp only at h ⊢
      cbv
      obtain ⟨j12, hj13, h⟩ := jn h
      refine JoinP.mk {x : Int // j12 x = some z0} (fun x => ⟨[(11, .d (.int .u32 x.1))], [], 0, 74⟩) (fun _ => True) [11] ?_ ?_
      · cbv
        obtain ⟨p15, q14, hp16, hf17, hq18⟩ := bnd_loop h; clear h
        refine LoopB.mk {x : Nat × Int × Int // loopN p15 x.1 x.2 = some q14} (fun x => ⟨[(4, .ptr 0 0), (11, .d (.int .u32 x.1.2.1)), (12, .d (.int .i64 x.1.2.2))], [(0, .box [.big 32 (Zb _ a11)])], 1, 74⟩) (fun x => x.1.1) [4, 11, 12] 1 ⟨(FUEL, _), hf17⟩ ⟨[(0, 0)], [], ?_⟩ ?_
        · rfl
        · rintro ⟨⟨N21, ⟨v24, v25⟩⟩, hr20⟩; obtain ⟨M22, o19, eN23, h, hr20⟩ := loopN_step hr20; subst eN23; rw [hp16] at h; try dsimp only at h ⊢
          cbv
          revert h; refine zc hJ fun b26 h => ?_; cbv
          cases b26 with
          | true =>
            replace h := cnd_t h; cbv
            revert h; refine zb hJ fun v27 h => ?_; cbv
            revert h; refine zpx hJ fun v28 k29 hy30 ho31 h => ?_; cbv
            refine zlAB hJ hZ hy30 ho31 (fun hJ => by subst hJ; simp [stdJ, std]) ?_; cbv
            revert h; refine st_not hJ fun b32 _ h => ?_; cbv
            cases b32 with
            | true =>
              replace h := cnd_t h; cbv
              revert h; refine zb hJ fun v33 h => ?_; cbv
              revert h; refine zb hJ fun v34 h => ?_; cbv
              cases h; exact ⟨⟨(M22, _), hr20⟩, [(0, 0)], 1, [], rfl, Nat.lt_succ_self _⟩
            | false =>
              replace h := cnd_f h; cbv
              revert h; refine zb hJ fun v33 h => ?_; cbv
              cases h; exact ⟨⟨(M22, _), hr20⟩, [(0, 0)], 1, [], rfl, Nat.lt_succ_self _⟩
          | false =>
            replace h := cnd_f h; cbv
            cases h; have h := hq18; obtain rfl := hr20; try dsimp only at h
            exact ⟨⟨_, h⟩, [], 0, [], rfl, trivial⟩
      · rintro ⟨v14, h⟩ -; rw [hj13] at h; try dsimp only at h ⊢
        cbv
        cases h
        exact ⟨_, .refl _, [], _, _, [], _, rfl, rfl, rfl, rfl, rfl, rfl⟩
end Go.AX
