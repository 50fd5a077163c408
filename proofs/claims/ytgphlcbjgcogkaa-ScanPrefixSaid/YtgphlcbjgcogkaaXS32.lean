/- What functions of the program compute: each is what its Lean function says. -/
import Derived.Test.YtgphlcbjgcogkaaXS1
import Derived.Test.YtgphlcbjgcogkaaXS21
import Derived.Test.YtgphlcbjgcogkaaXS23
import Derived.Test.YtgphlcbjgcogkaaXS26
import Derived.Test.YtgphlcbjgcogkaaXS27
import Derived.Test.YtgphlcbjgcogkaaXS29
import Derived.Test.YtgphlcbjgcogkaaXS5
import Derived.Test.YtgphlcbjgcogkaaXS6
namespace Go.AX
open Go.Proofs
set_option linter.unusedVariables false
set_option maxRecDepth 100000
set_option maxHeartbeats 100000000
set_option linter.unusedSimpArgs false
set_option autoImplicit true
set_option relaxedAutoImplicit true
variable {Ze : ZeT} {Zn : ZnT} {Za : ZaT} {Zb : ZbT} {Zm : ZmT}

theorem s6 (hZ : ZS Ze Zn Za Zb Zm)  (h : m_law14_ScanPrefix x0 x1 x2 x3 = some z0) : Spec Try.prog 6 [.agg [.d (.int .i64 x0.Conv), .d (.int .i64 x0.Soft), .d (.int .i64 x0.Seq), .d (.int .i64 x0.Size), .d (.int .i64 x0.Open)], .d (.lst (Ze _ (eI .u8) x1) (Zn _ x1)), .d (.int .u16 x2), .agg [.d (.lst (Ze _ (eI .i64) x3.Keep) (Zn _ x3.Keep)), .d (.int .u64 x3.Soft), .d (.int .i64 x3.Tear)]] ⟨.d (.bool z0), [], 0, True⟩ := by
  refine spec_b [6, 4, 16, 30, 36, 46, 25, 33] Try.func6 rfl rfl rfl fun J P hJ hP => ?_
  dsimp only [m_law14_ScanPrefix] at h
  cbv
  obtain ⟨z32u8, ez32u8, h⟩ := letv h; have rz32u8 := zrep hJ hZ 32 .u8 ez32u8
  obtain ⟨j2, hj3, h⟩ := jn h
  refine JoinP.mk {x : Unit // j2 x = some z0} (fun x => ⟨[(1, .d (.lst (Ze _ (eI .u8) x1) (Zn _ x1))), (2, .d (.int .u16 x2)), (4, .ptr 0 0), (7, .ptr 1 0)], [(0, .box [.d (.int .i64 x0.Conv), .d (.int .i64 x0.Soft), .d (.int .i64 x0.Seq), .d (.int .i64 x0.Size), .d (.int .i64 x0.Open)]), (1, .box [.d (.lst (Ze _ (eI .i64) x3.Keep) (Zn _ x3.Keep)), .d (.int .u64 x3.Soft), .d (.int .i64 x3.Tear)])], 2, 133⟩) (fun _ => True) [1, 2, 4, 7] ?_ ?_
  · cbv
    obtain ⟨j4, hj5, h⟩ := jn h
    refine JoinP.mk {x : Bool // j4 x = some z0} (fun x => ⟨[(1, .d (.lst (Ze _ (eI .u8) x1) (Zn _ x1))), (2, .d (.int .u16 x2)), (4, .ptr 0 0), (7, .ptr 1 0), (29, .d (.bool x.1))], [(0, .box [.d (.int .i64 x0.Conv), .d (.int .i64 x0.Soft), .d (.int .i64 x0.Seq), .d (.int .i64 x0.Size), .d (.int .i64 x0.Open)]), (1, .box [.d (.lst (Ze _ (eI .i64) x3.Keep) (Zn _ x3.Keep)), .d (.int .u64 x3.Soft), .d (.int .i64 x3.Tear)])], 2, 133⟩) (fun _ => True) [1, 2, 4, 7, 29] ?_ ?_
    · cbv
      obtain ⟨b7, h6, h⟩ := bnd h
      refine call_by hP (s7 hZ h6) hJ rfl rfl ?_; cbv
      revert h; refine st_not hJ fun b8 _ h => ?_; cbv
      cases b8 with
      | true =>
        replace h := cnd_t h; cbv
        exact ⟨⟨_, h⟩, [(0, 0), (2, 1)], 2, [], rfl, trivial⟩
      | false =>
        replace h := cnd_f h; cbv
        obtain ⟨b10, h9, h⟩ := bnd h
        refine call_by hP (s12 hZ h9) hJ rfl rfl ?_; cbv
        revert h; refine st_not hJ fun b11 _ h => ?_; cbv
        cases b11 with
        | true =>
          replace h := cnd_t h; cbv
          exact ⟨⟨_, h⟩, [(0, 0), (2, 1)], 2, [], rfl, trivial⟩
        | false =>
          replace h := cnd_f h; cbv
          revert h; refine zln hJ hZ fun v12 h => ?_; cbv
          revert h; refine zc hJ fun b13 h => ?_; cbv
          exact ⟨⟨_, h⟩, [(0, 0), (2, 1)], 2, [], rfl, trivial⟩
    · rintro ⟨b6, h⟩ -; rw [hj5] at h; try dsimp only at h ⊢
      cbv
      cases b6 with
      | true =>
        replace h := cnd_t h; cbv
        obtain ⟨b8, h7, h⟩ := bnd h
        refine call_by hP (s7 hZ h7) hJ rfl rfl ?_; cbv
        cases h
        exact ⟨_, .refl _, [], _, _, [], _, rfl, rfl, rfl, rfl, rfl, rfl⟩
      | false =>
        replace h := cnd_f h; cbv
        exact ⟨⟨_, h⟩, [(0, 0), (1, 1)], 2, [], rfl, trivial⟩
  · rintro ⟨_, h⟩ -; rw [hj3] at h; try dsimp only at h ⊢
    cbv
    obtain ⟨j4, hj5, h⟩ := jn h
    refine JoinP.mk {x : (List TRef14_Step) // j4 x = some z0} (fun x => ⟨[(2, .d (.int .u16 x2)), (4, .ptr 0 0), (7, .ptr 1 0), (9, .own 2 (Zn _ x.1) 39)], [(0, .box [.d (.int .i64 x0.Conv), .d (.int .i64 x0.Soft), .d (.int .i64 x0.Seq), .d (.int .i64 x0.Size), .d (.int .i64 x0.Open)]), (1, .box [.d (.lst (Ze _ (eI .i64) x3.Keep) (Zn _ x3.Keep)), .d (.int .u64 x3.Soft), .d (.int .i64 x3.Tear)]), (2, .row (Ze _ eRef14_Step x.1) 39 55)], 3, 133⟩) (fun _ => True) [2, 4, 7, 9] ?_ ?_
    · cbv
      obtain ⟨p7, q6, hp8, hf9, hq10⟩ := bnd_loop h; clear h
      refine LoopB.mk {x : Nat × Int × (List TRef14_Step) // loopN p7 x.1 x.2 = some q6} (fun x => ⟨[(1, .d (.lst (Ze _ (eI .u8) x1) (Zn _ x1))), (2, .d (.int .u16 x2)), (4, .ptr 0 0), (7, .ptr 1 0), (9, .own 2 (Zn _ x.1.2.2) 39), (10, .d (.int .i64 x.1.2.1))], [(0, .box [.d (.int .i64 x0.Conv), .d (.int .i64 x0.Soft), .d (.int .i64 x0.Seq), .d (.int .i64 x0.Size), .d (.int .i64 x0.Open)]), (1, .box [.d (.lst (Ze _ (eI .i64) x3.Keep) (Zn _ x3.Keep)), .d (.int .u64 x3.Soft), .d (.int .i64 x3.Tear)]), (2, .row (Ze _ eRef14_Step x.1.2.2) 39 55)], 3, 133⟩) (fun x => x.1.1) [1, 2, 4, 7, 9, 10] 2 ⟨(FUEL, _), hf9⟩ ⟨[(0, 0), (1, 1)], [.slot 9 2 39 55], ?_⟩ ?_
      · simp only [hZ.e0, hZ.n0]; rfl
      · rintro ⟨⟨N13, ⟨v16, l17⟩⟩, hr12⟩; obtain ⟨M14, o11, eN15, h, hr12⟩ := loopN_step hr12; subst eN15; rw [hp8] at h; try dsimp only at h ⊢
        cbv
        revert h; refine zln hJ hZ fun v18 h => ?_; cbv
        revert h; refine zc hJ fun b19 h => ?_; cbv
        cases b19 with
        | true =>
          replace h := cnd_t h; cbv
          revert h; refine zlp hJ hZ fun y20 k21 hy22 ho23 h => ?_; cbv
          refine zl hJ hZ (eI_len .u8) hy22 ho23 (fun hJ => by subst hJ; rfl) (LdW.lds (eI_len .u8) (wI .u8 _)) ?_; cbv
          revert h; refine zq hJ fun v24 h => ?_; cbv
          revert h; refine zw hJ fun v25 h => ?_; cbv
          revert h; refine zb hJ fun v26 h => ?_; cbv
          revert h; refine zb hJ fun v27 h => ?_; cbv
          obtain ⟨o29, h28, h⟩ := bnd h
          refine call_by hP (s18 hZ h28) hJ rfl rfl ?_; cbv
          try rw [rz32u8]
          refine zbs hJ hZ (show IsL eRef14_Step _ _ [(TRef14_Step.mk v24 o29 false)] from ⟨by obtain ⟨rfl, rfl, rfl, rfl, rfl⟩ := hZ; subst hJ; simp [stdJ, std, encL, eRef14_Step, eI], rfl⟩) (by subst hJ; exact (by decide : 39 ≤ 16777216)) ?_; cbv
          revert h; refine zap hJ hZ eRef14_Step_len fun l30 h => ?_; cbv
          refine ⟨fun _ => by kernel_rfl, ?_⟩; cbv
          revert h; refine zb hJ fun v31 h => ?_; cbv
          cases h; exact ⟨⟨(M14, _), hr12⟩, [(0, 0), (1, 1), (22, 2)], 3, [], rfl, Nat.lt_succ_self _⟩
        | false =>
          replace h := cnd_f h; cbv
          cases h; have h := hq10; obtain rfl := hr12; try dsimp only at h
          exact ⟨⟨_, h⟩, [(0, 0), (1, 1), (2, 2)], 3, [], rfl, trivial⟩
    · rintro ⟨l6, h⟩ -; rw [hj5] at h; try dsimp only at h ⊢
      cbv
      obtain ⟨o8, h7, h⟩ := bnd h
      refine callM_by hP (s13 hZ h7) [] true hJ rfl rfl (by cbv) rfl rfl (.inr ⟨trivial, ⟨⟨trivial, ⟨trivial, ⟨trivial, ⟨trivial, ⟨trivial, ⟨trivial, ⟨trivial, ⟨trivial, ⟨trivial, ⟨trivial, ⟨trivial, ⟨trivial, ⟨trivial, trivial⟩⟩⟩⟩⟩⟩⟩⟩⟩⟩⟩⟩⟩, ⟨(noL_enc (isL hZ eZone o8.zones) eZone_noL), ⟨(noL_map (isM hZ (eI .i64) eB o8.finished) (eI_noL .i64) eB_noL), ⟨(noL_map (isM hZ eAt (eA (n := 64) .u8) o8.safe) eAt_noL (eA_noL .u8)), ⟨(noL_map (isM hZ eAt (eA (n := 64) .u8) o8.now) eAt_noL (eA_noL .u8)), ⟨(noL_enc (isL hZ eDev_write o8.cached) eDev_write_noL), trivial⟩⟩⟩⟩⟩⟩⟩) ?_; cbv
      revert h; refine zw hJ fun v9 h => ?_; cbv
      obtain ⟨⟨l11, v12, o13⟩, h10, h⟩ := bnd h; try dsimp only at h
      refine callM_by hP (s14 hZ h10) [(5, 0), (6, 1), (7, 2), (8, 3), (9, 4), (10, 5)] false hJ rfl rfl rfl rfl rfl (.inl rfl) ?_; cbv
      obtain ⟨o15, h14, h⟩ := bnd h
      refine callM_by hP (s19 hZ h14) [(5, 0), (7, 1), (8, 2), (6, 3), (9, 4), (10, 5)] false hJ rfl rfl rfl rfl rfl (.inl rfl) ?_; cbv
      refine JoinP.mk Unit (fun _ => ⟨[(2, .d (.int .u16 x2)), (4, .ptr 0 0), (11, .ptr 1 0), (12, .own 2 (Zn _ l11) 38), (13, .d (.int .i64 v12))], [(0, .box [.d (.int .i64 x0.Conv), .d (.int .i64 x0.Soft), .d (.int .i64 x0.Seq), .d (.int .i64 x0.Size), .d (.int .i64 x0.Open)]), (1, .box [.d (.int .i64 (TDev_Device.mk o15.g o15.zones o15.finished o15.safe o15.now ([] : List TDev_write) o15.left_ o15.down o15.illegal).g.Conv), .d (.int .i64 (TDev_Device.mk o15.g o15.zones o15.finished o15.safe o15.now ([] : List TDev_write) o15.left_ o15.down o15.illegal).g.Soft), .d (.int .i64 (TDev_Device.mk o15.g o15.zones o15.finished o15.safe o15.now ([] : List TDev_write) o15.left_ o15.down o15.illegal).g.Seq), .d (.int .i64 (TDev_Device.mk o15.g o15.zones o15.finished o15.safe o15.now ([] : List TDev_write) o15.left_ o15.down o15.illegal).g.Size), .d (.int .i64 (TDev_Device.mk o15.g o15.zones o15.finished o15.safe o15.now ([] : List TDev_write) o15.left_ o15.down o15.illegal).g.Open), .own 3 (Zn _ ((TDev_Device.mk o15.g o15.zones o15.finished o15.safe o15.now ([] : List TDev_write) o15.left_ o15.down o15.illegal).zones)) 2, .map 4, .map 5, .map 6, .own 7 (Zn _ ((TDev_Device.mk o15.g o15.zones o15.finished o15.safe o15.now ([] : List TDev_write) o15.left_ o15.down o15.illegal).cached)) 66, .d (.int .i64 (TDev_Device.mk o15.g o15.zones o15.finished o15.safe o15.now ([] : List TDev_write) o15.left_ o15.down o15.illegal).left_), .d (.bool ((TDev_Device.mk o15.g o15.zones o15.finished o15.safe o15.now ([] : List TDev_write) o15.left_ o15.down o15.illegal).down)), .d (.int .i64 (TDev_Device.mk o15.g o15.zones o15.finished o15.safe o15.now ([] : List TDev_write) o15.left_ o15.down o15.illegal).illegal)]), (2, .row (Ze _ eFound l11) 38 33), (3, .row (Ze _ eZone ((TDev_Device.mk o15.g o15.zones o15.finished o15.safe o15.now ([] : List TDev_write) o15.left_ o15.down o15.illegal).zones)) 2 66), (4, .mp false false (Zm _ _ (eI .i64) eB ((TDev_Device.mk o15.g o15.zones o15.finished o15.safe o15.now ([] : List TDev_write) o15.left_ o15.down o15.illegal).finished))), (5, .mp true true (Zm _ _ eAt (eA (n := 64) .u8) ((TDev_Device.mk o15.g o15.zones o15.finished o15.safe o15.now ([] : List TDev_write) o15.left_ o15.down o15.illegal).safe))), (6, .mp true true (Zm _ _ eAt (eA (n := 64) .u8) ((TDev_Device.mk o15.g o15.zones o15.finished o15.safe o15.now ([] : List TDev_write) o15.left_ o15.down o15.illegal).now))), (7, .row (Ze _ eDev_write ((TDev_Device.mk o15.g o15.zones o15.finished o15.safe o15.now ([] : List TDev_write) o15.left_ o15.down o15.illegal).cached)) 66 88)], 8, 133⟩) (fun _ => True) [2, 4, 11, 12, 13] ⟨(), [(0, 0), (5, 1), (17, 2), (28, 3), (7, 4), (8, 5), (29, 6)], 7, [.cell 1 9 7 66 88], (by simp only [hZ.e0, hZ.n0]; rfl), trivial⟩ ?_; intro _ _; cbv
      revert h; refine zw hJ fun v16 h => ?_; cbv
      obtain ⟨⟨l18, v19, o20⟩, h17, h⟩ := bnd h; try dsimp only at h
      refine callM_by hP (s14 hZ h17) [(1, 0), (3, 1), (4, 2), (5, 3), (6, 4), (7, 5)] false hJ rfl rfl rfl rfl rfl (.inl rfl) ?_; cbv
      obtain ⟨j21, hj22, h⟩ := jn h
      refine JoinP.mk {x : Unit // j21 x = some z0} (fun x => ⟨[(2, .d (.int .u16 x2)), (12, .own 0 (Zn _ l11) 38), (14, .own 1 (Zn _ l18) 38)], [(0, .row (Ze _ eFound l11) 38 33), (1, .row (Ze _ eFound l18) 38 33)], 2, 133⟩) (fun _ => True) [2, 12, 14] ?_ ?_
      · cbv
        revert h; refine zc hJ fun b23 h => ?_; cbv
        cases b23 with
        | true =>
          replace h := cnd_t h; cbv
          cases h
          exact ⟨_, .refl _, [], _, _, [], _, rfl, rfl, rfl, rfl, rfl, rfl⟩
        | false =>
          replace h := cnd_f h; cbv
          revert h; refine zc hJ fun b24 h => ?_; cbv
          cases b24 with
          | true =>
            replace h := cnd_t h; cbv
            cases h
            exact ⟨_, .refl _, [], _, _, [], _, rfl, rfl, rfl, rfl, rfl, rfl⟩
          | false =>
            replace h := cnd_f h; cbv
            exact ⟨⟨_, h⟩, [(2, 0), (12, 1)], 2, [], rfl, trivial⟩
      · rintro ⟨_, h⟩ -; rw [hj22] at h; try dsimp only at h ⊢
        cbv
        revert h; refine zw hJ fun v23 h => ?_; cbv
        obtain ⟨l25, h24, h⟩ := bnd h
        refine snap_by hP (s10 hZ h24) hJ (by cbv) rfl ⟨trivial, ⟨noL_enc (isL hZ eFound l25) eFound_noL, trivial⟩⟩ ?_; cbv
        obtain ⟨j26, hj27, h⟩ := jn h
        refine JoinP.mk {x : Unit // j26 x = some z0} (fun x => ⟨[(2, .d (.int .u16 x2)), (12, .d (.lst (Ze _ eFound l11) (Zn _ l11))), (14, .own 0 (Zn _ l18) 38), (16, .own 1 (Zn _ l25) 38)], [(0, .row (Ze _ eFound l18) 38 33), (1, .row (Ze _ eFound l25) 38 33)], 2, 133⟩) (fun _ => True) [2, 12, 14, 16] ?_ ?_
        · cbv
          refine JoinP.mk Unit (fun _ => ⟨[(2, .d (.int .u16 x2)), (12, .d (.lst (Ze _ eFound l11) (Zn _ l11))), (14, .own 0 (Zn _ l18) 38), (16, .own 1 (Zn _ l25) 38)], [(0, .row (Ze _ eFound l18) 38 33), (1, .row (Ze _ eFound l25) 38 33)], 2, 133⟩) (fun _ => True) [2, 12, 14, 16] ⟨(), [(1, 0), (5, 1)], 2, [], rfl, trivial⟩ ?_; intro _ _; cbv
          revert h; refine zln hJ hZ fun v28 h => ?_; cbv
          revert h; refine zln hJ hZ fun v29 h => ?_; cbv
          revert h; refine zc hJ fun b30 h => ?_; cbv
          cases b30 with
          | true =>
            replace h := cnd_t h; cbv
            cases h
            exact ⟨_, .refl _, [], _, _, [], _, rfl, rfl, rfl, rfl, rfl, rfl⟩
          | false =>
            replace h := cnd_f h; cbv
            revert h; refine zln hJ hZ fun v31 h => ?_; cbv
            revert h; refine zup hJ hZ eFound_len fun l32 h => ?_; cbv
            obtain ⟨b34, h33, h⟩ := bnd h
            refine snap_by hP (s9 hZ h33) hJ (by cbv) rfl ⟨trivial, trivial⟩ ?_; cbv
            revert h; refine st_not hJ fun b35 _ h => ?_; cbv
            cases b35 with
            | true =>
              replace h := cnd_t h; cbv
              cases h
              exact ⟨_, .refl _, [], _, _, [], _, rfl, rfl, rfl, rfl, rfl, rfl⟩
            | false =>
              replace h := cnd_f h; cbv
              exact ⟨⟨_, h⟩, [(0, 0), (1, 1)], 2, [], rfl, trivial⟩
        · rintro ⟨_, h⟩ -; rw [hj27] at h; try dsimp only at h ⊢
          cbv
          obtain ⟨j28, hj29, h⟩ := jn h
          refine JoinP.mk {x : Unit // j28 x = some z0} (fun x => ⟨[(2, .d (.int .u16 x2)), (12, .d (.lst (Ze _ eFound l11) (Zn _ l11))), (14, .own 0 (Zn _ l18) 38), (16, .own 1 (Zn _ l25) 38)], [(0, .row (Ze _ eFound l18) 38 33), (1, .row (Ze _ eFound l25) 38 33)], 2, 133⟩) (fun _ => True) [2, 12, 14, 16] ?_ ?_
          · cbv
            obtain ⟨p31, q30, hp32, hf33, hq34⟩ := bnd_loop h; clear h
            refine LoopB.mk {x : Nat × Int // loopN p31 x.1 x.2 = some q30} (fun x => ⟨[(2, .d (.int .u16 x2)), (12, .d (.lst (Ze _ eFound l11) (Zn _ l11))), (14, .own 0 (Zn _ l18) 38), (16, .own 1 (Zn _ l25) 38), (17, .d (.int .i64 x.1.2))], [(0, .row (Ze _ eFound l18) 38 33), (1, .row (Ze _ eFound l25) 38 33)], 2, 133⟩) (fun x => x.1.1) [2, 12, 14, 16, 17] 2 ⟨(FUEL, _), hf33⟩ ⟨[(0, 0), (1, 1)], [], ?_⟩ ?_
            · rfl
            · rintro ⟨⟨N37, v40⟩, hr36⟩; obtain ⟨M38, o35, eN39, h, hr36⟩ := loopN_step hr36; subst eN39; rw [hp32] at h; try dsimp only at h ⊢
              cbv
              revert h; refine zln hJ hZ fun v41 h => ?_; cbv
              revert h; refine zc hJ fun b42 h => ?_; cbv
              cases b42 with
              | true =>
                replace h := cnd_t h; cbv
                revert h; refine zpr hJ hZ fun y43 k44 hy45 ho46 h => ?_; cbv
                refine zl hJ hZ eFound_len hy45 ho46 (fun hJ => by subst hJ; rfl) (l_eFound_3_3 hZ _) ?_; cbv
                revert h; refine zw hJ fun v47 h => ?_; cbv
                revert h; refine zln hJ hZ fun v48 h => ?_; cbv
                revert h; refine zb hJ fun v49 h => ?_; cbv
                revert h; refine zb hJ fun v50 h => ?_; cbv
                revert h; refine zc hJ fun b51 h => ?_; cbv
                cases b51 with
                | true =>
                  replace h := cnd_t h; cbv
                  cases h; have h := hq34; obtain rfl := hr36; try dsimp only at h
                  cases h
                  exact ⟨_, .refl _, [], _, _, [], _, rfl, rfl, rfl, rfl, rfl, rfl⟩
                | false =>
                  replace h := cnd_f h; cbv
                  revert h; refine zb hJ fun v52 h => ?_; cbv
                  cases h; exact ⟨⟨(M38, _), hr36⟩, [(0, 0), (1, 1)], 2, [], rfl, Nat.lt_succ_self _⟩
              | false =>
                replace h := cnd_f h; cbv
                cases h; have h := hq34; obtain rfl := hr36; try dsimp only at h
                exact ⟨⟨_, h⟩, [(0, 0), (1, 1)], 2, [], rfl, trivial⟩
          · rintro ⟨_, h⟩ -; rw [hj29] at h; try dsimp only at h ⊢
            cbv
            revert h; refine zln hJ hZ fun v30 h => ?_; cbv
            revert h; refine zw hJ fun v31 h => ?_; cbv
            obtain ⟨l33, h32, h⟩ := bnd h
            refine call_by hP (s10 hZ h32) hJ rfl rfl ?_; cbv
            revert h; refine zln hJ hZ fun v34 h => ?_; cbv
            revert h; refine zc hJ fun b35 h => ?_; cbv
            cases b35 with
            | true =>
              replace h := cnd_t h; cbv
              cases h
              exact ⟨_, .refl _, [], _, _, [], _, rfl, rfl, rfl, rfl, rfl, rfl⟩
            | false =>
              replace h := cnd_f h; cbv
              revert h; refine zln hJ hZ fun v36 h => ?_; cbv
              revert h; refine zln hJ hZ fun v37 h => ?_; cbv
              revert h; refine zc hJ fun b38 h => ?_; cbv
              cases h
              exact ⟨_, .refl _, [], _, _, [], _, rfl, rfl, rfl, rfl, rfl, rfl⟩
end Go.AX
