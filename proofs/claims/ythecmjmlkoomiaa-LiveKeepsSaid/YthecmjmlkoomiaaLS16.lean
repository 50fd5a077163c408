/- What functions of the program compute: each is what its Lean function says. -/
import Derived.Test.YthecmjmlkoomiaaLS1
import Derived.Test.YthecmjmlkoomiaaLS11
import Derived.Test.YthecmjmlkoomiaaLS12
import Derived.Test.YthecmjmlkoomiaaLS4
import Derived.Test.YthecmjmlkoomiaaLS5
import Derived.Test.YthecmjmlkoomiaaLS8
namespace Go.AX
open Go.Proofs
set_option autoImplicit false
set_option linter.unusedVariables false
set_option maxRecDepth 100000
set_option maxHeartbeats 100000000
set_option linter.unusedSimpArgs false

theorem s9 {v1 : Int} {v2 : Int} {v3 : Int} {v4 : Int} {v5 : Int} {l6 : List Int} {c7 : List D} {n8 : Nat} {v10 : Int} (hl9 : IsL (eI .i64) c7 n8 l6) {b11 : Bool}  (h : m_law10_LiveKeeps (TGeom.mk v1 v2 v3 v4 v5) l6 v10 = some b11) : Spec Try.prog 9 [.agg [.d (.int .i64 v1), .d (.int .i64 v2), .d (.int .i64 v3), .d (.int .i64 v4), .d (.int .i64 v5)], .d (.lst c7 n8), .d (.int .i64 v10)] ⟨.d (.bool b11), [], 0, True⟩ := by
  refine spec_b [6, 4] Try.func9 rfl rfl rfl fun J P hJ hP => ?_
  dsimp only [m_law10_LiveKeeps] at h
  cbv
  obtain ⟨j14, hj15, h⟩ := jn h
  refine JoinP.mk ({x : Unit // j14 () = some b11}) (fun x => ⟨[(1, .d (.lst c7 n8)), (2, .d (.int .i64 v10)), (3, .ptr 0 0)], [(0, .box [.d (.int .i64 v1), .d (.int .i64 v2), .d (.int .i64 v3), .d (.int .i64 v4), .d (.int .i64 v5)])], 1, 82⟩) (fun _ => True) [1, 2, 3] ?_ ?_
  · cbv
    obtain ⟨j17, hj18, h⟩ := jn h
    refine JoinP.mk ({x : Bool // j17 (x) = some b11}) (fun x => ⟨[(1, .d (.lst c7 n8)), (2, .d (.int .i64 v10)), (3, .ptr 0 0), (25, .d (.bool x.1))], [(0, .box [.d (.int .i64 v1), .d (.int .i64 v2), .d (.int .i64 v3), .d (.int .i64 v4), .d (.int .i64 v5)])], 1, 82⟩) (fun _ => True) [1, 2, 3, 25] ?_ ?_
    · cbv
      obtain ⟨b21, h20, h⟩ := bnd h
      refine call_by hP (s28 h20) hJ rfl rfl ?_
      cbv
      revert h
      refine st_not hJ fun b22 eb22 h => ?_
      cbv
      cases b22 with
      | true =>
        replace h := cnd_t h
        cbv
        exact ⟨⟨(true), h⟩, [(0, 0)], 1, [], rfl, trivial⟩
      | false =>
        replace h := cnd_f h
        cbv
        obtain ⟨b25, h24, h⟩ := bnd h
        refine call_by hP (s29 h24) hJ rfl rfl ?_
        cbv
        revert h
        refine st_not hJ fun b26 eb26 h => ?_
        cbv
        cases b26 with
        | true =>
          replace h := cnd_t h
          cbv
          exact ⟨⟨(true), h⟩, [(0, 0)], 1, [], rfl, trivial⟩
        | false =>
          replace h := cnd_f h
          cbv
          revert h
          refine st_len hJ hl9 fun v27 ev27 h => ?_
          cbv
          revert h
          refine st_cmp hJ fun b28 eb28 h => ?_
          cbv
          exact ⟨⟨(b28), h⟩, [(0, 0)], 1, [], rfl, trivial⟩
    · rintro ⟨b19, h⟩ -
      rw [hj18] at h
      try dsimp only at h ⊢
      cbv
      cases b19 with
      | true =>
        replace h := cnd_t h
        cbv
        obtain ⟨b22, h21, h⟩ := bnd h
        refine call_by hP (s28 h21) hJ rfl rfl ?_
        cbv
        cases h
        exact ⟨_, .refl _, [], _, _, [], _, rfl, rfl, rfl, rfl, rfl, rfl⟩
      | false =>
        replace h := cnd_f h
        cbv
        exact ⟨⟨(), h⟩, [(0, 0)], 1, [], rfl, trivial⟩
  · rintro ⟨_, h⟩ -
    rw [hj15] at h
    try dsimp only at h ⊢
    cbv
    have hl16 : IsL (eI .i64) [] 0 [] := ⟨rfl, rfl⟩
    refine st_any hJ rfl rfl (by subst hJ; exact (by decide : 0 ≤ 16777216)) ?_
    cbv
    revert h
    refine st_app hJ (eI_len .i64) hl16 hl9 fun c18 n19 l17 hl20 h => ?_
    cbv
    rcases altE h with h | h
    · obtain ⟨_, h22, h⟩ := bnd h
      refine callM_by hP (s38l hl9 h22) [] false hJ rfl rfl rfl rfl rfl (.inl rfl) ?_
      cbv
      obtain ⟨p24, q23, hp25, hf26, hq27⟩ := bnd_loop h
      clear h
      refine LoopB.mk ({x : Nat × Int // loopN p24 x.1 (x.2) = some q23}) (fun x => ⟨[(1, .d (.lst c7 n8)), (2, .d (.int .i64 v10)), (7, .own 0 n19 1), (8, .d (.lit (.pointer none))), (9, .d (.bool false)), (10, .d (.int .i64 x.1.2))], [(0, .row c18 1 3)], 1, 82⟩) (fun x => x.1.1) [1, 2, 7, 8, 9, 10] 1 ⟨(FUEL, 0), hf26⟩ ⟨[(4, 0)], [], ?_⟩ ?_
      · rfl
      · rintro ⟨⟨N30, v33⟩, hr29⟩
        obtain ⟨M31, o28, eN32, h, hr29⟩ := loopN_step hr29
        subst eN32
        rw [hp25] at h
        try dsimp only at h ⊢
        cbv
        revert h
        refine st_len hJ hl9 fun v34 ev34 h => ?_
        cbv
        revert h
        refine st_cmp hJ fun b35 eb35 h => ?_
        cbv
        cases b35 with
        | true =>
          replace h := cnd_t h
          cbv
          revert h
          refine st_idx_lp hJ hl9 fun y36 k37 hy38 ho39 h => ?_
          cbv
          refine st_ld hJ (eI_len .i64) hl9 hy38 ho39 0 (fun hJ => by subst hJ; rfl) ([.int .i64 y36]) (Nat.le_of_ble_eq_true rfl) rfl (.int .nil) rfl ?_
          cbv
          revert h
          refine st_idx_pr hJ hl20 fun y41 k42 hy43 ho44 h => ?_
          cbv
          refine st_ld hJ (eI_len .i64) hl20 hy43 ho44 0 (fun hJ => by subst hJ; rfl) ([.int .i64 y41]) (Nat.le_of_ble_eq_true rfl) rfl (.int .nil) rfl ?_
          cbv
          revert h
          refine st_cmp hJ fun b46 eb46 h => ?_
          cbv
          refine ⟨fun _ => by kernel_rfl, ?_⟩
          cbv
          cases b46 with
          | true =>
            replace h := cnd_t h
            cbv
            cases h
            have h := hq27
            obtain rfl := hr29
            try dsimp only at h
            cases h
            exact ⟨_, .refl _, [], _, _, [], _, rfl, rfl, rfl, rfl, rfl, rfl⟩
          | false =>
            replace h := cnd_f h
            cbv
            revert h
            refine st_bin hJ fun v47 ev47 h => ?_
            cbv
            cases h
            exact ⟨⟨(M31, v47), hr29⟩, [(0, 0)], 1, [], rfl, Nat.lt_succ_self _⟩
        | false =>
          replace h := cnd_f h
          cbv
          cases h
          have h := hq27
          obtain rfl := hr29
          try dsimp only at h
          revert h
          refine st_not hJ fun b36 eb36 h => ?_
          replace eb36 : b36 = true := eb36
          subst eb36
          cbv
          cases h
          exact ⟨_, .refl _, [], _, _, [], _, rfl, rfl, rfl, rfl, rfl, rfl⟩
    · obtain ⟨⟨⟨v23, v24, v25, v26, v27⟩, m28, m31⟩, h22, h⟩ := bnd h
      obtain ⟨c29, hm30⟩ := nameM eAt (eI .i64) m28
      obtain ⟨c32, hm33⟩ := nameM (eI .i64) (eI .i64) m31
      try dsimp only at h
      refine callM_by hP (s38r hl9 hm30 hm33 h22) [] false hJ rfl rfl rfl rfl rfl (.inl rfl) ?_
      cbv
      obtain ⟨p35, q34, hp36, hf37, hq38⟩ := bnd_loop h
      clear h
      refine LoopB.mk ({x : Nat × Int // loopN p35 x.1 (x.2) = some q34}) (fun x => ⟨[(1, .d (.lst c7 n8)), (2, .d (.int .i64 v10)), (7, .own 0 n19 1), (8, .ptr 1 0), (9, .d (.bool true)), (10, .d (.int .i64 x.1.2))], [(0, .row c18 1 3), (1, .box [.d (.int .i64 v23), .d (.int .i64 v24), .d (.int .i64 v25), .d (.int .i64 v26), .d (.int .i64 v27), .map 2, .map 3]), (2, .mp true false c29), (3, .mp false false c32)], 4, 82⟩) (fun x => x.1.1) [1, 2, 7, 8, 9, 10] 4 ⟨(FUEL, 0), hf37⟩ ⟨[(4, 0), (9, 1), (10, 2), (11, 3)], [], ?_⟩ ?_
      · rfl
      · rintro ⟨⟨N41, v44⟩, hr40⟩
        obtain ⟨M42, o39, eN43, h, hr40⟩ := loopN_step hr40
        subst eN43
        rw [hp36] at h
        try dsimp only at h ⊢
        cbv
        revert h
        refine st_len hJ hl9 fun v45 ev45 h => ?_
        cbv
        revert h
        refine st_cmp hJ fun b46 eb46 h => ?_
        cbv
        cases b46 with
        | true =>
          replace h := cnd_t h
          cbv
          revert h
          refine st_idx_lp hJ hl9 fun y47 k48 hy49 ho50 h => ?_
          cbv
          refine st_ld hJ (eI_len .i64) hl9 hy49 ho50 0 (fun hJ => by subst hJ; rfl) ([.int .i64 y47]) (Nat.le_of_ble_eq_true rfl) rfl (.int .nil) rfl ?_
          cbv
          revert h
          refine st_idx_pr hJ hl20 fun y52 k53 hy54 ho55 h => ?_
          cbv
          refine st_ld hJ (eI_len .i64) hl20 hy54 ho55 0 (fun hJ => by subst hJ; rfl) ([.int .i64 y52]) (Nat.le_of_ble_eq_true rfl) rfl (.int .nil) rfl ?_
          cbv
          revert h
          refine st_cmp hJ fun b57 eb57 h => ?_
          cbv
          refine ⟨fun _ => by kernel_rfl, ?_⟩
          cbv
          cases b57 with
          | true =>
            replace h := cnd_t h
            cbv
            cases h
            have h := hq38
            obtain rfl := hr40
            try dsimp only at h
            cases h
            exact ⟨_, .refl _, [], _, _, [], _, rfl, rfl, rfl, rfl, rfl, rfl⟩
          | false =>
            replace h := cnd_f h
            cbv
            revert h
            refine st_bin hJ fun v58 ev58 h => ?_
            cbv
            cases h
            exact ⟨⟨(M42, v58), hr40⟩, [(0, 0), (1, 1), (2, 2), (3, 3)], 4, [], rfl, Nat.lt_succ_self _⟩
        | false =>
          replace h := cnd_f h
          cbv
          cases h
          have h := hq38
          obtain rfl := hr40
          try dsimp only at h
          revert h
          refine st_not hJ fun b47 eb47 h => ?_
          replace eb47 : b47 = false := eb47
          subst eb47
          cbv
          obtain ⟨l50, h49, h⟩ := bnd h
          obtain ⟨c51, n52, hl53⟩ := nameL eAt l50
          refine callM_by hP (s36 hm30 hm33 hl53 h49) [(1, 0), (2, 1), (3, 2)] false hJ rfl rfl rfl rfl rfl (.inl rfl) ?_
          cbv
          obtain ⟨l56, h55, h⟩ := bnd h
          obtain ⟨c57, n58, hl59⟩ := nameL eAt l56
          refine callM_by hP (s36 hm30 hm33 hl59 h55) [(1, 0), (2, 1), (3, 2)] false hJ rfl rfl rfl rfl rfl (.inl rfl) ?_
          cbv
          obtain ⟨p61, q60, hp62, hf63, hq64⟩ := bnd_loop h
          clear h
          refine LoopB.mk ({x : Nat × Int × (List TAt) × (List D) × Nat // IsL eAt x.2.2.2.1 x.2.2.2.2 x.2.2.1 ∧ loopN p61 x.1 (x.2.1, x.2.2.1) = some q60}) (fun x => ⟨[(2, .d (.int .i64 v10)), (8, .ptr 0 0), (11, .own 1 x.1.2.2.2.2 2), (12, .own 2 n58 2), (13, .d (.int .i64 x.1.2.1))], [(0, .box [.d (.int .i64 v23), .d (.int .i64 v24), .d (.int .i64 v25), .d (.int .i64 v26), .d (.int .i64 v27), .map 3, .map 4]), (1, .row x.1.2.2.2.1 2 40), (2, .row c57 2 40), (3, .mp true false c29), (4, .mp false false c32)], 5, 82⟩) (fun x => x.1.1) [2, 8, 11, 12, 13] 5 ⟨(FUEL, 0, l50, c51, n52), hl53, hf63⟩ ⟨[(1, 0), (12, 1), (17, 2), (2, 3), (3, 4)], [], ?_⟩ ?_
          · rfl
          · rintro ⟨⟨N67, v70, l71, c72, n73⟩, hl74, hr66⟩
            obtain ⟨M68, o65, eN69, h, hr66⟩ := loopN_step hr66
            subst eN69
            rw [hp62] at h
            try dsimp only at h ⊢
            cbv
            revert h
            refine st_len hJ hl74 fun v75 ev75 h => ?_
            cbv
            revert h
            refine st_cmp hJ fun b76 eb76 h => ?_
            cbv
            cases b76 with
            | true =>
              replace h := cnd_t h
              cbv
              revert h
              refine st_idx_pr hJ hl74 fun y77 k78 hy79 ho80 h => ?_
              obtain ⟨v81, v82⟩ := y77
              try dsimp only at h
              cbv
              revert h
              refine st_st hJ eAt_len hl74 hy79 ho80 1 (fun hJ => by subst hJ; rfl) rfl (Nat.le_of_ble_eq_true rfl) (TAt.mk v81 (-7)) rfl fun c84 l83 hl85 h => ?_
              cbv
              revert h
              refine st_bin hJ fun v86 ev86 h => ?_
              cbv
              cases h
              exact ⟨⟨(M68, v86, l83, c84, n73), hl85, hr66⟩, [(0, 0), (1, 1), (2, 2), (3, 3), (4, 4)], 5, [], rfl, Nat.lt_succ_self _⟩
            | false =>
              replace h := cnd_f h
              cbv
              cases h
              have h := hq64
              obtain rfl := hr66
              try dsimp only at h
              obtain ⟨l79, h78, h⟩ := bnd h
              obtain ⟨c80, n81, hl82⟩ := nameL eAt l79
              refine callM_by hP (s36 hm30 hm33 hl82 h78) [(0, 0), (3, 1), (4, 2)] false hJ rfl rfl rfl rfl rfl (.inl rfl) ?_
              cbv
              obtain ⟨b85, h84, h⟩ := bnd h
              refine snap_by hP (s40 hl82 hl59 h84) hJ (by cbv) rfl ⟨trivial, trivial⟩ ?_
              cbv
              cases b85 with
              | true =>
                replace h := cnd_t h
                cbv
                obtain ⟨v88, h87, h⟩ := bnd h
                refine callM_by hP (s35 hm30 hm33 h87) [(0, 0), (3, 1), (4, 2)] false hJ rfl rfl rfl rfl rfl (.inl rfl) ?_
                cbv
                revert h
                refine st_len hJ hl59 fun v89 ev89 h => ?_
                cbv
                revert h
                refine st_cmp hJ fun b90 eb90 h => ?_
                cbv
                cases h
                exact ⟨_, .refl _, [], _, _, [], _, rfl, rfl, rfl, rfl, rfl, rfl⟩
              | false =>
                replace h := cnd_f h
                cbv
                cases h
                exact ⟨_, .refl _, [], _, _, [], _, rfl, rfl, rfl, rfl, rfl, rfl⟩
end Go.AX
