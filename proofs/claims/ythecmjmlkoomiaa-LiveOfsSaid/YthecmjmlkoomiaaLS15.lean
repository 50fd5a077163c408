/- What functions of the program compute: each is what its Lean function says. -/
import Derived.Test.YthecmjmlkoomiaaLS10
import Derived.Test.YthecmjmlkoomiaaLS11
import Derived.Test.YthecmjmlkoomiaaLS12
import Derived.Test.YthecmjmlkoomiaaLS6
import Derived.Test.YthecmjmlkoomiaaLS8
namespace Go.AX
open Go.Proofs
set_option autoImplicit false
set_option linter.unusedVariables false
set_option maxRecDepth 100000
set_option maxHeartbeats 100000000
set_option linter.unusedSimpArgs false

theorem s7 {v1 : Int} {v2 : Int} {v3 : Int} {v4 : Int} {v5 : Int} {l6 : List Int} {c7 : List D} {n8 : Nat} (hl9 : IsL (eI .i64) c7 n8 l6) {b10 : Bool}  (h : m_law10_LiveOfs (TGeom.mk v1 v2 v3 v4 v5) l6 = some b10) : Spec Try.prog 7 [.agg [.d (.int .i64 v1), .d (.int .i64 v2), .d (.int .i64 v3), .d (.int .i64 v4), .d (.int .i64 v5)], .d (.lst c7 n8)] ⟨.d (.bool b10), [], 0, True⟩ := by
  refine spec_b [6, 4, 22, 18] Try.func7 rfl rfl rfl fun J P hJ hP => ?_
  dsimp only [m_law10_LiveOfs] at h
  cbv
  obtain ⟨j13, hj14, h⟩ := jn h
  refine JoinP.mk ({x : Unit // j13 () = some b10}) (fun x => ⟨[(1, .d (.lst c7 n8)), (2, .ptr 0 0)], [(0, .box [.d (.int .i64 v1), .d (.int .i64 v2), .d (.int .i64 v3), .d (.int .i64 v4), .d (.int .i64 v5)])], 1, 70⟩) (fun _ => True) [1, 2] ?_ ?_
  · cbv
    obtain ⟨j16, hj17, h⟩ := jn h
    refine JoinP.mk ({x : Bool // j16 (x) = some b10}) (fun x => ⟨[(1, .d (.lst c7 n8)), (2, .ptr 0 0), (21, .d (.bool x.1))], [(0, .box [.d (.int .i64 v1), .d (.int .i64 v2), .d (.int .i64 v3), .d (.int .i64 v4), .d (.int .i64 v5)])], 1, 70⟩) (fun _ => True) [1, 2, 21] ?_ ?_
    · cbv
      obtain ⟨b20, h19, h⟩ := bnd h
      refine call_by hP (s28 h19) hJ rfl rfl ?_
      cbv
      revert h
      refine st_not hJ fun b21 eb21 h => ?_
      cbv
      cases b21 with
      | true =>
        replace h := cnd_t h
        cbv
        exact ⟨⟨(true), h⟩, [(0, 0)], 1, [], rfl, trivial⟩
      | false =>
        replace h := cnd_f h
        cbv
        obtain ⟨b24, h23, h⟩ := bnd h
        refine call_by hP (s29 h23) hJ rfl rfl ?_
        cbv
        revert h
        refine st_not hJ fun b25 eb25 h => ?_
        cbv
        cases b25 with
        | true =>
          replace h := cnd_t h
          cbv
          exact ⟨⟨(true), h⟩, [(0, 0)], 1, [], rfl, trivial⟩
        | false =>
          replace h := cnd_f h
          cbv
          revert h
          refine st_len hJ hl9 fun v26 ev26 h => ?_
          cbv
          revert h
          refine st_cmp hJ fun b27 eb27 h => ?_
          cbv
          exact ⟨⟨(b27), h⟩, [(0, 0)], 1, [], rfl, trivial⟩
    · rintro ⟨b18, h⟩ -
      rw [hj17] at h
      try dsimp only at h ⊢
      cbv
      cases b18 with
      | true =>
        replace h := cnd_t h
        cbv
        obtain ⟨b21, h20, h⟩ := bnd h
        refine call_by hP (s28 h20) hJ rfl rfl ?_
        cbv
        cases h
        exact ⟨_, .refl _, [], _, _, [], _, rfl, rfl, rfl, rfl, rfl, rfl⟩
      | false =>
        replace h := cnd_f h
        cbv
        exact ⟨⟨(), h⟩, [(0, 0)], 1, [], rfl, trivial⟩
  · rintro ⟨_, h⟩ -
    rw [hj14] at h
    try dsimp only at h ⊢
    cbv
    rcases altE h with h | h
    · obtain ⟨_, h16, h⟩ := bnd h
      refine callM_by hP (s38l hl9 h16) [] false hJ rfl rfl rfl rfl rfl (.inl rfl) ?_
      cbv
      obtain ⟨j18, hj19, h⟩ := jn h
      refine JoinP.mk ({x : (List TRef10_Cell) × (List D) × Nat × Bool // IsL eRef10_Cell x.2.1 x.2.2.1 x.1 ∧ j18 (x.1, x.2.2.2) = some b10}) (fun x => ⟨[(2, .ptr 0 0), (5, .d (.lit (.pointer none))), (6, .d (.bool false)), (7, .d (.lst x.1.2.1 x.1.2.2.1)), (8, .d (.bool x.1.2.2.2))], [(0, .box [.d (.int .i64 v1), .d (.int .i64 v2), .d (.int .i64 v3), .d (.int .i64 v4), .d (.int .i64 v5)])], 1, 70⟩) (fun _ => True) [2, 5, 6, 7, 8] ?_ ?_
      · cbv
        obtain ⟨p21, q20, hp22, hf23, hq24⟩ := bnd_loop h
        clear h
        refine LoopB.mk ({x : Nat × (List TRef10_Cell) × (List D) × Nat × Bool × Int // IsL eRef10_Cell x.2.2.1 x.2.2.2.1 x.2.1 ∧ loopN p21 x.1 (x.2.1, x.2.2.2.2.1, x.2.2.2.2.2) = some q20}) (fun x => ⟨[(1, .d (.lst c7 n8)), (2, .ptr 0 0), (5, .d (.lit (.pointer none))), (6, .d (.bool false)), (7, .d (.lst x.1.2.2.1 x.1.2.2.2.1)), (8, .d (.bool x.1.2.2.2.2.1)), (9, .d (.int .i64 x.1.2.2.2.2.2))], [(0, .box [.d (.int .i64 v1), .d (.int .i64 v2), .d (.int .i64 v3), .d (.int .i64 v4), .d (.int .i64 v5)])], 1, 70⟩) (fun x => x.1.1) [1, 2, 5, 6, 7, 8, 9] 1 ⟨(FUEL, ([] : List TRef10_Cell), [], 0, true, 0), (IsL.nil' (g := eRef10_Cell)), hf23⟩ ⟨[(0, 0)], [.nlS 7 0], ?_⟩ ?_
        · rfl
        · rintro ⟨⟨N27, l30, c31, n32, b34, v35⟩, hl33, hr26⟩
          obtain ⟨M28, o25, eN29, h, hr26⟩ := loopN_step hr26
          subst eN29
          rw [hp22] at h
          try dsimp only at h ⊢
          cbv
          obtain ⟨j37, hj38, h⟩ := jn h
          refine JoinP.mk ({x : Unit // j37 () = some o25}) (fun x => ⟨[(1, .d (.lst c7 n8)), (2, .ptr 0 0), (5, .d (.lit (.pointer none))), (6, .d (.bool false)), (7, .d (.lst c31 n32)), (8, .d (.bool true)), (9, .d (.int .i64 v35))], [(0, .box [.d (.int .i64 v1), .d (.int .i64 v2), .d (.int .i64 v3), .d (.int .i64 v4), .d (.int .i64 v5)])], 1, 70⟩) (fun _ => True) [1, 2, 5, 6, 7, 8, 9] ?_ ?_
          · cbv
            revert h
            refine st_len hJ hl9 fun v39 ev39 h => ?_
            cbv
            revert h
            refine st_cmp hJ fun b40 eb40 h => ?_
            cbv
            cases b40 with
            | true =>
              replace h := cnd_t h
              cbv
              cases b34 with
              | true =>
                replace h := cnd_t h
                cbv
                exact ⟨⟨(), h⟩, [(0, 0)], 1, [], rfl, trivial⟩
              | false =>
                replace h := cnd_f h
                cbv
                cases h
                have h := hq24
                obtain rfl := hr26
                try dsimp only at h
                exact ⟨⟨(l30, c31, n32, false), hl33, h⟩, [(0, 0)], 1, [], rfl, trivial⟩
            | false =>
              replace h := cnd_f h
              cbv
              cases h
              have h := hq24
              obtain rfl := hr26
              try dsimp only at h
              exact ⟨⟨(l30, c31, n32, b34), hl33, h⟩, [(0, 0)], 1, [], rfl, trivial⟩
          · rintro ⟨_, h⟩ -
            rw [hj38] at h
            try dsimp only at h ⊢
            cbv
            revert h
            refine st_idx_lp hJ hl9 fun y39 k40 hy41 ho42 h => ?_
            cbv
            refine st_ld hJ (eI_len .i64) hl9 hy41 ho42 0 (fun hJ => by subst hJ; rfl) ([.int .i64 y39]) (Nat.le_of_ble_eq_true rfl) rfl (.int .nil) rfl ?_
            cbv
            revert h
            refine st_cmp hJ fun b44 eb44 h => ?_
            cbv
            cases b44 with
            | true =>
              replace h := cnd_t h
              cbv
              revert h
              refine st_idx_lp hJ hl9 fun y45 k46 hy47 ho48 h => ?_
              cbv
              refine st_ld hJ (eI_len .i64) hl9 hy47 ho48 0 (fun hJ => by subst hJ; rfl) ([.int .i64 y45]) (Nat.le_of_ble_eq_true rfl) rfl (.int .nil) rfl ?_
              cbv
              obtain ⟨⟨l52, b56⟩, h51, h⟩ := bnd h
              obtain ⟨c53, n54, hl55⟩ := nameL eRef10_Cell l52
              try dsimp only at h
              refine call_by hP (s31 hl33 hl55 h51) hJ rfl rfl ?_
              cbv
              refine ⟨fun _ => by kernel_rfl, ?_⟩
              cbv
              revert h
              refine st_bin hJ fun v57 ev57 h => ?_
              cbv
              cases h
              exact ⟨⟨(M28, l52, c53, n54, b56, v57), hl55, hr26⟩, [(0, 0)], 1, [], rfl, Nat.lt_succ_self _⟩
            | false =>
              replace h := cnd_f h
              cbv
              revert h
              refine st_bin hJ fun v45 ev45 h => ?_
              cbv
              cases h
              exact ⟨⟨(M28, l30, c31, n32, true, v45), hl33, hr26⟩, [(0, 0)], 1, [], rfl, Nat.lt_succ_self _⟩
      · rintro ⟨⟨l20, c21, n22, b24⟩, hl23, h⟩ -
        rw [hj19] at h
        try dsimp only at h ⊢
        cbv
        revert h
        refine st_not hJ fun b25 eb25 h => ?_
        cbv
        cases b25 with
        | true =>
          replace h := cnd_t h
          cbv
          revert h
          refine st_not hJ fun b26 eb26 h => ?_
          replace eb26 : b26 = true := eb26
          subst eb26
          cbv
          refine st_nilp ?_
          cbv
          cases h
          exact ⟨_, .refl _, [], _, _, [], _, rfl, rfl, rfl, rfl, rfl, rfl⟩
        | false =>
          replace h := cnd_f h
          cbv
          cases h
          exact ⟨_, .refl _, [], _, _, [], _, rfl, rfl, rfl, rfl, rfl, rfl⟩
    · obtain ⟨⟨⟨v17, v18, v19, v20, v21⟩, m22, m25⟩, h16, h⟩ := bnd h
      obtain ⟨c23, hm24⟩ := nameM eAt (eI .i64) m22
      obtain ⟨c26, hm27⟩ := nameM (eI .i64) (eI .i64) m25
      try dsimp only at h
      refine callM_by hP (s38r hl9 hm24 hm27 h16) [] false hJ rfl rfl rfl rfl rfl (.inl rfl) ?_
      cbv
      obtain ⟨j29, hj30, h⟩ := jn h
      refine JoinP.mk ({x : (List TRef10_Cell) × (List D) × Nat × Bool // IsL eRef10_Cell x.2.1 x.2.2.1 x.1 ∧ j29 (x.1, x.2.2.2) = some b10}) (fun x => ⟨[(2, .ptr 0 0), (5, .ptr 1 0), (6, .d (.bool true)), (7, .d (.lst x.1.2.1 x.1.2.2.1)), (8, .d (.bool x.1.2.2.2))], [(0, .box [.d (.int .i64 v1), .d (.int .i64 v2), .d (.int .i64 v3), .d (.int .i64 v4), .d (.int .i64 v5)]), (1, .box [.d (.int .i64 v17), .d (.int .i64 v18), .d (.int .i64 v19), .d (.int .i64 v20), .d (.int .i64 v21), .map 2, .map 3]), (2, .mp true false c23), (3, .mp false false c26)], 4, 70⟩) (fun _ => True) [2, 5, 6, 7, 8] ?_ ?_
      · cbv
        obtain ⟨p32, q31, hp33, hf34, hq35⟩ := bnd_loop h
        clear h
        refine LoopB.mk ({x : Nat × (List TRef10_Cell) × (List D) × Nat × Bool × Int // IsL eRef10_Cell x.2.2.1 x.2.2.2.1 x.2.1 ∧ loopN p32 x.1 (x.2.1, x.2.2.2.2.1, x.2.2.2.2.2) = some q31}) (fun x => ⟨[(1, .d (.lst c7 n8)), (2, .ptr 0 0), (5, .ptr 1 0), (6, .d (.bool true)), (7, .d (.lst x.1.2.2.1 x.1.2.2.2.1)), (8, .d (.bool x.1.2.2.2.2.1)), (9, .d (.int .i64 x.1.2.2.2.2.2))], [(0, .box [.d (.int .i64 v1), .d (.int .i64 v2), .d (.int .i64 v3), .d (.int .i64 v4), .d (.int .i64 v5)]), (1, .box [.d (.int .i64 v17), .d (.int .i64 v18), .d (.int .i64 v19), .d (.int .i64 v20), .d (.int .i64 v21), .map 2, .map 3]), (2, .mp true false c23), (3, .mp false false c26)], 4, 70⟩) (fun x => x.1.1) [1, 2, 5, 6, 7, 8, 9] 4 ⟨(FUEL, ([] : List TRef10_Cell), [], 0, true, 0), (IsL.nil' (g := eRef10_Cell)), hf34⟩ ⟨[(0, 0), (3, 1), (4, 2), (5, 3)], [.nlS 7 0], ?_⟩ ?_
        · rfl
        · rintro ⟨⟨N38, l41, c42, n43, b45, v46⟩, hl44, hr37⟩
          obtain ⟨M39, o36, eN40, h, hr37⟩ := loopN_step hr37
          subst eN40
          rw [hp33] at h
          try dsimp only at h ⊢
          cbv
          obtain ⟨j48, hj49, h⟩ := jn h
          refine JoinP.mk ({x : Unit // j48 () = some o36}) (fun x => ⟨[(1, .d (.lst c7 n8)), (2, .ptr 0 0), (5, .ptr 1 0), (6, .d (.bool true)), (7, .d (.lst c42 n43)), (8, .d (.bool true)), (9, .d (.int .i64 v46))], [(0, .box [.d (.int .i64 v1), .d (.int .i64 v2), .d (.int .i64 v3), .d (.int .i64 v4), .d (.int .i64 v5)]), (1, .box [.d (.int .i64 v17), .d (.int .i64 v18), .d (.int .i64 v19), .d (.int .i64 v20), .d (.int .i64 v21), .map 2, .map 3]), (2, .mp true false c23), (3, .mp false false c26)], 4, 70⟩) (fun _ => True) [1, 2, 5, 6, 7, 8, 9] ?_ ?_
          · cbv
            revert h
            refine st_len hJ hl9 fun v50 ev50 h => ?_
            cbv
            revert h
            refine st_cmp hJ fun b51 eb51 h => ?_
            cbv
            cases b51 with
            | true =>
              replace h := cnd_t h
              cbv
              cases b45 with
              | true =>
                replace h := cnd_t h
                cbv
                exact ⟨⟨(), h⟩, [(0, 0), (1, 1), (2, 2), (3, 3)], 4, [], rfl, trivial⟩
              | false =>
                replace h := cnd_f h
                cbv
                cases h
                have h := hq35
                obtain rfl := hr37
                try dsimp only at h
                exact ⟨⟨(l41, c42, n43, false), hl44, h⟩, [(0, 0), (1, 1), (2, 2), (3, 3)], 4, [], rfl, trivial⟩
            | false =>
              replace h := cnd_f h
              cbv
              cases h
              have h := hq35
              obtain rfl := hr37
              try dsimp only at h
              exact ⟨⟨(l41, c42, n43, b45), hl44, h⟩, [(0, 0), (1, 1), (2, 2), (3, 3)], 4, [], rfl, trivial⟩
          · rintro ⟨_, h⟩ -
            rw [hj49] at h
            try dsimp only at h ⊢
            cbv
            revert h
            refine st_idx_lp hJ hl9 fun y50 k51 hy52 ho53 h => ?_
            cbv
            refine st_ld hJ (eI_len .i64) hl9 hy52 ho53 0 (fun hJ => by subst hJ; rfl) ([.int .i64 y50]) (Nat.le_of_ble_eq_true rfl) rfl (.int .nil) rfl ?_
            cbv
            revert h
            refine st_cmp hJ fun b55 eb55 h => ?_
            cbv
            cases b55 with
            | true =>
              replace h := cnd_t h
              cbv
              revert h
              refine st_idx_lp hJ hl9 fun y56 k57 hy58 ho59 h => ?_
              cbv
              refine st_ld hJ (eI_len .i64) hl9 hy58 ho59 0 (fun hJ => by subst hJ; rfl) ([.int .i64 y56]) (Nat.le_of_ble_eq_true rfl) rfl (.int .nil) rfl ?_
              cbv
              obtain ⟨⟨l63, b67⟩, h62, h⟩ := bnd h
              obtain ⟨c64, n65, hl66⟩ := nameL eRef10_Cell l63
              try dsimp only at h
              refine call_by hP (s31 hl44 hl66 h62) hJ rfl rfl ?_
              cbv
              refine ⟨fun _ => by kernel_rfl, ?_⟩
              cbv
              revert h
              refine st_bin hJ fun v68 ev68 h => ?_
              cbv
              cases h
              exact ⟨⟨(M39, l63, c64, n65, b67, v68), hl66, hr37⟩, [(0, 0), (1, 1), (2, 2), (3, 3)], 4, [], rfl, Nat.lt_succ_self _⟩
            | false =>
              replace h := cnd_f h
              cbv
              revert h
              refine st_bin hJ fun v56 ev56 h => ?_
              cbv
              cases h
              exact ⟨⟨(M39, l41, c42, n43, true, v56), hl44, hr37⟩, [(0, 0), (1, 1), (2, 2), (3, 3)], 4, [], rfl, Nat.lt_succ_self _⟩
      · rintro ⟨⟨l31, c32, n33, b35⟩, hl34, h⟩ -
        rw [hj30] at h
        try dsimp only at h ⊢
        cbv
        revert h
        refine st_not hJ fun b36 eb36 h => ?_
        cbv
        cases b36 with
        | true =>
          replace h := cnd_t h
          cbv
          revert h
          refine st_not hJ fun b37 eb37 h => ?_
          replace eb37 : b37 = false := eb37
          subst eb37
          cbv
          cases h
          exact ⟨_, .refl _, [], _, _, [], _, rfl, rfl, rfl, rfl, rfl, rfl⟩
        | false =>
          replace h := cnd_f h
          cbv
          obtain ⟨b39, h38, h⟩ := bnd h
          refine callM_by hP (s34 hl34 hm24 hm27 h38) [(1, 0), (2, 1), (3, 2)] false hJ rfl rfl rfl rfl rfl (.inl rfl) ?_
          cbv
          cases h
          exact ⟨_, .refl _, [], _, _, [], _, rfl, rfl, rfl, rfl, rfl, rfl⟩
end Go.AX
