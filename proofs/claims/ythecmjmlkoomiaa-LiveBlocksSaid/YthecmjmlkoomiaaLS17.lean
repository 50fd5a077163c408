/- What functions of the program compute: each is what its Lean function says. -/
import Derived.Test.YthecmjmlkoomiaaLS1
import Derived.Test.YthecmjmlkoomiaaLS11
import Derived.Test.YthecmjmlkoomiaaLS12
import Derived.Test.YthecmjmlkoomiaaLS3
import Derived.Test.YthecmjmlkoomiaaLS8
namespace Go.AX
open Go.Proofs
set_option autoImplicit false
set_option linter.unusedVariables false
set_option maxRecDepth 100000
set_option maxHeartbeats 100000000
set_option linter.unusedSimpArgs false

theorem s10 {v1 : Int} {v2 : Int} {v3 : Int} {v4 : Int} {v5 : Int} {l6 : List Int} {c7 : List D} {n8 : Nat} {v10 : Int} (hl9 : IsL (eI .i64) c7 n8 l6) {b11 : Bool}  (h : m_law10_LiveBlocks (TGeom.mk v1 v2 v3 v4 v5) l6 v10 = some b11) : Spec Try.prog 10 [.agg [.d (.int .i64 v1), .d (.int .i64 v2), .d (.int .i64 v3), .d (.int .i64 v4), .d (.int .i64 v5)], .d (.lst c7 n8), .d (.int .i64 v10)] ⟨.d (.bool b11), [], 0, True⟩ := by
  refine spec_b [6, 4, 30] Try.func10 rfl rfl rfl fun J P hJ hP => ?_
  dsimp only [m_law10_LiveBlocks] at h
  cbv
  obtain ⟨j14, hj15, h⟩ := jn h
  refine JoinP.mk ({x : Unit // j14 () = some b11}) (fun x => ⟨[(1, .d (.lst c7 n8)), (2, .d (.int .i64 v10)), (3, .ptr 0 0)], [(0, .box [.d (.int .i64 v1), .d (.int .i64 v2), .d (.int .i64 v3), .d (.int .i64 v4), .d (.int .i64 v5)])], 1, 98⟩) (fun _ => True) [1, 2, 3] ?_ ?_
  · cbv
    obtain ⟨j17, hj18, h⟩ := jn h
    refine JoinP.mk ({x : Bool // j17 (x) = some b11}) (fun x => ⟨[(1, .d (.lst c7 n8)), (2, .d (.int .i64 v10)), (3, .ptr 0 0), (30, .d (.bool x.1))], [(0, .box [.d (.int .i64 v1), .d (.int .i64 v2), .d (.int .i64 v3), .d (.int .i64 v4), .d (.int .i64 v5)])], 1, 98⟩) (fun _ => True) [1, 2, 3, 30] ?_ ?_
    · cbv
      obtain ⟨b21, h20, h⟩ := bnd h
      refine call_by hP (s28 h20) hJ rfl rfl ?_
      cbv
      revert h
      refine st_not hJ fun b22 eb22 h => ?_
      cbv
      cases b22 with
      | true =>
        replace h := cnd_t h
        cbv
        exact ⟨⟨(true), h⟩, [(0, 0)], 1, [], rfl, trivial⟩
      | false =>
        replace h := cnd_f h
        cbv
        obtain ⟨b25, h24, h⟩ := bnd h
        refine call_by hP (s29 h24) hJ rfl rfl ?_
        cbv
        revert h
        refine st_not hJ fun b26 eb26 h => ?_
        cbv
        cases b26 with
        | true =>
          replace h := cnd_t h
          cbv
          exact ⟨⟨(true), h⟩, [(0, 0)], 1, [], rfl, trivial⟩
        | false =>
          replace h := cnd_f h
          cbv
          revert h
          refine st_len hJ hl9 fun v27 ev27 h => ?_
          cbv
          revert h
          refine st_cmp hJ fun b28 eb28 h => ?_
          cbv
          exact ⟨⟨(b28), h⟩, [(0, 0)], 1, [], rfl, trivial⟩
    · rintro ⟨b19, h⟩ -
      rw [hj18] at h
      try dsimp only at h ⊢
      cbv
      cases b19 with
      | true =>
        replace h := cnd_t h
        cbv
        obtain ⟨b22, h21, h⟩ := bnd h
        refine call_by hP (s28 h21) hJ rfl rfl ?_
        cbv
        cases h
        exact ⟨_, .refl _, [], _, _, [], _, rfl, rfl, rfl, rfl, rfl, rfl⟩
      | false =>
        replace h := cnd_f h
        cbv
        exact ⟨⟨(), h⟩, [(0, 0)], 1, [], rfl, trivial⟩
  · rintro ⟨_, h⟩ -
    rw [hj15] at h
    try dsimp only at h ⊢
    cbv
    rcases altE h with h | h
    · obtain ⟨_, h17, h⟩ := bnd h
      refine callM_by hP (s38l hl9 h17) [] false hJ rfl rfl rfl rfl rfl (.inl rfl) ?_
      cbv
      revert h
      refine st_not hJ fun b18 eb18 h => ?_
      replace eb18 : b18 = true := eb18
      subst eb18
      cbv
      cases h
      exact ⟨_, .refl _, [], _, _, [], _, rfl, rfl, rfl, rfl, rfl, rfl⟩
    · obtain ⟨⟨⟨v18, v19, v20, v21, v22⟩, m23, m26⟩, h17, h⟩ := bnd h
      obtain ⟨c24, hm25⟩ := nameM eAt (eI .i64) m23
      obtain ⟨c27, hm28⟩ := nameM (eI .i64) (eI .i64) m26
      try dsimp only at h
      refine callM_by hP (s38r hl9 hm25 hm28 h17) [] false hJ rfl rfl rfl rfl rfl (.inl rfl) ?_
      cbv
      revert h
      refine st_not hJ fun b29 eb29 h => ?_
      replace eb29 : b29 = false := eb29
      subst eb29
      cbv
      obtain ⟨p31, q30, hp32, hf33, hq34⟩ := bnd_loop h
      clear h
      refine LoopB.mk ({x : Nat × Bool × Int // loopN p31 x.1 (x.2.1, x.2.2) = some q30}) (fun x => ⟨[(1, .d (.lst c7 n8)), (2, .d (.int .i64 v10)), (3, .ptr 0 0), (7, .ptr 1 0), (9, .d (.bool x.1.2.1)), (10, .d (.int .i64 x.1.2.2))], [(0, .box [.d (.int .i64 v1), .d (.int .i64 v2), .d (.int .i64 v3), .d (.int .i64 v4), .d (.int .i64 v5)]), (1, .box [.d (.int .i64 v18), .d (.int .i64 v19), .d (.int .i64 v20), .d (.int .i64 v21), .d (.int .i64 v22), .map 2, .map 3]), (2, .mp true false c24), (3, .mp false false c27)], 4, 98⟩) (fun x => x.1.1) [1, 2, 3, 7, 9, 10] 4 ⟨(FUEL, false, 0), hf33⟩ ⟨[(0, 0), (3, 1), (4, 2), (5, 3)], [], ?_⟩ ?_
      · rfl
      · rintro ⟨⟨N37, b40, v41⟩, hr36⟩
        obtain ⟨M38, o35, eN39, h, hr36⟩ := loopN_step hr36
        subst eN39
        rw [hp32] at h
        try dsimp only at h ⊢
        cbv
        revert h
        refine st_len hJ hl9 fun v42 ev42 h => ?_
        cbv
        revert h
        refine st_cmp hJ fun b43 eb43 h => ?_
        cbv
        cases b43 with
        | true =>
          replace h := cnd_t h
          cbv
          revert h
          refine st_idx_lp hJ hl9 fun y44 k45 hy46 ho47 h => ?_
          cbv
          refine st_ld hJ (eI_len .i64) hl9 hy46 ho47 0 (fun hJ => by subst hJ; rfl) ([.int .i64 y44]) (Nat.le_of_ble_eq_true rfl) rfl (.int .nil) rfl ?_
          cbv
          obtain ⟨⟨⟨v51, v52⟩, b53⟩, h50, h⟩ := bnd h
          try dsimp only at h
          refine call_by hP (s39 h50) hJ rfl rfl ?_
          cbv
          refine ⟨fun _ => by kernel_rfl, ?_⟩
          cbv
          revert h
          refine st_not hJ fun b54 eb54 h => ?_
          cbv
          cases b54 with
          | true =>
            replace h := cnd_t h
            cbv
            revert h
            refine st_bin hJ fun v55 ev55 h => ?_
            cbv
            cases h
            exact ⟨⟨(M38, b40, v55), hr36⟩, [(0, 0), (1, 1), (2, 2), (3, 3)], 4, [], rfl, Nat.lt_succ_self _⟩
          | false =>
            replace h := cnd_f h
            cbv
            obtain ⟨⟨v57, b58⟩, h56, h⟩ := bnd h
            try dsimp only at h
            refine callM_by hP (s37 hm25 hm28 h56) [(1, 0), (2, 1), (3, 2)] false hJ rfl rfl rfl rfl rfl (.inl rfl) ?_
            cbv
            obtain ⟨j60, hj61, h⟩ := jn h
            refine JoinP.mk ({x : Unit // j60 () = some o35}) (fun x => ⟨[(1, .d (.lst c7 n8)), (2, .d (.int .i64 v10)), (3, .ptr 0 0), (7, .ptr 1 0), (9, .d (.bool b40)), (10, .d (.int .i64 v41))], [(0, .box [.d (.int .i64 v1), .d (.int .i64 v2), .d (.int .i64 v3), .d (.int .i64 v4), .d (.int .i64 v5)]), (1, .box [.d (.int .i64 v18), .d (.int .i64 v19), .d (.int .i64 v20), .d (.int .i64 v21), .d (.int .i64 v22), .map 2, .map 3]), (2, .mp true false c24), (3, .mp false false c27)], 4, 98⟩) (fun _ => True) [1, 2, 3, 7, 9, 10] ?_ ?_
            · cbv
              revert h
              refine st_not hJ fun b62 eb62 h => ?_
              cbv
              cases b62 with
              | true =>
                replace h := cnd_t h
                cbv
                cases h
                have h := hq34
                obtain rfl := hr36
                try dsimp only at h
                cases h
                exact ⟨_, .refl _, [], _, _, [], _, rfl, rfl, rfl, rfl, rfl, rfl⟩
              | false =>
                replace h := cnd_f h
                cbv
                revert h
                refine st_cmp hJ fun b63 eb63 h => ?_
                cbv
                cases b63 with
                | true =>
                  replace h := cnd_t h
                  cbv
                  cases h
                  have h := hq34
                  obtain rfl := hr36
                  try dsimp only at h
                  cases h
                  exact ⟨_, .refl _, [], _, _, [], _, rfl, rfl, rfl, rfl, rfl, rfl⟩
                | false =>
                  replace h := cnd_f h
                  cbv
                  exact ⟨⟨(), h⟩, [(0, 0), (1, 1), (2, 2), (3, 3)], 4, [], rfl, trivial⟩
            · rintro ⟨_, h⟩ -
              rw [hj61] at h
              try dsimp only at h ⊢
              cbv
              cases b40 with
              | true =>
                replace h := cnd_t h
                cbv
                revert h
                refine st_bin hJ fun v62 ev62 h => ?_
                cbv
                cases h
                exact ⟨⟨(M38, true, v62), hr36⟩, [(0, 0), (1, 1), (2, 2), (3, 3)], 4, [], rfl, Nat.lt_succ_self _⟩
              | false =>
                replace h := cnd_f h
                cbv
                revert h
                refine st_idx_lp hJ hl9 fun y62 k63 hy64 ho65 h => ?_
                cbv
                refine st_ld hJ (eI_len .i64) hl9 hy64 ho65 0 (fun hJ => by subst hJ; rfl) ([.int .i64 y62]) (Nat.le_of_ble_eq_true rfl) rfl (.int .nil) rfl ?_
                cbv
                revert h
                refine st_cmp hJ fun b67 eb67 h => ?_
                cbv
                revert h
                refine st_bin hJ fun v68 ev68 h => ?_
                cbv
                cases h
                exact ⟨⟨(M38, b67, v68), hr36⟩, [(0, 0), (1, 1), (2, 2), (3, 3)], 4, [], rfl, Nat.lt_succ_self _⟩
        | false =>
          replace h := cnd_f h
          cbv
          cases h
          have h := hq34
          obtain rfl := hr36
          try dsimp only at h
          obtain ⟨⟨⟨v46, v47⟩, b48⟩, h45, h⟩ := bnd h
          try dsimp only at h
          refine call_by hP (s39 h45) hJ rfl rfl ?_
          cbv
          obtain ⟨⟨v51, b52⟩, h50, h⟩ := bnd h
          try dsimp only at h
          refine callM_by hP (s37 hm25 hm28 h50) [(1, 0), (2, 1), (3, 2)] false hJ rfl rfl rfl rfl rfl (.inl rfl) ?_
          cbv
          revert h
          refine st_not hJ fun b53 eb53 h => ?_
          cbv
          cases b53 with
          | true =>
            replace h := cnd_t h
            cbv
            cases h
            exact ⟨_, .refl _, [], _, _, [], _, rfl, rfl, rfl, rfl, rfl, rfl⟩
          | false =>
            replace h := cnd_f h
            cbv
            revert h
            refine st_eqb hJ fun b54 eb54 h => ?_
            cbv
            cases h
            exact ⟨_, .refl _, [], _, _, [], _, rfl, rfl, rfl, rfl, rfl, rfl⟩
end Go.AX
