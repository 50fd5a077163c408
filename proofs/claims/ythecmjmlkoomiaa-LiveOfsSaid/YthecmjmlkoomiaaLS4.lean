/- What functions of the program compute: each is what its Lean function says. -/
import Derived.Test.YthecmjmlkoomiaaLM
namespace Go.AX
open Go.Proofs
set_option autoImplicit false
set_option linter.unusedVariables false
set_option maxRecDepth 100000
set_option maxHeartbeats 100000000
set_option linter.unusedSimpArgs false

theorem s93 {v1 : Int} {v2 : Int} {v3 : Int} {v4 : Int} {v5 : Int} {v6 : Int} {v7 : Int}  {v8 : Int}  (h : m_ref03_Num (TGeom.mk v1 v2 v3 v4 v5) (TAt.mk v6 v7) = some v8) : Spec Try.prog 93 [.agg [.d (.int .i64 v1), .d (.int .i64 v2), .d (.int .i64 v3), .d (.int .i64 v4), .d (.int .i64 v5)], .agg [.d (.int .i64 v6), .d (.int .i64 v7)]] ⟨.d (.int .i64 v8), [], 0, True⟩ := by
  refine spec_b [] Try.func93 rfl rfl rfl fun J P hJ hP => ?_
  dsimp only [m_ref03_Num] at h
  cbv
  obtain ⟨p11, q10, hp12, hf13, hq14⟩ := bnd_loop h
  clear h
  refine LoopB.mk ({x : Nat × Int × Int // loopN p11 x.1 (x.2.1, x.2.2) = some q10}) (fun x => ⟨[(2, .ptr 0 0), (3, .ptr 1 0), (5, .d (.int .i64 x.1.2.1)), (6, .d (.int .i64 x.1.2.2))], [(0, .box [.d (.int .i64 v1), .d (.int .i64 v2), .d (.int .i64 v3), .d (.int .i64 v4), .d (.int .i64 v5)]), (1, .box [.d (.int .i64 v6), .d (.int .i64 v7)])], 2, 38⟩) (fun x => x.1.1) [2, 3, 5, 6] 2 ⟨(FUEL, 0, v1), hf13⟩ ⟨[(0, 0), (2, 1)], [], ?_⟩ ?_
  · rfl
  · rintro ⟨⟨N17, v20, v21⟩, hr16⟩
    obtain ⟨M18, o15, eN19, h, hr16⟩ := loopN_step hr16
    subst eN19
    rw [hp12] at h
    try dsimp only at h ⊢
    cbv
    revert h
    refine st_bin hJ fun v22 ev22 h => ?_
    cbv
    revert h
    refine st_cmp hJ fun b23 eb23 h => ?_
    cbv
    cases b23 with
    | true =>
      replace h := cnd_t h
      cbv
      obtain ⟨p25, q24, hp26, hf27, hq28⟩ := bnd_loop h
      clear h
      refine LoopB.mk ({x : Nat × Int × Int // loopN p25 x.1 (x.2.1, x.2.2) = some q24}) (fun x => ⟨[(2, .ptr 0 0), (3, .ptr 1 0), (5, .d (.int .i64 x.1.2.1)), (6, .d (.int .i64 v21)), (7, .d (.int .i64 x.1.2.2))], [(0, .box [.d (.int .i64 v1), .d (.int .i64 v2), .d (.int .i64 v3), .d (.int .i64 v4), .d (.int .i64 v5)]), (1, .box [.d (.int .i64 v6), .d (.int .i64 v7)])], 2, 38⟩) (fun x => x.1.1) [2, 3, 5, 6, 7] 2 ⟨(FUEL, v20, 0), hf27⟩ ⟨[(0, 0), (1, 1)], [], ?_⟩ ?_
      · rfl
      · rintro ⟨⟨N31, v34, v35⟩, hr30⟩
        obtain ⟨M32, o29, eN33, h, hr30⟩ := loopN_step hr30
        subst eN33
        rw [hp26] at h
        try dsimp only at h ⊢
        cbv
        revert h
        refine st_cmp hJ fun b36 eb36 h => ?_
        cbv
        cases b36 with
        | true =>
          replace h := cnd_t h
          cbv
          revert h
          refine st_bin hJ fun v37 ev37 h => ?_
          cbv
          revert h
          refine st_cmp hJ fun b38 eb38 h => ?_
          cbv
          cases b38 with
          | true =>
            replace h := cnd_t h
            cbv
            revert h
            refine st_cmp hJ fun b39 eb39 h => ?_
            cbv
            cases b39 with
            | true =>
              replace h := cnd_t h
              cbv
              cases h
              have h := hq28
              obtain rfl := hr30
              try dsimp only at h
              cases h
              have h := hq14
              obtain rfl := hr16
              try dsimp only at h
              cases h
              exact ⟨_, .refl _, [], _, _, [], _, rfl, rfl, rfl, rfl, rfl, rfl⟩
            | false =>
              replace h := cnd_f h
              cbv
              revert h
              refine st_bin hJ fun v40 ev40 h => ?_
              cbv
              cases h
              exact ⟨⟨(M32, v37, v40), hr30⟩, [(0, 0), (1, 1)], 2, [], rfl, Nat.lt_succ_self _⟩
          | false =>
            replace h := cnd_f h
            cbv
            revert h
            refine st_bin hJ fun v39 ev39 h => ?_
            cbv
            cases h
            exact ⟨⟨(M32, v37, v39), hr30⟩, [(0, 0), (1, 1)], 2, [], rfl, Nat.lt_succ_self _⟩
        | false =>
          replace h := cnd_f h
          cbv
          cases h
          have h := hq28
          obtain rfl := hr30
          try dsimp only at h
          revert h
          refine st_bin hJ fun v37 ev37 h => ?_
          cbv
          cases h
          exact ⟨⟨(M18, v34, v37), hr16⟩, [(0, 0), (1, 1)], 2, [], rfl, Nat.lt_succ_self _⟩
    | false =>
      replace h := cnd_f h
      cbv
      cases h
      have h := hq14
      obtain rfl := hr16
      try dsimp only at h
      cases h
      exact ⟨_, .refl _, [], _, _, [], _, rfl, rfl, rfl, rfl, rfl, rfl⟩
theorem s40 {l1 : List TAt} {c2 : List D} {n3 : Nat} {l5 : List TAt} {c6 : List D} {n7 : Nat} (hl4 : IsL eAt c2 n3 l1) (hl8 : IsL eAt c6 n7 l5) {b9 : Bool}  (h : m_ref10_Same l1 l5 = some b9) : Spec Try.prog 40 [.d (.lst c2 n3), .d (.lst c6 n7)] ⟨.d (.bool b9), [], 0, True⟩ := by
  refine spec_b [] Try.func40 rfl rfl rfl fun J P hJ hP => ?_
  dsimp only [m_ref10_Same] at h
  cbv
  revert h
  refine st_len hJ hl4 fun v11 ev11 h => ?_
  cbv
  revert h
  refine st_len hJ hl8 fun v12 ev12 h => ?_
  cbv
  revert h
  refine st_cmp hJ fun b13 eb13 h => ?_
  cbv
  cases b13 with
  | true =>
    replace h := cnd_t h
    cbv
    cases h
    exact ⟨_, .refl _, [], _, _, [], _, rfl, rfl, rfl, rfl, rfl, rfl⟩
  | false =>
    replace h := cnd_f h
    cbv
    obtain ⟨p15, q14, hp16, hf17, hq18⟩ := bnd_loop h
    clear h
    refine LoopB.mk ({x : Nat × Int // loopN p15 x.1 (x.2) = some q14}) (fun x => ⟨[(0, .d (.lst c2 n3)), (1, .d (.lst c6 n7)), (5, .d (.int .i64 x.1.2))], [], 0, 26⟩) (fun x => x.1.1) [0, 1, 5] 0 ⟨(FUEL, 0), hf17⟩ ⟨[], [], ?_⟩ ?_
    · rfl
    · rintro ⟨⟨N21, v24⟩, hr20⟩
      obtain ⟨M22, o19, eN23, h, hr20⟩ := loopN_step hr20
      subst eN23
      rw [hp16] at h
      try dsimp only at h ⊢
      cbv
      revert h
      refine st_len hJ hl4 fun v25 ev25 h => ?_
      cbv
      revert h
      refine st_cmp hJ fun b26 eb26 h => ?_
      cbv
      cases b26 with
      | true =>
        replace h := cnd_t h
        cbv
        revert h
        refine st_idx_lp hJ hl4 fun y27 k28 hy29 ho30 h => ?_
        obtain ⟨v31, v32⟩ := y27
        try dsimp only at h
        cbv
        refine st_ld hJ eAt_len hl4 hy29 ho30 0 (fun hJ => by subst hJ; rfl) ([.int .i64 v31, .int .i64 v32]) (Nat.le_of_ble_eq_true rfl) rfl (.int (.int .nil)) rfl ?_
        cbv
        revert h
        refine st_idx_lp hJ hl8 fun y33 k34 hy35 ho36 h => ?_
        obtain ⟨v37, v38⟩ := y33
        try dsimp only at h
        cbv
        refine st_ld hJ eAt_len hl8 hy35 ho36 0 (fun hJ => by subst hJ; rfl) ([.int .i64 v37, .int .i64 v38]) (Nat.le_of_ble_eq_true rfl) rfl (.int (.int .nil)) rfl ?_
        cbv
        revert h
        refine st_bool hJ (fun hJ => by subst hJ; rfl) fun b39 eb39 h => ?_
        cbv
        refine ⟨fun _ => by kernel_rfl, ?_⟩
        cbv
        cases b39 with
        | true =>
          replace h := cnd_t h
          cbv
          cases h
          have h := hq18
          obtain rfl := hr20
          try dsimp only at h
          cases h
          exact ⟨_, .refl _, [], _, _, [], _, rfl, rfl, rfl, rfl, rfl, rfl⟩
        | false =>
          replace h := cnd_f h
          cbv
          revert h
          refine st_bin hJ fun v40 ev40 h => ?_
          cbv
          cases h
          exact ⟨⟨(M22, v40), hr20⟩, [], 0, [], rfl, Nat.lt_succ_self _⟩
      | false =>
        replace h := cnd_f h
        cbv
        cases h
        have h := hq18
        obtain rfl := hr20
        try dsimp only at h
        cases h
        exact ⟨_, .refl _, [], _, _, [], _, rfl, rfl, rfl, rfl, rfl, rfl⟩
end Go.AX
