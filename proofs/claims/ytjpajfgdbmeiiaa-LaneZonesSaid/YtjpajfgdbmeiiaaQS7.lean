/- What functions of the program compute: each is what its Lean function says. -/
import Derived.Test.YtjpajfgdbmeiiaaQM
namespace Go.AX
open Go.Proofs
set_option autoImplicit false
set_option linter.unusedVariables false
set_option maxRecDepth 100000
set_option maxHeartbeats 4000000
set_option linter.unusedSimpArgs false

theorem s67 {v1 : Int} {v2 : Int}  {v3 : Int} {v4 : Int}  (h : m_math_bits_Mul64 v1 v2 = some (v3, v4)) : Spec Try.prog 67 [.d (.int .u64 v1), .d (.int .u64 v2)] ⟨.tup [.d (.int .u64 v3), .d (.int .u64 v4)], [], 0, True⟩ := by
  refine spec_b [] Try.func67 rfl rfl rfl fun J P hJ hP => ?_
  dsimp only [m_math_bits_Mul64] at h
  cbv
  revert h
  refine st_bin hJ fun v6 ev6 h => ?_
  cbv
  revert h
  refine st_sh hJ fun v7 ev7 h => ?_
  cbv
  revert h
  refine st_bin hJ fun v8 ev8 h => ?_
  cbv
  revert h
  refine st_sh hJ fun v9 ev9 h => ?_
  cbv
  revert h
  refine st_bin hJ fun v10 ev10 h => ?_
  cbv
  revert h
  refine st_bin hJ fun v11 ev11 h => ?_
  cbv
  revert h
  refine st_sh hJ fun v12 ev12 h => ?_
  cbv
  revert h
  refine st_bin hJ fun v13 ev13 h => ?_
  cbv
  revert h
  refine st_bin hJ fun v14 ev14 h => ?_
  cbv
  revert h
  refine st_sh hJ fun v15 ev15 h => ?_
  cbv
  revert h
  refine st_bin hJ fun v16 ev16 h => ?_
  cbv
  revert h
  refine st_bin hJ fun v17 ev17 h => ?_
  cbv
  revert h
  refine st_bin hJ fun v18 ev18 h => ?_
  cbv
  revert h
  refine st_bin hJ fun v19 ev19 h => ?_
  cbv
  revert h
  refine st_sh hJ fun v20 ev20 h => ?_
  cbv
  revert h
  refine st_bin hJ fun v21 ev21 h => ?_
  cbv
  revert h
  refine st_bin hJ fun v22 ev22 h => ?_
  cbv
  cases h
  exact ⟨[], _, _, [], rfl, rfl, rfl, rfl⟩
theorem sg64 {n : Int} {u : Unit} (h : grow0? 8 n = some u) : Spec Try.prog 64 [.d .nils, .d (.int .i64 n)] ⟨.own 0 0 1, [(0, .row [] 1 3)], 1, True⟩ := by
  obtain ⟨h0, h1, h2⟩ := grow0?_eq h
  refine spec_b [] Try.func64 rfl rfl rfl fun J P hJ hP => ?_
  cbv
  refine st_any hJ (v' := .d (.bool false)) (by subst hJ; exact congrArg (fun b => V.d (D.bool b)) (decide_eq_false (by omega : ¬ n < 0))) rfl trivial ?_
  cbv
  refine st_val hJ ?_
  cbv
  refine st_any hJ (v' := .d (.int .i64 0)) (by subst hJ; rfl) rfl trivial ?_
  cbv
  refine st_any hJ (v' := .d (.int .i64 n)) (by subst hJ; exact congrArg (fun b => V.d (D.int .i64 b)) (sub0_ok (by omega))) rfl trivial ?_
  cbv
  by_cases hn : n > 0
  · refine st_any hJ (v' := .d (.bool true)) (by subst hJ; exact congrArg (fun b => V.d (D.bool b)) (decide_eq_true hn)) rfl trivial ?_
    cbv
    refine st_any hJ rfl rfl (by subst hJ; exact ⟨Int.le_refl _, by decide⟩) ?_
    cbv
    refine st_any hJ rfl rfl (by subst hJ; exact ⟨⟨by omega, (by show n < ((4611686018427387905 : Nat) : Int); omega)⟩, h2⟩) ?_
    cbv
    refine st_val hJ ?_
    cbv
    refine st_any hJ (v' := .own 18 0 1) (by subst hJ; rfl) rfl (by subst hJ; exact ⟨Int.le_refl _, (by show (0 : Int) < ((n.toNat + 1 : Nat) : Int); omega)⟩) ?_
    cbv
    exact ⟨[], _, _, [(18, 0)], rfl, rfl, rfl, rfl⟩
  · refine st_any hJ (v' := .d (.bool false)) (by subst hJ; exact congrArg (fun b => V.d (D.bool b)) (decide_eq_false hn)) rfl trivial ?_
    cbv
    exact ⟨[.slot 4 1000000 1 3], _, _, [(1000000, 0)], rfl, rfl, rfl, rfl⟩

theorem s35 {l1 : List Int} {c2 : List D} {n3 : Nat} (hl4 : IsL (eI .i64) c2 n3 l1) {b5 : Bool}  (h : m_law12_few l1 = some b5) : Spec Try.prog 35 [.d (.lst c2 n3)] ⟨.d (.bool b5), [], 0, True⟩ := by
  refine spec_b [8] Try.func35 rfl rfl rfl fun J P hJ hP => ?_
  dsimp only [m_law12_few] at h
  cbv
  obtain ⟨p8, q7, hp9, hf10, hq11⟩ := bnd_loop h
  clear h
  refine LoopB.mk ({x : Nat × Int // loopN p8 x.1 (x.2) = some q7}) (fun x => ⟨[(0, .d (.lst c2 n3)), (3, .d (.int .i64 x.1.2))], [], 0, 29⟩) (fun x => x.1.1) [0, 3] 0 ⟨(FUEL, 0), hf10⟩ ⟨[], [], ?_⟩ ?_
  · rfl
  · rintro ⟨⟨N14, v17⟩, hr13⟩
    obtain ⟨M15, o12, eN16, h, hr13⟩ := loopN_step hr13
    subst eN16
    rw [hp9] at h
    try dsimp only at h ⊢
    cbv
    obtain ⟨j19, hj20, h⟩ := jn h
    refine JoinP.mk ({x : Unit // j19 () = some o12}) (fun x => ⟨[(0, .d (.lst c2 n3)), (3, .d (.int .i64 v17))], [], 0, 29⟩) (fun _ => True) [0, 3] ?_ ?_
    · cbv
      revert h
      refine st_len hJ hl4 fun v21 ev21 h => ?_
      cbv
      revert h
      refine st_cmp hJ fun b22 eb22 h => ?_
      cbv
      cases b22 with
      | true =>
        replace h := cnd_t h
        cbv
        revert h
        refine st_cmp hJ fun b23 eb23 h => ?_
        cbv
        cases b23 with
        | true =>
          replace h := cnd_t h
          cbv
          exact ⟨⟨(), h⟩, [], 0, [], rfl, trivial⟩
        | false =>
          replace h := cnd_f h
          cbv
          cases h
          have h := hq11
          obtain rfl := hr13
          try dsimp only at h
          revert h
          refine st_len hJ hl4 fun v24 ev24 h => ?_
          cbv
          revert h
          refine st_cmp hJ fun b25 eb25 h => ?_
          cbv
          cases h
          exact ⟨[], _, _, [], rfl, rfl, rfl, rfl⟩
      | false =>
        replace h := cnd_f h
        cbv
        cases h
        have h := hq11
        obtain rfl := hr13
        try dsimp only at h
        revert h
        refine st_len hJ hl4 fun v23 ev23 h => ?_
        cbv
        revert h
        refine st_cmp hJ fun b24 eb24 h => ?_
        cbv
        cases h
        exact ⟨[], _, _, [], rfl, rfl, rfl, rfl⟩
    · rintro ⟨_, h⟩ -
      rw [hj20] at h
      try dsimp only at h ⊢
      cbv
      revert h
      refine st_idx_lp hJ hl4 fun y21 k22 hy23 ho24 h => ?_
      cbv
      refine st_ld hJ (eI_len .i64) hl4 hy23 ho24 0 (fun hJ => by subst hJ; rfl) ([.int .i64 y21]) (Nat.le_of_ble_eq_true rfl) rfl (.int .nil) rfl ?_
      cbv
      revert h
      refine st_cmp hJ fun b26 eb26 h => ?_
      cbv
      cases b26 with
      | true =>
        replace h := cnd_t h
        cbv
        cases h
        have h := hq11
        obtain rfl := hr13
        try dsimp only at h
        cases h
        exact ⟨[], _, _, [], rfl, rfl, rfl, rfl⟩
      | false =>
        replace h := cnd_f h
        cbv
        revert h
        refine st_idx_lp hJ hl4 fun y27 k28 hy29 ho30 h => ?_
        cbv
        refine st_ld hJ (eI_len .i64) hl4 hy29 ho30 0 (fun hJ => by subst hJ; rfl) ([.int .i64 y27]) (Nat.le_of_ble_eq_true rfl) rfl (.int .nil) rfl ?_
        cbv
        revert h
        refine st_cmp hJ fun b32 eb32 h => ?_
        cbv
        cases b32 with
        | true =>
          replace h := cnd_t h
          cbv
          cases h
          have h := hq11
          obtain rfl := hr13
          try dsimp only at h
          cases h
          exact ⟨[], _, _, [], rfl, rfl, rfl, rfl⟩
        | false =>
          replace h := cnd_f h
          cbv
          revert h
          refine st_bin hJ fun v33 ev33 h => ?_
          cbv
          cases h
          exact ⟨⟨(M15, v33), hr13⟩, [], 0, [], rfl, Nat.lt_succ_self _⟩
theorem s36 {v1 : Int}  {b2 : Bool}  (h : m_ref12_Num v1 = some b2) : Spec Try.prog 36 [.d (.int .i64 v1)] ⟨.d (.bool b2), [], 0, True⟩ := by
  refine spec_b [] Try.func36 rfl rfl rfl fun J P hJ hP => ?_
  dsimp only [m_ref12_Num] at h
  cbv
  revert h
  refine st_cmp hJ fun b4 eb4 h => ?_
  cbv
  cases b4 with
  | true =>
    replace h := cnd_t h
    cbv
    revert h
    refine st_cmp hJ fun b5 eb5 h => ?_
    cbv
    cases h
    exact ⟨[], _, _, [], rfl, rfl, rfl, rfl⟩
  | false =>
    replace h := cnd_f h
    cbv
    cases h
    exact ⟨[], _, _, [], rfl, rfl, rfl, rfl⟩
end Go.AX
