/- What functions of the program compute: each is what its Lean function says. -/
import Derived.Test.YtjpajfgdbmeiiaaQM
namespace Go.AX
open Go.Proofs
set_option autoImplicit false
set_option linter.unusedVariables false
set_option maxRecDepth 100000
set_option maxHeartbeats 4000000
set_option linter.unusedSimpArgs false

theorem s39 {l1 : List TAt} {c2 : List D} {n3 : Nat} {l5 : List TAt} {c6 : List D} {n7 : Nat} (hl4 : IsL eAt c2 n3 l1) (hl8 : IsL eAt c6 n7 l5) {b9 : Bool}  (h : m_ref10_Same l1 l5 = some b9) : Spec Try.prog 39 [.d (.lst c2 n3), .d (.lst c6 n7)] ⟨.d (.bool b9), [], 0, True⟩ := by
  refine spec_b [] Try.func39 rfl rfl rfl fun J P hJ hP => ?_
  dsimp only [m_ref10_Same] at h
  cbv
  revert h
  refine st_len hJ hl4 fun v11 ev11 h => ?_
  cbv
  revert h
  refine st_len hJ hl8 fun v12 ev12 h => ?_
  cbv
  revert h
  refine st_cmp hJ fun b13 eb13 h => ?_
  cbv
  cases b13 with
  | true =>
    replace h := cnd_t h
    cbv
    cases h
    exact ⟨[], _, _, [], rfl, rfl, rfl, rfl⟩
  | false =>
    replace h := cnd_f h
    cbv
    obtain ⟨p15, q14, hp16, hf17, hq18⟩ := bnd_loop h
    clear h
    refine LoopB.mk ({x : Nat × Int // loopN p15 x.1 (x.2) = some q14}) (fun x => ⟨[(0, .d (.lst c2 n3)), (1, .d (.lst c6 n7)), (5, .d (.int .i64 x.1.2))], [], 0, 26⟩) (fun x => x.1.1) [0, 1, 5] 0 ⟨(FUEL, 0), hf17⟩ ⟨[], [], ?_⟩ ?_
    · rfl
    · rintro ⟨⟨N21, v24⟩, hr20⟩
      obtain ⟨M22, o19, eN23, h, hr20⟩ := loopN_step hr20
      subst eN23
      rw [hp16] at h
      try dsimp only at h ⊢
      cbv
      revert h
      refine st_len hJ hl4 fun v25 ev25 h => ?_
      cbv
      revert h
      refine st_cmp hJ fun b26 eb26 h => ?_
      cbv
      cases b26 with
      | true =>
        replace h := cnd_t h
        cbv
        revert h
        refine st_idx_lp hJ hl4 fun y27 k28 hy29 ho30 h => ?_
        obtain ⟨v31, v32⟩ := y27
        try dsimp only at h
        cbv
        refine st_ld hJ eAt_len hl4 hy29 ho30 0 (fun hJ => by subst hJ; rfl) ([.int .i64 v31, .int .i64 v32]) (Nat.le_of_ble_eq_true rfl) rfl (.int (.int .nil)) rfl ?_
        cbv
        revert h
        refine st_idx_lp hJ hl8 fun y33 k34 hy35 ho36 h => ?_
        obtain ⟨v37, v38⟩ := y33
        try dsimp only at h
        cbv
        refine st_ld hJ eAt_len hl8 hy35 ho36 0 (fun hJ => by subst hJ; rfl) ([.int .i64 v37, .int .i64 v38]) (Nat.le_of_ble_eq_true rfl) rfl (.int (.int .nil)) rfl ?_
        cbv
        revert h
        refine st_bool hJ (fun hJ => by subst hJ; rfl) fun b39 eb39 h => ?_
        cbv
        refine ⟨fun _ => by kernel_rfl, ?_⟩
        cbv
        cases b39 with
        | true =>
          replace h := cnd_t h
          cbv
          cases h
          have h := hq18
          obtain rfl := hr20
          try dsimp only at h
          cases h
          exact ⟨[], _, _, [], rfl, rfl, rfl, rfl⟩
        | false =>
          replace h := cnd_f h
          cbv
          revert h
          refine st_bin hJ fun v40 ev40 h => ?_
          cbv
          cases h
          exact ⟨⟨(M22, v40), hr20⟩, [], 0, [], rfl, Nat.lt_succ_self _⟩
      | false =>
        replace h := cnd_f h
        cbv
        cases h
        have h := hq18
        obtain rfl := hr20
        try dsimp only at h
        cases h
        exact ⟨[], _, _, [], rfl, rfl, rfl, rfl⟩
theorem s43 {v1 : Int} {v2 : Int} {v3 : Int} {v4 : Int} {v5 : Int} {l6 : List Int} {c7 : List D} {n8 : Nat} {v10 : Int} {v11 : Int} {v12 : Int} (hl9 : IsL (eI .i64) c7 n8 l6) {v13 : Int}  (h : m_ref12_Keep (TGeom.mk v1 v2 v3 v4 v5) (TPool.mk l6 (A3.mk v10 v11 v12)) = some v13) : Spec Try.prog 43 [.agg [.d (.int .i64 v1), .d (.int .i64 v2), .d (.int .i64 v3), .d (.int .i64 v4), .d (.int .i64 v5)], .agg [.d (.lst c7 n8), .d (.int .i64 v10), .d (.int .i64 v11), .d (.int .i64 v12)]] ⟨.d (.int .i64 v13), [], 0, True⟩ := by
  refine spec_b [] Try.func43 rfl rfl rfl fun J P hJ hP => ?_
  dsimp only [m_ref12_Keep] at h
  cbv
  refine st_val hJ ?_
  cbv
  revert h
  refine st_cmp hJ fun b15 eb15 h => ?_
  cbv
  cases b15 with
  | true =>
    replace h := cnd_t h
    cbv
    cases h
    exact ⟨[], _, _, [], rfl, rfl, rfl, rfl⟩
  | false =>
    replace h := cnd_f h
    cbv
    cases h
    exact ⟨[], _, _, [], rfl, rfl, rfl, rfl⟩
theorem s59 {v1 : Int} {v2 : Int} {v3 : Int} {v4 : Int}  {l5 : List Int} {c6 : List D} {n7 : Nat} (hl8 : IsL (eI .i64) c6 n7 l5) (h : m_ref12_some v1 v2 v3 v4 = some l5) : Spec Try.prog 59 [.d (.int .i64 v1), .d (.int .i64 v2), .d (.int .i64 v3), .d (.int .i64 v4)] ⟨.own 0 n7 1, [(0, .row c6 1 3)], 1, True⟩ := by
  refine spec_b [] Try.func59 rfl rfl rfl fun J P hJ hP => ?_
  dsimp only [m_ref12_some] at h
  cbv
  obtain ⟨p11, q10, hp12, hf13, hq14⟩ := bnd_loop h
  clear h
  refine LoopB.mk ({x : Nat × Int × (List Int) × (List D) × Nat // IsL (eI .i64) x.2.2.2.1 x.2.2.2.2 x.2.2.1 ∧ loopN p11 x.1 (x.2.1, x.2.2.1) = some q10}) (fun x => ⟨[(0, .d (.int .i64 v1)), (1, .d (.int .i64 v2)), (2, .d (.int .i64 v3)), (3, .d (.int .i64 v4)), (9, .own 0 x.1.2.2.2.2 1), (10, .d (.int .i64 x.1.2.1))], [(0, .row x.1.2.2.2.1 1 3)], 1, 31⟩) (fun x => x.1.1) [0, 1, 2, 3, 9, 10] 0 ⟨(FUEL, 0, ([] : List Int), [], 0), IsL.nil', hf13⟩ ⟨[], [.slot 9 0 1 3], ?_⟩ ?_
  · rfl
  · rintro ⟨⟨N17, v20, l21, c22, n23⟩, hl24, hr16⟩
    obtain ⟨M18, o15, eN19, h, hr16⟩ := loopN_step hr16
    subst eN19
    rw [hp12] at h
    try dsimp only at h ⊢
    cbv
    revert h
    refine st_cmp hJ fun b25 eb25 h => ?_
    cbv
    cases b25 with
    | true =>
      replace h := cnd_t h
      cbv
      have hl26 : IsL (eI .i64) [.int .i64 v1] 1 [v1] := ⟨rfl, rfl⟩
      refine st_any hJ rfl rfl (by subst hJ; exact (by decide : 1 ≤ 16777216)) ?_
      cbv
      revert h
      refine st_app hJ (eI_len .i64) hl24 hl26 fun c28 n29 l27 hl30 h => ?_
      cbv
      revert h
      refine st_bin hJ fun v31 ev31 h => ?_
      cbv
      cases h
      exact ⟨⟨(M18, v31, l27, c28, n29), hl30, hr16⟩, [(8, 0)], 1, [], rfl, Nat.lt_succ_self _⟩
    | false =>
      replace h := cnd_f h
      cbv
      cases h
      have h := hq14
      obtain rfl := hr16
      try dsimp only at h
      obtain ⟨p27, q26, hp28, hf29, hq30⟩ := bnd_loop h
      clear h
      refine LoopB.mk ({x : Nat × Int × (List Int) × (List D) × Nat // IsL (eI .i64) x.2.2.2.1 x.2.2.2.2 x.2.2.1 ∧ loopN p27 x.1 (x.2.1, x.2.2.1) = some q26}) (fun x => ⟨[(2, .d (.int .i64 v3)), (3, .d (.int .i64 v4)), (9, .own 0 x.1.2.2.2.2 1), (11, .d (.int .i64 x.1.2.1))], [(0, .row x.1.2.2.2.1 1 3)], 1, 31⟩) (fun x => x.1.1) [2, 3, 9, 11] 1 ⟨(FUEL, 0, l21, c22, n23), hl24, hf29⟩ ⟨[(0, 0)], [], ?_⟩ ?_
      · rfl
      · rintro ⟨⟨N33, v36, l37, c38, n39⟩, hl40, hr32⟩
        obtain ⟨M34, o31, eN35, h, hr32⟩ := loopN_step hr32
        subst eN35
        rw [hp28] at h
        try dsimp only at h ⊢
        cbv
        revert h
        refine st_cmp hJ fun b41 eb41 h => ?_
        cbv
        cases b41 with
        | true =>
          replace h := cnd_t h
          cbv
          have hl42 : IsL (eI .i64) [.int .i64 v3] 1 [v3] := ⟨rfl, rfl⟩
          refine st_any hJ rfl rfl (by subst hJ; exact (by decide : 1 ≤ 16777216)) ?_
          cbv
          revert h
          refine st_app hJ (eI_len .i64) hl40 hl42 fun c44 n45 l43 hl46 h => ?_
          cbv
          revert h
          refine st_bin hJ fun v47 ev47 h => ?_
          cbv
          cases h
          exact ⟨⟨(M34, v47, l43, c44, n45), hl46, hr32⟩, [(8, 0)], 1, [], rfl, Nat.lt_succ_self _⟩
        | false =>
          replace h := cnd_f h
          cbv
          cases h
          have h := hq30
          obtain rfl := hr32
          try dsimp only at h
          cases h
          obtain ⟨rfl, rfl⟩ := IsL.uniq hl8 hl40
          exact ⟨[], _, _, [(0, 0)], rfl, rfl, rfl, rfl⟩
end Go.AX
