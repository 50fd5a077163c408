/- What functions of the program compute: each is what its Lean function says. -/
import Derived.Test.YtegcfbmleimcfaaTM
namespace Go.AX
open Go.Proofs
set_option autoImplicit false
set_option linter.unusedVariables false
set_option maxRecDepth 100000
set_option maxHeartbeats 100000000
set_option linter.unusedSimpArgs false

theorem s34 {v1 : Int} {l2 : List TTrans} {c3 : List D} {n4 : Nat} {v6 : Int} {v7 : Int} {v8 : Int} {l9 : List TWrite} {c10 : List D} {n11 : Nat} {b13 : Bool} (hl5 : IsL eTrans c3 n4 l2) (hl12 : IsL eWrite c10 n11 l9) {v14 : Int} {l15 : List TTrans} {c16 : List D} {n17 : Nat} (hl18 : IsL eTrans c16 n17 l15) (h : m_ref18_with (TLedger.mk v1 l2) v6 (TTrans.mk v7 v8 l9) b13 = some (TLedger.mk v14 l15)) : Spec Try.prog 34 [.agg [.d (.int .i64 v1), .d (.lst c3 n4)], .d (.int .i64 v6), .agg [.d (.int .i64 v7), .d (.int .i64 v8), .d (.lst c10 n11)], .d (.bool b13)] ⟨.agg [.d (.int .i64 v14), .own 0 n17 3], [(0, .row c16 3 24)], 1, True⟩ := by
  refine spec_b [] Try.func34 rfl rfl rfl fun J P hJ hP => ?_
  dsimp only [m_ref18_with] at h
  cbv
  obtain ⟨p21, q20, hp22, hf23, hq24⟩ := bnd_loop h
  clear h
  refine LoopB.mk ({x : Nat × Int × (List TTrans) × (List D) × Nat // IsL eTrans x.2.2.2.1 x.2.2.2.2 x.2.2.1 ∧ loopN p21 x.1 (x.2.1, x.2.2.1) = some q20}) (fun x => ⟨[(1, .d (.int .i64 v6)), (3, .d (.bool b13)), (4, .ptr 0 0), (6, .ptr 1 0), (8, .ptr 2 0), (9, .ptr 3 0), (10, .d (.int .i64 x.1.2.1))], [(0, .box [.d (.int .i64 v1), .d (.lst c3 n4)]), (1, .box [.d (.int .i64 v7), .d (.int .i64 v8), .d (.lst c10 n11)]), (2, .box [.d (.int .i64 0), .d .nils]), (3, .box [.d (.int .i64 v1), .own 4 x.1.2.2.2.2 3]), (4, .row x.1.2.2.2.1 3 24)], 5, 48⟩) (fun x => x.1.1) [1, 3, 4, 6, 8, 9, 10] 4 ⟨(FUEL, 0, ([] : List TTrans), [], 0), (IsL.nil' (g := eTrans)), hf23⟩ ⟨[(0, 0), (2, 1), (4, 2), (9, 3)], [.cell 3 1 4 3 24], ?_⟩ ?_
  · rfl
  · rintro ⟨⟨N27, v30, l31, c32, n33⟩, hl34, hr26⟩
    obtain ⟨M28, o25, eN29, h, hr26⟩ := loopN_step hr26
    subst eN29
    rw [hp22] at h
    try dsimp only at h ⊢
    cbv
    revert h
    refine st_len hJ hl5 fun v35 ev35 h => ?_
    cbv
    revert h
    refine st_cmp hJ fun b36 eb36 h => ?_
    cbv
    cases b36 with
    | true =>
      replace h := cnd_t h
      cbv
      revert h
      refine st_idx_lp hJ hl5 fun y37 k38 hy39 ho40 h => ?_
      obtain ⟨v41, v42, l43⟩ := y37
      obtain ⟨c44, n45, hl46⟩ := nameL eWrite l43
      try dsimp only at h
      cbv
      refine st_ld hJ eTrans_len hl5 hy39 ho40 0 (fun hJ => by subst hJ; rfl) ([.int .i64 v41]) (Nat.le_of_ble_eq_true rfl) rfl (.int .nil) rfl ?_
      cbv
      revert h
      refine st_cmp hJ fun b47 eb47 h => ?_
      cbv
      cases b47 with
      | true =>
        replace h := cnd_t h
        cbv
        revert h
        refine st_idx_lp hJ hl5 fun y48 k49 hy50 ho51 h => ?_
        obtain ⟨v52, v53, l54⟩ := y48
        obtain ⟨c55, n56, hl57⟩ := nameL eWrite l54
        try dsimp only at h
        cbv
        refine st_ld hJ eTrans_len hl5 hy50 ho51 0 (fun hJ => by subst hJ; rfl) ([.int .i64 v52, .int .i64 v53, .lst c55 n56]) (Nat.le_of_ble_eq_true rfl) (by rw [hl57.cs, hl57.n]; rfl) (.int (.int (.slc .nil))) rfl ?_
        cbv
        have hl58 : IsL eTrans [.int .i64 v52, .int .i64 v53, .lst c55 n56] 1 [(TTrans.mk v52 v53 l54)] := ⟨by rw [hl57.cs, hl57.n]; rfl, rfl⟩
        refine st_any hJ rfl rfl (by subst hJ; exact (by decide : 3 ≤ 16777216)) ?_
        cbv
        revert h
        refine st_app hJ eTrans_len hl34 hl58 fun c60 n61 l59 hl62 h => ?_
        cbv
        refine ⟨fun _ => by kernel_rfl, ?_⟩
        cbv
        revert h
        refine st_bin hJ fun v63 ev63 h => ?_
        cbv
        cases h
        exact ⟨⟨(M28, v63, l59, c60, n61), hl62, hr26⟩, [(0, 0), (1, 1), (2, 2), (3, 3), (27, 4)], 5, [], rfl, Nat.lt_succ_self _⟩
      | false =>
        replace h := cnd_f h
        cbv
        revert h
        refine st_not hJ fun b48 eb48 h => ?_
        cbv
        cases b48 with
        | true =>
          replace h := cnd_t h
          cbv
          have hl49 : IsL eTrans [.int .i64 v7, .int .i64 v8, .lst c10 n11] 1 [(TTrans.mk v7 v8 l9)] := ⟨by rw [hl12.cs, hl12.n]; rfl, rfl⟩
          refine st_any hJ rfl rfl (by subst hJ; exact (by decide : 3 ≤ 16777216)) ?_
          cbv
          revert h
          refine st_app hJ eTrans_len hl34 hl49 fun c51 n52 l50 hl53 h => ?_
          cbv
          revert h
          refine st_bin hJ fun v54 ev54 h => ?_
          cbv
          cases h
          exact ⟨⟨(M28, v54, l50, c51, n52), hl53, hr26⟩, [(0, 0), (1, 1), (2, 2), (3, 3), (25, 4)], 5, [], rfl, Nat.lt_succ_self _⟩
        | false =>
          replace h := cnd_f h
          cbv
          revert h
          refine st_bin hJ fun v49 ev49 h => ?_
          cbv
          cases h
          exact ⟨⟨(M28, v49, l31, c32, n33), hl34, hr26⟩, [(0, 0), (1, 1), (2, 2), (3, 3), (4, 4)], 5, [], rfl, Nat.lt_succ_self _⟩
    | false =>
      replace h := cnd_f h
      cbv
      cases h
      have h := hq24
      obtain rfl := hr26
      try dsimp only at h
      cases h
      obtain ⟨rfl, rfl⟩ := IsL.uniq hl18 hl34
      exact ⟨_, .refl _, [], _, _, [(4, 0)], _, rfl, rfl, rfl, rfl, rfl, rfl⟩
theorem s27 {v1 : Int} {l2 : List TTrans} {c3 : List D} {n4 : Nat} {v6 : Int} (hl5 : IsL eTrans c3 n4 l2) {v7 : Int}  (h : m_ref18_Oldest (TLedger.mk v1 l2) v6 = some v7) : Spec Try.prog 27 [.agg [.d (.int .i64 v1), .d (.lst c3 n4)], .d (.int .i64 v6)] ⟨.d (.int .i64 v7), [], 0, True⟩ := by
  refine spec_b [10] Try.func27 rfl rfl rfl fun J P hJ hP => ?_
  dsimp only [m_ref18_Oldest] at h
  cbv
  obtain ⟨p10, q9, hp11, hf12, hq13⟩ := bnd_loop h
  clear h
  refine LoopB.mk ({x : Nat × Int × Int // loopN p10 x.1 (x.2.1, x.2.2) = some q9}) (fun x => ⟨[(1, .d (.int .i64 x.1.2.1)), (2, .ptr 0 0), (5, .d (.int .i64 x.1.2.2))], [(0, .box [.d (.int .i64 v1), .d (.lst c3 n4)])], 1, 32⟩) (fun x => x.1.1) [1, 2, 5] 1 ⟨(FUEL, v6, 0), hf12⟩ ⟨[(0, 0)], [], ?_⟩ ?_
  · rfl
  · rintro ⟨⟨N16, v19, v20⟩, hr15⟩
    obtain ⟨M17, o14, eN18, h, hr15⟩ := loopN_step hr15
    subst eN18
    rw [hp11] at h
    try dsimp only at h ⊢
    cbv
    revert h
    refine st_len hJ hl5 fun v21 ev21 h => ?_
    cbv
    revert h
    refine st_cmp hJ fun b22 eb22 h => ?_
    cbv
    cases b22 with
    | true =>
      replace h := cnd_t h
      cbv
      obtain ⟨j24, hj25, h⟩ := jn h
      refine JoinP.mk ({x : Bool // j24 (x) = some o14}) (fun x => ⟨[(1, .d (.int .i64 v19)), (2, .ptr 0 0), (5, .d (.int .i64 v20)), (24, .d (.bool x.1))], [(0, .box [.d (.int .i64 v1), .d (.lst c3 n4)])], 1, 32⟩) (fun _ => True) [1, 2, 5, 24] ?_ ?_
      · cbv
        revert h
        refine st_cmp hJ fun b26 eb26 h => ?_
        cbv
        cases b26 with
        | true =>
          replace h := cnd_t h
          cbv
          exact ⟨⟨(true), h⟩, [(0, 0)], 1, [], rfl, trivial⟩
        | false =>
          replace h := cnd_f h
          cbv
          revert h
          refine st_idx_lp hJ hl5 fun y27 k28 hy29 ho30 h => ?_
          obtain ⟨v31, v32, l33⟩ := y27
          obtain ⟨c34, n35, hl36⟩ := nameL eWrite l33
          try dsimp only at h
          cbv
          refine st_ld hJ eTrans_len hl5 hy29 ho30 1 (fun hJ => by subst hJ; rfl) ([.int .i64 v32]) (Nat.le_of_ble_eq_true rfl) rfl (.int .nil) rfl ?_
          cbv
          revert h
          refine st_cmp hJ fun b37 eb37 h => ?_
          cbv
          exact ⟨⟨(b37), h⟩, [(0, 0)], 1, [], rfl, trivial⟩
      · rintro ⟨b26, h⟩ -
        rw [hj25] at h
        try dsimp only at h ⊢
        cbv
        cases b26 with
        | true =>
          replace h := cnd_t h
          cbv
          revert h
          refine st_idx_lp hJ hl5 fun y27 k28 hy29 ho30 h => ?_
          obtain ⟨v31, v32, l33⟩ := y27
          obtain ⟨c34, n35, hl36⟩ := nameL eWrite l33
          try dsimp only at h
          cbv
          refine st_ld hJ eTrans_len hl5 hy29 ho30 1 (fun hJ => by subst hJ; rfl) ([.int .i64 v32]) (Nat.le_of_ble_eq_true rfl) rfl (.int .nil) rfl ?_
          cbv
          revert h
          refine st_bin hJ fun v37 ev37 h => ?_
          cbv
          cases h
          exact ⟨⟨(M17, v32, v37), hr15⟩, [(0, 0)], 1, [], rfl, Nat.lt_succ_self _⟩
        | false =>
          replace h := cnd_f h
          cbv
          revert h
          refine st_bin hJ fun v27 ev27 h => ?_
          cbv
          cases h
          exact ⟨⟨(M17, v19, v27), hr15⟩, [(0, 0)], 1, [], rfl, Nat.lt_succ_self _⟩
    | false =>
      replace h := cnd_f h
      cbv
      cases h
      have h := hq13
      obtain rfl := hr15
      try dsimp only at h
      cases h
      exact ⟨_, .refl _, [], _, _, [], _, rfl, rfl, rfl, rfl, rfl, rfl⟩
end Go.AX
