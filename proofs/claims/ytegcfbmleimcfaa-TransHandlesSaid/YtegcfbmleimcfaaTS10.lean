/- What functions of the program compute: each is what its Lean function says. -/
import Derived.Test.YtegcfbmleimcfaaTS9
namespace Go.AX
open Go.Proofs
set_option autoImplicit false
set_option linter.unusedVariables false
set_option maxRecDepth 100000
set_option maxHeartbeats 100000000
set_option linter.unusedSimpArgs false

theorem s18 {v1 : Int} {l2 : List TTrans} {c3 : List D} {n4 : Nat} {v6 : Int} (hl5 : IsL eTrans c3 n4 l2) {v7 : Int} {l8 : List TTrans} {c9 : List D} {n10 : Nat} {v12 : Int} {v13 : Int} (hl11 : IsL eTrans c9 n10 l8) (h : m_trans_Begin (TLedger.mk v1 l2) v6 = some ((TLedger.mk v7 l8), v12, v13)) : Spec Try.prog 18 [.agg [.d (.int .i64 v1), .d (.lst c3 n4)], .d (.int .i64 v6)] ⟨.tup [.agg [.d (.int .i64 v7), .own 0 n10 3], .d (.int .i64 v12), .d (.int .i64 v13)], [(0, .row c9 3 24)], 1, True⟩ := by
  refine spec_b [] Try.func18 rfl rfl rfl fun J P hJ hP => ?_
  dsimp only [m_trans_Begin] at h
  cbv
  obtain ⟨⟨v17, l18⟩, h16, h⟩ := bnd h
  obtain ⟨c19, n20, hl21⟩ := nameL eTrans l18
  try dsimp only at h
  refine call_by hP (s31 hl5 hl21 h16) hJ rfl rfl ?_
  cbv
  revert h
  refine st_len hJ hl21 fun v22 ev22 h => ?_
  cbv
  revert h
  refine st_cmp hJ fun b23 eb23 h => ?_
  cbv
  cases b23 with
  | true =>
    replace h := cnd_t h
    cbv
    cases h
    obtain ⟨rfl, rfl⟩ := IsL.uniq hl11 hl21
    exact ⟨_, .refl _, [], _, _, [(7, 0)], _, rfl, rfl, rfl, rfl, rfl, rfl⟩
  | false =>
    replace h := cnd_f h
    cbv
    revert h
    refine st_bin hJ fun v24 ev24 h => ?_
    cbv
    have hl25 : IsL eTrans [.int .i64 v17, .int .i64 v6, .lst [] 0] 1 [(TTrans.mk v17 v6 ([] : List TWrite))] := ⟨rfl, rfl⟩
    refine st_any hJ rfl rfl (by subst hJ; exact (by decide : 3 ≤ 16777216)) ?_
    cbv
    revert h
    refine st_app hJ eTrans_len hl21 hl25 fun c27 n28 l26 hl29 h => ?_
    cbv
    cases h
    obtain ⟨rfl, rfl⟩ := IsL.uniq hl11 hl29
    exact ⟨_, .refl _, [], _, _, [(31, 0)], _, rfl, rfl, rfl, rfl, rfl, rfl⟩
theorem s42 {l1 : List TTrans} {c2 : List D} {n3 : Nat} {v5 : Int} (hl4 : IsL eTrans c2 n3 l1) {v6 : Int} {b7 : Bool}  (h : m_slices_BinarySearchFunc l1 v5 = some (v6, b7)) : Spec Try.prog 42 [.d (.lst c2 n3), .d (.int .i64 v5), .fn 43 []] ⟨.tup [.d (.int .i64 v6), .d (.bool b7)], [], 0, True⟩ := by
  refine spec_b [] Try.func42 rfl rfl rfl fun J P hJ hP => ?_
  dsimp only [m_slices_BinarySearchFunc] at h
  cbv
  revert h
  refine st_len hJ hl4 fun v9 ev9 h => ?_
  cbv
  obtain ⟨p11, q10, hp12, hf13, hq14⟩ := bnd_loop h
  clear h
  refine LoopB.mk ({x : Nat × Int × Int // loopN p11 x.1 (x.2.1, x.2.2) = some q10}) (fun x => ⟨[(0, .d (.lst c2 n3)), (1, .d (.int .i64 v5)), (2, .fn 43 []), (8, .d (.int .i64 v9)), (9, .d (.int .i64 x.1.2.1)), (10, .d (.int .i64 x.1.2.2))], [], 0, 49⟩) (fun x => x.1.1) [0, 1, 2, 8, 9, 10] 0 ⟨(FUEL, 0, v9), hf13⟩ ⟨[], [], ?_⟩ ?_
  · rfl
  · rintro ⟨⟨N17, v20, v21⟩, hr16⟩
    obtain ⟨M18, o15, eN19, h, hr16⟩ := loopN_step hr16
    subst eN19
    rw [hp12] at h
    try dsimp only at h ⊢
    cbv
    revert h
    refine st_cmp hJ fun b22 eb22 h => ?_
    cbv
    cases b22 with
    | true =>
      replace h := cnd_t h
      cbv
      revert h
      refine st_bin hJ fun v23 ev23 h => ?_
      cbv
      revert h
      refine st_conv hJ fun v24 ev24 h => ?_
      cbv
      revert h
      refine st_sh hJ fun v25 ev25 h => ?_
      cbv
      revert h
      refine st_conv hJ fun v26 ev26 h => ?_
      cbv
      revert h
      refine st_idx_lp hJ hl4 fun y27 k28 hy29 ho30 h => ?_
      obtain ⟨v31, v32, l33⟩ := y27
      obtain ⟨c34, n35, hl36⟩ := nameL eWrite l33
      try dsimp only at h
      cbv
      refine st_ld hJ eTrans_len hl4 hy29 ho30 0 (fun hJ => by subst hJ; rfl) ([.int .i64 v31, .int .i64 v32, .lst c34 n35]) (Nat.le_of_ble_eq_true rfl) (by rw [hl36.cs, hl36.n]; rfl) (.int (.int (.slc .nil))) rfl ?_
      cbv
      obtain ⟨v39, h38, h⟩ := bnd h
      refine call_by hP (s43 hl36 h38) hJ rfl rfl ?_
      cbv
      revert h
      refine st_cmp hJ fun b40 eb40 h => ?_
      cbv
      cases b40 with
      | true =>
        replace h := cnd_t h
        cbv
        revert h
        refine st_bin hJ fun v41 ev41 h => ?_
        cbv
        cases h
        exact ⟨⟨(M18, v41, v21), hr16⟩, [], 0, [], rfl, Nat.lt_succ_self _⟩
      | false =>
        replace h := cnd_f h
        cbv
        cases h
        exact ⟨⟨(M18, v20, v26), hr16⟩, [], 0, [], rfl, Nat.lt_succ_self _⟩
    | false =>
      replace h := cnd_f h
      cbv
      cases h
      have h := hq14
      obtain rfl := hr16
      try dsimp only at h
      revert h
      refine st_cmp hJ fun b23 eb23 h => ?_
      cbv
      cases b23 with
      | true =>
        replace h := cnd_t h
        cbv
        revert h
        refine st_idx_lp hJ hl4 fun y24 k25 hy26 ho27 h => ?_
        obtain ⟨v28, v29, l30⟩ := y24
        obtain ⟨c31, n32, hl33⟩ := nameL eWrite l30
        try dsimp only at h
        cbv
        refine st_ld hJ eTrans_len hl4 hy26 ho27 0 (fun hJ => by subst hJ; rfl) ([.int .i64 v28, .int .i64 v29, .lst c31 n32]) (Nat.le_of_ble_eq_true rfl) (by rw [hl33.cs, hl33.n]; rfl) (.int (.int (.slc .nil))) rfl ?_
        cbv
        obtain ⟨v36, h35, h⟩ := bnd h
        refine call_by hP (s43 hl33 h35) hJ rfl rfl ?_
        cbv
        revert h
        refine st_cmp hJ fun b37 eb37 h => ?_
        cbv
        cases h
        exact ⟨_, .refl _, [], _, _, [], _, rfl, rfl, rfl, rfl, rfl, rfl⟩
      | false =>
        replace h := cnd_f h
        cbv
        cases h
        exact ⟨_, .refl _, [], _, _, [], _, rfl, rfl, rfl, rfl, rfl, rfl⟩
end Go.AX
