/- What functions of the program compute: each is what its Lean function says. -/
import Derived.Test.YtegcfbmleimcfaaTM
namespace Go.AX
open Go.Proofs
set_option autoImplicit false
set_option linter.unusedVariables false
set_option maxRecDepth 100000
set_option maxHeartbeats 100000000
set_option linter.unusedSimpArgs false

theorem s41 {l1 : List TTrans} {c2 : List D} {n3 : Nat} (hl4 : IsL eTrans c2 n3 l1) {l5 : List TTrans} {c6 : List D} {n7 : Nat} (hl8 : IsL eTrans c6 n7 l5) (h : m_slices_Clone l1 = some l5) : Spec Try.prog 41 [.d (.lst c2 n3)] ⟨.own 0 n7 3, [(0, .row c6 3 24)], 1, True⟩ := by
  refine spec_b [] Try.func41 rfl rfl rfl fun J P hJ hP => ?_
  dsimp only [m_slices_Clone] at h
  cbv
  intro b hb
  cases b with
  | true =>
    cbv
    have hn : n3 = 0 := hb rfl
    have h0 : l1 = [] := List.eq_nil_of_length_eq_zero (by rw [← hl4.n]; exact hn)
    subst h0
    have h1 : l5 = [] := (Option.some.inj h).symm
    subst h1
    obtain ⟨rfl, rfl⟩ := IsL.nil hl8
    exact ⟨_, .refl _, [.slot 2 1000000 3 24], _, _, [(1000000, 0)], _, rfl, rfl, rfl, rfl, rfl, rfl⟩
  | false =>
    cbv
    refine st_any hJ rfl rfl (by subst hJ; exact (by decide : 0 ≤ 16777216)) ?_
    cbv
    revert h
    refine st_app hJ eTrans_len IsL.nil' hl4 fun c'' n'' l'' hl'' h => ?_
    cbv
    cases h
    obtain ⟨rfl, rfl⟩ := IsL.uniq hl8 hl''
    exact ⟨_, .refl _, [], _, _, [(6, 0)], _, rfl, rfl, rfl, rfl, rfl, rfl⟩
theorem s38 {l1 : List TWrite} {c2 : List D} {n3 : Nat} (hl4 : IsL eWrite c2 n3 l1) {l5 : List TWrite} {c6 : List D} {n7 : Nat} (hl8 : IsL eWrite c6 n7 l5) (h : m_slices_Clone_ l1 = some l5) : Spec Try.prog 38 [.d (.lst c2 n3)] ⟨.own 0 n7 34, [(0, .row c6 34 28)], 1, True⟩ := by
  refine spec_b [] Try.func38 rfl rfl rfl fun J P hJ hP => ?_
  dsimp only [m_slices_Clone_] at h
  cbv
  intro b hb
  cases b with
  | true =>
    cbv
    have hn : n3 = 0 := hb rfl
    have h0 : l1 = [] := List.eq_nil_of_length_eq_zero (by rw [← hl4.n]; exact hn)
    subst h0
    have h1 : l5 = [] := (Option.some.inj h).symm
    subst h1
    obtain ⟨rfl, rfl⟩ := IsL.nil hl8
    exact ⟨_, .refl _, [.slot 2 1000000 34 28], _, _, [(1000000, 0)], _, rfl, rfl, rfl, rfl, rfl, rfl⟩
  | false =>
    cbv
    refine st_any hJ rfl rfl (by subst hJ; exact (by decide : 0 ≤ 16777216)) ?_
    cbv
    revert h
    refine st_app hJ eWrite_len IsL.nil' hl4 fun c'' n'' l'' hl'' h => ?_
    cbv
    cases h
    obtain ⟨rfl, rfl⟩ := IsL.uniq hl8 hl''
    exact ⟨_, .refl _, [], _, _, [(6, 0)], _, rfl, rfl, rfl, rfl, rfl, rfl⟩
theorem s44 {v1 : Int}  {b2 : Bool}  (h : m_cmp_isNaN v1 = some b2) : Spec Try.prog 44 [.d (.int .i64 v1)] ⟨.d (.bool b2), [], 0, True⟩ := by
  refine spec_b [] Try.func44 rfl rfl rfl fun J P hJ hP => ?_
  dsimp only [m_cmp_isNaN] at h
  cbv
  revert h
  refine st_cmp hJ fun b4 eb4 h => ?_
  cbv
  cases h
  exact ⟨_, .refl _, [], _, _, [], _, rfl, rfl, rfl, rfl, rfl, rfl⟩
theorem s16 {v1 : Int} {v2 : Int} {l3 : List TWrite} {c4 : List D} {n5 : Nat} (hl6 : IsL eWrite c4 n5 l3) {v7 : Int}  (h : m_trans_Puts (TTrans.mk v1 v2 l3) = some v7) : Spec Try.prog 16 [.agg [.d (.int .i64 v1), .d (.int .i64 v2), .d (.lst c4 n5)]] ⟨.d (.int .i64 v7), [], 0, True⟩ := by
  refine spec_b [] Try.func16 rfl rfl rfl fun J P hJ hP => ?_
  dsimp only [m_trans_Puts] at h
  cbv
  revert h
  refine st_len hJ hl6 fun v9 ev9 h => ?_
  cbv
  obtain ⟨p11, q10, hp12, hf13, hq14⟩ := bnd_loop h
  clear h
  refine LoopB.mk ({x : Nat × Int × Int // loopN p11 x.1 (x.2.1, x.2.2) = some q10}) (fun x => ⟨[(3, .d (.int .i64 x.1.2.1)), (7, .d (.lst c4 n5)), (8, .d (.int .i64 v9)), (9, .d (.int .i64 x.1.2.2))], [], 0, 20⟩) (fun x => x.1.1) [3, 7, 8, 9] 0 ⟨(FUEL, 0, 0), hf13⟩ ⟨[], [], ?_⟩ ?_
  · rfl
  · rintro ⟨⟨N17, v20, v21⟩, hr16⟩
    obtain ⟨M18, o15, eN19, h, hr16⟩ := loopN_step hr16
    subst eN19
    rw [hp12] at h
    try dsimp only at h ⊢
    cbv
    revert h
    refine st_cmp hJ fun b22 eb22 h => ?_
    cbv
    cases b22 with
    | true =>
      replace h := cnd_t h
      cbv
      revert h
      refine st_idx_lp hJ hl6 fun y23 k24 hy25 ho26 h => ?_
      obtain ⟨v27, b28, a29⟩ := y23
      obtain ⟨d30, ha31⟩ := nameA .u8 a29
      try dsimp only at h
      cbv
      refine st_ldW hJ eWrite_len hl6 hy25 ho26 (fun hJ => by subst hJ; rfl) ([.int .i64 v27, .bool b28] ++ (d30 ++ [])) (by rw [(show d30 = encL (eI .u8) a29.l from ha31)]; first | done | rfl | simp [eWrite, encL_len (k := 1) (eI_len _), Ar.h]) (.int (.bool (.big ⟨by rw [(show d30 = encL (eI .u8) a29.l from ha31)]; exact eA_len _ _, by decide⟩ .nil))) rfl ?_
      cbv
      revert h
      refine st_not hJ fun b32 eb32 h => ?_
      cbv
      cases b32 with
      | true =>
        replace h := cnd_t h
        cbv
        revert h
        refine st_bin hJ fun v33 ev33 h => ?_
        cbv
        revert h
        refine st_bin hJ fun v34 ev34 h => ?_
        cbv
        cases h
        exact ⟨⟨(M18, v33, v34), hr16⟩, [], 0, [], rfl, Nat.lt_succ_self _⟩
      | false =>
        replace h := cnd_f h
        cbv
        revert h
        refine st_bin hJ fun v33 ev33 h => ?_
        cbv
        cases h
        exact ⟨⟨(M18, v20, v33), hr16⟩, [], 0, [], rfl, Nat.lt_succ_self _⟩
    | false =>
      replace h := cnd_f h
      cbv
      cases h
      have h := hq14
      obtain rfl := hr16
      try dsimp only at h
      cases h
      exact ⟨_, .refl _, [], _, _, [], _, rfl, rfl, rfl, rfl, rfl, rfl⟩
theorem s26 {v1 : Int} {l2 : List TTrans} {c3 : List D} {n4 : Nat} {v6 : Int} (hl5 : IsL eTrans c3 n4 l2) {v7 : Int}  (h : m_trans_Oldest (TLedger.mk v1 l2) v6 = some v7) : Spec Try.prog 26 [.agg [.d (.int .i64 v1), .d (.lst c3 n4)], .d (.int .i64 v6)] ⟨.d (.int .i64 v7), [], 0, True⟩ := by
  refine spec_b [] Try.func26 rfl rfl rfl fun J P hJ hP => ?_
  dsimp only [m_trans_Oldest] at h
  cbv
  revert h
  refine st_len hJ hl5 fun v9 ev9 h => ?_
  cbv
  revert h
  refine st_cmp hJ fun b10 eb10 h => ?_
  cbv
  cases b10 with
  | true =>
    replace h := cnd_t h
    cbv
    cases h
    exact ⟨_, .refl _, [], _, _, [], _, rfl, rfl, rfl, rfl, rfl, rfl⟩
  | false =>
    replace h := cnd_f h
    cbv
    revert h
    refine st_idx_lp hJ hl5 fun y11 k12 hy13 ho14 h => ?_
    obtain ⟨v15, v16, l17⟩ := y11
    obtain ⟨c18, n19, hl20⟩ := nameL eWrite l17
    try dsimp only at h
    cbv
    refine st_ld hJ eTrans_len hl5 hy13 ho14 1 (fun hJ => by subst hJ; rfl) ([.int .i64 v16]) (Nat.le_of_ble_eq_true rfl) rfl (.int .nil) rfl ?_
    cbv
    revert h
    refine st_len hJ hl5 fun v21 ev21 h => ?_
    cbv
    obtain ⟨p23, q22, hp24, hf25, hq26⟩ := bnd_loop h
    clear h
    refine LoopB.mk ({x : Nat × Int × Int // loopN p23 x.1 (x.2.1, x.2.2) = some q22}) (fun x => ⟨[(5, .d (.int .i64 x.1.2.1)), (19, .d (.lst c3 n4)), (20, .d (.int .i64 v21)), (21, .d (.int .i64 x.1.2.2))], [], 0, 31⟩) (fun x => x.1.1) [5, 19, 20, 21] 0 ⟨(FUEL, v16, 0), hf25⟩ ⟨[], [], ?_⟩ ?_
    · rfl
    · rintro ⟨⟨N29, v32, v33⟩, hr28⟩
      obtain ⟨M30, o27, eN31, h, hr28⟩ := loopN_step hr28
      subst eN31
      rw [hp24] at h
      try dsimp only at h ⊢
      cbv
      revert h
      refine st_cmp hJ fun b34 eb34 h => ?_
      cbv
      cases b34 with
      | true =>
        replace h := cnd_t h
        cbv
        revert h
        refine st_idx_lp hJ hl5 fun y35 k36 hy37 ho38 h => ?_
        obtain ⟨v39, v40, l41⟩ := y35
        obtain ⟨c42, n43, hl44⟩ := nameL eWrite l41
        try dsimp only at h
        cbv
        refine st_ld hJ eTrans_len hl5 hy37 ho38 0 (fun hJ => by subst hJ; rfl) ([.int .i64 v39, .int .i64 v40, .lst c42 n43]) (Nat.le_of_ble_eq_true rfl) (by rw [hl44.cs, hl44.n]; rfl) (.int (.int (.slc .nil))) rfl ?_
        cbv
        revert h
        refine st_min hJ fun v45 ev45 h => ?_
        cbv
        revert h
        refine st_bin hJ fun v46 ev46 h => ?_
        cbv
        cases h
        exact ⟨⟨(M30, v45, v46), hr28⟩, [], 0, [], rfl, Nat.lt_succ_self _⟩
      | false =>
        replace h := cnd_f h
        cbv
        cases h
        have h := hq26
        obtain rfl := hr28
        try dsimp only at h
        cases h
        exact ⟨_, .refl _, [], _, _, [], _, rfl, rfl, rfl, rfl, rfl, rfl⟩
end Go.AX
