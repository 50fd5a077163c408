/- What functions of the program compute: each is what its Lean function says. -/
import Derived.Test.YtegcfbmleimcfaaTS4
import Derived.Test.YtegcfbmleimcfaaTS5
namespace Go.AX
open Go.Proofs
set_option autoImplicit false
set_option linter.unusedVariables false
set_option maxRecDepth 100000
set_option maxHeartbeats 100000000
set_option linter.unusedSimpArgs false

theorem s19 {v1 : Int} {l2 : List TTrans} {c3 : List D} {n4 : Nat} {v6 : Int} {l7 : List TTrans} {c8 : List D} {n9 : Nat} (hl5 : IsL eTrans c3 n4 l2) (hl10 : IsL eTrans c8 n9 l7) {b11 : Bool}  (h : m_ref18_SameAll (TLedger.mk v1 l2) (TLedger.mk v6 l7) = some b11) : Spec Try.prog 19 [.agg [.d (.int .i64 v1), .d (.lst c3 n4)], .agg [.d (.int .i64 v6), .d (.lst c8 n9)]] ⟨.d (.bool b11), [], 0, True⟩ := by
  refine spec_b [6] Try.func19 rfl rfl rfl fun J P hJ hP => ?_
  dsimp only [m_ref18_SameAll] at h
  cbv
  obtain ⟨j14, hj15, h⟩ := jn h
  refine JoinP.mk ({x : Unit // j14 () = some b11}) (fun x => ⟨[(2, .ptr 0 0), (3, .ptr 1 0)], [(0, .box [.d (.int .i64 v1), .d (.lst c3 n4)]), (1, .box [.d (.int .i64 v6), .d (.lst c8 n9)])], 2, 39⟩) (fun _ => True) [2, 3] ?_ ?_
  · cbv
    revert h
    refine st_cmp hJ fun b16 eb16 h => ?_
    cbv
    cases b16 with
    | true =>
      replace h := cnd_t h
      cbv
      cases h
      exact ⟨_, .refl _, [], _, _, [], _, rfl, rfl, rfl, rfl, rfl, rfl⟩
    | false =>
      replace h := cnd_f h
      cbv
      revert h
      refine st_len hJ hl5 fun v17 ev17 h => ?_
      cbv
      revert h
      refine st_len hJ hl10 fun v18 ev18 h => ?_
      cbv
      revert h
      refine st_cmp hJ fun b19 eb19 h => ?_
      cbv
      cases b19 with
      | true =>
        replace h := cnd_t h
        cbv
        cases h
        exact ⟨_, .refl _, [], _, _, [], _, rfl, rfl, rfl, rfl, rfl, rfl⟩
      | false =>
        replace h := cnd_f h
        cbv
        exact ⟨⟨(), h⟩, [(0, 0), (2, 1)], 2, [], rfl, trivial⟩
  · rintro ⟨_, h⟩ -
    rw [hj15] at h
    try dsimp only at h ⊢
    cbv
    obtain ⟨p17, q16, hp18, hf19, hq20⟩ := bnd_loop h
    clear h
    refine LoopB.mk ({x : Nat × Int // loopN p17 x.1 (x.2) = some q16}) (fun x => ⟨[(2, .ptr 0 0), (3, .ptr 1 0), (5, .d (.int .i64 x.1.2))], [(0, .box [.d (.int .i64 v1), .d (.lst c3 n4)]), (1, .box [.d (.int .i64 v6), .d (.lst c8 n9)])], 2, 39⟩) (fun x => x.1.1) [2, 3, 5] 2 ⟨(FUEL, 0), hf19⟩ ⟨[(0, 0), (1, 1)], [], ?_⟩ ?_
    · rfl
    · rintro ⟨⟨N23, v26⟩, hr22⟩
      obtain ⟨M24, o21, eN25, h, hr22⟩ := loopN_step hr22
      subst eN25
      rw [hp18] at h
      try dsimp only at h ⊢
      cbv
      revert h
      refine st_len hJ hl5 fun v27 ev27 h => ?_
      cbv
      revert h
      refine st_cmp hJ fun b28 eb28 h => ?_
      cbv
      cases b28 with
      | true =>
        replace h := cnd_t h
        cbv
        revert h
        refine st_idx_lp hJ hl5 fun y29 k30 hy31 ho32 h => ?_
        obtain ⟨v33, v34, l35⟩ := y29
        obtain ⟨c36, n37, hl38⟩ := nameL eWrite l35
        try dsimp only at h
        cbv
        refine st_ld hJ eTrans_len hl5 hy31 ho32 0 (fun hJ => by subst hJ; rfl) ([.int .i64 v33, .int .i64 v34, .lst c36 n37]) (Nat.le_of_ble_eq_true rfl) (by rw [hl38.cs, hl38.n]; rfl) (.int (.int (.slc .nil))) rfl ?_
        cbv
        revert h
        refine st_idx_lp hJ hl10 fun y39 k40 hy41 ho42 h => ?_
        obtain ⟨v43, v44, l45⟩ := y39
        obtain ⟨c46, n47, hl48⟩ := nameL eWrite l45
        try dsimp only at h
        cbv
        refine st_ld hJ eTrans_len hl10 hy41 ho42 0 (fun hJ => by subst hJ; rfl) ([.int .i64 v43, .int .i64 v44, .lst c46 n47]) (Nat.le_of_ble_eq_true rfl) (by rw [hl48.cs, hl48.n]; rfl) (.int (.int (.slc .nil))) rfl ?_
        cbv
        obtain ⟨b51, h50, h⟩ := bnd h
        refine call_by hP (s13 hl38 hl48 h50) hJ rfl rfl ?_
        cbv
        revert h
        refine st_not hJ fun b52 eb52 h => ?_
        cbv
        refine ⟨fun _ => by kernel_rfl, ?_⟩
        cbv
        cases b52 with
        | true =>
          replace h := cnd_t h
          cbv
          cases h
          have h := hq20
          obtain rfl := hr22
          try dsimp only at h
          cases h
          exact ⟨_, .refl _, [], _, _, [], _, rfl, rfl, rfl, rfl, rfl, rfl⟩
        | false =>
          replace h := cnd_f h
          cbv
          revert h
          refine st_bin hJ fun v53 ev53 h => ?_
          cbv
          cases h
          exact ⟨⟨(M24, v53), hr22⟩, [(0, 0), (1, 1)], 2, [], rfl, Nat.lt_succ_self _⟩
      | false =>
        replace h := cnd_f h
        cbv
        cases h
        have h := hq20
        obtain rfl := hr22
        try dsimp only at h
        cases h
        exact ⟨_, .refl _, [], _, _, [], _, rfl, rfl, rfl, rfl, rfl, rfl⟩
theorem s23 {v1 : Int} {l2 : List TTrans} {c3 : List D} {n4 : Nat} {v6 : Int} (hl5 : IsL eTrans c3 n4 l2) {v7 : Int} {l8 : List TTrans} {c9 : List D} {n10 : Nat} (hl11 : IsL eTrans c9 n10 l8) (h : m_ref18_Drop (TLedger.mk v1 l2) v6 = some (TLedger.mk v7 l8)) : Spec Try.prog 23 [.agg [.d (.int .i64 v1), .d (.lst c3 n4)], .d (.int .i64 v6)] ⟨.agg [.d (.int .i64 v7), .own 0 n10 3], [(0, .row c9 3 24)], 1, True⟩ := by
  refine spec_b [] Try.func23 rfl rfl rfl fun J P hJ hP => ?_
  dsimp only [m_ref18_Drop] at h
  cbv
  obtain ⟨⟨v15, l16⟩, h14, h⟩ := bnd h
  obtain ⟨c17, n18, hl19⟩ := nameL eTrans l16
  try dsimp only at h
  refine call_by hP (Spec.nils (s34 hl5 IsL.nil' hl19 h14) (.cons _ (.cons _ (.agg (.cons _ (.cons _ (.nil (.refl _)))) (.cons _ (.refl _)))))) hJ rfl rfl ?_
  cbv
  cases h
  obtain ⟨rfl, rfl⟩ := IsL.uniq hl11 hl19
  exact ⟨_, .refl _, [], _, _, [(7, 0)], _, rfl, rfl, rfl, rfl, rfl, rfl⟩
theorem s25 {v1 : Int} {l2 : List TTrans} {c3 : List D} {n4 : Nat} {v6 : Int} {v7 : Int} {l8 : List TWrite} {c9 : List D} {n10 : Nat} (hl5 : IsL eTrans c3 n4 l2) (hl11 : IsL eWrite c9 n10 l8) {v12 : Int} {l13 : List TTrans} {c14 : List D} {n15 : Nat} (hl16 : IsL eTrans c14 n15 l13) (h : m_ref18_Set (TLedger.mk v1 l2) (TTrans.mk v6 v7 l8) = some (TLedger.mk v12 l13)) : Spec Try.prog 25 [.agg [.d (.int .i64 v1), .d (.lst c3 n4)], .agg [.d (.int .i64 v6), .d (.int .i64 v7), .d (.lst c9 n10)]] ⟨.agg [.d (.int .i64 v12), .own 0 n15 3], [(0, .row c14 3 24)], 1, True⟩ := by
  refine spec_b [] Try.func25 rfl rfl rfl fun J P hJ hP => ?_
  dsimp only [m_ref18_Set] at h
  cbv
  obtain ⟨⟨v20, l21⟩, h19, h⟩ := bnd h
  obtain ⟨c22, n23, hl24⟩ := nameL eTrans l21
  try dsimp only at h
  refine call_by hP (s34 hl5 hl11 hl24 h19) hJ rfl rfl ?_
  cbv
  cases h
  obtain ⟨rfl, rfl⟩ := IsL.uniq hl16 hl24
  exact ⟨_, .refl _, [], _, _, [(10, 0)], _, rfl, rfl, rfl, rfl, rfl, rfl⟩
end Go.AX
