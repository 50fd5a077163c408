/- What functions of the program compute: each is what its Lean function says. -/
import Derived.Test.YtegcfbmleimcfaaTM
namespace Go.AX
open Go.Proofs
set_option autoImplicit false
set_option linter.unusedVariables false
set_option maxRecDepth 100000
set_option maxHeartbeats 100000000
set_option linter.unusedSimpArgs false

theorem s13 {v1 : Int} {v2 : Int} {l3 : List TWrite} {c4 : List D} {n5 : Nat} {v7 : Int} {v8 : Int} {l9 : List TWrite} {c10 : List D} {n11 : Nat} (hl6 : IsL eWrite c4 n5 l3) (hl12 : IsL eWrite c10 n11 l9) {b13 : Bool}  (h : m_ref18_Same (TTrans.mk v1 v2 l3) (TTrans.mk v7 v8 l9) = some b13) : Spec Try.prog 13 [.agg [.d (.int .i64 v1), .d (.int .i64 v2), .d (.lst c4 n5)], .agg [.d (.int .i64 v7), .d (.int .i64 v8), .d (.lst c10 n11)]] ⟨.d (.bool b13), [], 0, True⟩ := by
  refine spec_b [6] Try.func13 rfl rfl rfl fun J P hJ hP => ?_
  dsimp only [m_ref18_Same] at h
  cbv
  obtain ⟨j16, hj17, h⟩ := jn h
  refine JoinP.mk ({x : Unit // j16 () = some b13}) (fun x => ⟨[(2, .ptr 0 0), (3, .ptr 1 0)], [(0, .box [.d (.int .i64 v1), .d (.int .i64 v2), .d (.lst c4 n5)]), (1, .box [.d (.int .i64 v7), .d (.int .i64 v8), .d (.lst c10 n11)])], 2, 45⟩) (fun _ => True) [2, 3] ?_ ?_
  · cbv
    revert h
    refine st_cmp hJ fun b18 eb18 h => ?_
    cbv
    cases b18 with
    | true =>
      replace h := cnd_t h
      cbv
      cases h
      exact ⟨_, .refl _, [], _, _, [], _, rfl, rfl, rfl, rfl, rfl, rfl⟩
    | false =>
      replace h := cnd_f h
      cbv
      revert h
      refine st_cmp hJ fun b19 eb19 h => ?_
      cbv
      cases b19 with
      | true =>
        replace h := cnd_t h
        cbv
        cases h
        exact ⟨_, .refl _, [], _, _, [], _, rfl, rfl, rfl, rfl, rfl, rfl⟩
      | false =>
        replace h := cnd_f h
        cbv
        revert h
        refine st_len hJ hl6 fun v20 ev20 h => ?_
        cbv
        revert h
        refine st_len hJ hl12 fun v21 ev21 h => ?_
        cbv
        revert h
        refine st_cmp hJ fun b22 eb22 h => ?_
        cbv
        cases b22 with
        | true =>
          replace h := cnd_t h
          cbv
          cases h
          exact ⟨_, .refl _, [], _, _, [], _, rfl, rfl, rfl, rfl, rfl, rfl⟩
        | false =>
          replace h := cnd_f h
          cbv
          exact ⟨⟨(), h⟩, [(0, 0), (2, 1)], 2, [], rfl, trivial⟩
  · rintro ⟨_, h⟩ -
    rw [hj17] at h
    try dsimp only at h ⊢
    cbv
    obtain ⟨p19, q18, hp20, hf21, hq22⟩ := bnd_loop h
    clear h
    refine LoopB.mk ({x : Nat × Int // loopN p19 x.1 (x.2) = some q18}) (fun x => ⟨[(2, .ptr 0 0), (3, .ptr 1 0), (5, .d (.int .i64 x.1.2))], [(0, .box [.d (.int .i64 v1), .d (.int .i64 v2), .d (.lst c4 n5)]), (1, .box [.d (.int .i64 v7), .d (.int .i64 v8), .d (.lst c10 n11)])], 2, 45⟩) (fun x => x.1.1) [2, 3, 5] 2 ⟨(FUEL, 0), hf21⟩ ⟨[(0, 0), (1, 1)], [], ?_⟩ ?_
    · rfl
    · rintro ⟨⟨N25, v28⟩, hr24⟩
      obtain ⟨M26, o23, eN27, h, hr24⟩ := loopN_step hr24
      subst eN27
      rw [hp20] at h
      try dsimp only at h ⊢
      cbv
      revert h
      refine st_len hJ hl6 fun v29 ev29 h => ?_
      cbv
      revert h
      refine st_cmp hJ fun b30 eb30 h => ?_
      cbv
      cases b30 with
      | true =>
        replace h := cnd_t h
        cbv
        revert h
        refine st_idx_lp hJ hl6 fun y31 k32 hy33 ho34 h => ?_
        obtain ⟨v35, b36, a37⟩ := y31
        obtain ⟨d38, ha39⟩ := nameA .u8 a37
        try dsimp only at h
        cbv
        refine st_ldW hJ eWrite_len hl6 hy33 ho34 (fun hJ => by subst hJ; rfl) ([.int .i64 v35, .bool b36] ++ (d38 ++ [])) (by rw [(show d38 = encL (eI .u8) a37.l from ha39)]; first | done | rfl | simp [eWrite, encL_len (k := 1) (eI_len _), Ar.h]) (.int (.bool (.big ⟨by rw [(show d38 = encL (eI .u8) a37.l from ha39)]; exact eA_len _ _, by decide⟩ .nil))) rfl ?_
        cbv
        revert h
        refine st_idx_lp hJ hl12 fun y40 k41 hy42 ho43 h => ?_
        obtain ⟨v44, b45, a46⟩ := y40
        obtain ⟨d47, ha48⟩ := nameA .u8 a46
        try dsimp only at h
        cbv
        refine st_ldW hJ eWrite_len hl12 hy42 ho43 (fun hJ => by subst hJ; rfl) ([.int .i64 v44, .bool b45] ++ (d47 ++ [])) (by rw [(show d47 = encL (eI .u8) a46.l from ha48)]; first | done | rfl | simp [eWrite, encL_len (k := 1) (eI_len _), Ar.h]) (.int (.bool (.big ⟨by rw [(show d47 = encL (eI .u8) a46.l from ha48)]; exact eA_len _ _, by decide⟩ .nil))) rfl ?_
        cbv
        revert h
        refine st_eqL hJ (neg := true) (e := !((v35 == v44) && ((b36 == b45) && ((a37.l == a46.l) && true)))) (show eqLs [.int .i64, .bool, .big 32 .u8] [.d (.int .i64 v35), .d (.bool b36), .big 32 d38] [.d (.int .i64 v44), .d (.bool b45), .big 32 d47] _ from ⟨rfl, rfl, _, ⟨_, ⟨rfl, rfl, _, _, _, (ha39).trans (encI_map _ _), (ha48).trans (encI_map _ _), Ar.h _, Ar.h _, rfl, rfl⟩, rfl⟩, rfl⟩) rfl fun b49 eb49 h => ?_
        cbv
        refine ⟨fun _ => by kernel_rfl, ?_⟩
        cbv
        cases b49 with
        | true =>
          replace h := cnd_t h
          cbv
          cases h
          have h := hq22
          obtain rfl := hr24
          try dsimp only at h
          cases h
          exact ⟨_, .refl _, [], _, _, [], _, rfl, rfl, rfl, rfl, rfl, rfl⟩
        | false =>
          replace h := cnd_f h
          cbv
          revert h
          refine st_bin hJ fun v50 ev50 h => ?_
          cbv
          cases h
          exact ⟨⟨(M26, v50), hr24⟩, [(0, 0), (1, 1)], 2, [], rfl, Nat.lt_succ_self _⟩
      | false =>
        replace h := cnd_f h
        cbv
        cases h
        have h := hq22
        obtain rfl := hr24
        try dsimp only at h
        cases h
        exact ⟨_, .refl _, [], _, _, [], _, rfl, rfl, rfl, rfl, rfl, rfl⟩
theorem s21 {v1 : Int} {l2 : List TTrans} {c3 : List D} {n4 : Nat} {v6 : Int} (hl5 : IsL eTrans c3 n4 l2) {v7 : Int} {v8 : Int} {l9 : List TWrite} {c10 : List D} {n11 : Nat} {b13 : Bool} (hl12 : IsL eWrite c10 n11 l9) (h : m_ref18_Get (TLedger.mk v1 l2) v6 = some ((TTrans.mk v7 v8 l9), b13)) : Spec Try.prog 21 [.agg [.d (.int .i64 v1), .d (.lst c3 n4)], .d (.int .i64 v6)] ⟨.tup [.agg [.d (.int .i64 v7), .d (.int .i64 v8), .d (.lst c10 n11)], .d (.bool b13)], [], 0, True⟩ := by
  refine spec_b [] Try.func21 rfl rfl rfl fun J P hJ hP => ?_
  dsimp only [m_ref18_Get] at h
  cbv
  obtain ⟨p16, q15, hp17, hf18, hq19⟩ := bnd_loop h
  clear h
  refine LoopB.mk ({x : Nat × Int // loopN p16 x.1 (x.2) = some q15}) (fun x => ⟨[(1, .d (.int .i64 v6)), (2, .ptr 0 0), (4, .ptr 1 0), (6, .d (.int .i64 x.1.2))], [(0, .box [.d (.int .i64 v1), .d (.lst c3 n4)]), (1, .box [.d (.int .i64 0), .d (.int .i64 0), .d .nils])], 2, 28⟩) (fun x => x.1.1) [1, 2, 4, 6] 2 ⟨(FUEL, 0), hf18⟩ ⟨[(0, 0), (2, 1)], [], ?_⟩ ?_
  · rfl
  · rintro ⟨⟨N22, v25⟩, hr21⟩
    obtain ⟨M23, o20, eN24, h, hr21⟩ := loopN_step hr21
    subst eN24
    rw [hp17] at h
    try dsimp only at h ⊢
    cbv
    revert h
    refine st_len hJ hl5 fun v26 ev26 h => ?_
    cbv
    revert h
    refine st_cmp hJ fun b27 eb27 h => ?_
    cbv
    cases b27 with
    | true =>
      replace h := cnd_t h
      cbv
      revert h
      refine st_idx_lp hJ hl5 fun y28 k29 hy30 ho31 h => ?_
      obtain ⟨v32, v33, l34⟩ := y28
      obtain ⟨c35, n36, hl37⟩ := nameL eWrite l34
      try dsimp only at h
      cbv
      refine st_ld hJ eTrans_len hl5 hy30 ho31 0 (fun hJ => by subst hJ; rfl) ([.int .i64 v32]) (Nat.le_of_ble_eq_true rfl) rfl (.int .nil) rfl ?_
      cbv
      revert h
      refine st_cmp hJ fun b38 eb38 h => ?_
      cbv
      cases b38 with
      | true =>
        replace h := cnd_t h
        cbv
        revert h
        refine st_idx_lp hJ hl5 fun y39 k40 hy41 ho42 h => ?_
        obtain ⟨v43, v44, l45⟩ := y39
        obtain ⟨c46, n47, hl48⟩ := nameL eWrite l45
        try dsimp only at h
        cbv
        refine st_ld hJ eTrans_len hl5 hy41 ho42 0 (fun hJ => by subst hJ; rfl) ([.int .i64 v43, .int .i64 v44, .lst c46 n47]) (Nat.le_of_ble_eq_true rfl) (by rw [hl48.cs, hl48.n]; rfl) (.int (.int (.slc .nil))) rfl ?_
        cbv
        cases h
        have h := hq19
        obtain rfl := hr21
        try dsimp only at h
        cases h
        obtain ⟨rfl, rfl⟩ := IsL.uniq hl12 hl48
        exact ⟨_, .refl _, [], _, _, [], _, rfl, rfl, rfl, rfl, rfl, rfl⟩
      | false =>
        replace h := cnd_f h
        cbv
        revert h
        refine st_bin hJ fun v39 ev39 h => ?_
        cbv
        cases h
        exact ⟨⟨(M23, v39), hr21⟩, [(0, 0), (1, 1)], 2, [], rfl, Nat.lt_succ_self _⟩
    | false =>
      replace h := cnd_f h
      cbv
      cases h
      have h := hq19
      obtain rfl := hr21
      try dsimp only at h
      cases h
      obtain ⟨rfl, rfl⟩ := IsL.nil hl12
      exact ⟨_, .refl _, [.nlC 1 2], _, _, [], _, rfl, rfl, rfl, rfl, rfl, rfl⟩
end Go.AX
