/- What functions of the program compute: each is what its Lean function says. -/
import Derived.Test.YtegcfbmleimcfaaTK
import Derived.Test.YtegcfbmleimcfaaTS12
import Derived.Test.YtegcfbmleimcfaaTS6
namespace Go.AX
open Go.Proofs
set_option autoImplicit false
set_option linter.unusedVariables false
set_option maxRecDepth 100000
set_option maxHeartbeats 100000000
set_option linter.unusedSimpArgs false

theorem s20 {v1 : Int} {l2 : List TTrans} {c3 : List D} {n4 : Nat} {v6 : Int} (hl5 : IsL eTrans c3 n4 l2) {v7 : Int} {v8 : Int} {l9 : List TWrite} {c10 : List D} {n11 : Nat} {v13 : Int} (hl12 : IsL eWrite c10 n11 l9) (h : m_trans_Get (TLedger.mk v1 l2) v6 = some ((TTrans.mk v7 v8 l9), v13)) : Spec Try.prog 20 [.agg [.d (.int .i64 v1), .d (.lst c3 n4)], .d (.int .i64 v6)] ⟨.tup [.agg [.d (.int .i64 v7), .d (.int .i64 v8), .own 0 n11 34], .d (.int .i64 v13)], [(0, .row c10 34 28)], 1, True⟩ := by
  refine spec_b [] Try.func20 rfl rfl rfl fun J P hJ hP => ?_
  dsimp only [m_trans_Get] at h
  cbv
  obtain ⟨⟨v17, b18⟩, h16, h⟩ := bnd h
  try dsimp only at h
  refine call_by hP (s32 hl5 h16) hJ rfl rfl ?_
  cbv
  revert h
  refine st_not hJ fun b19 eb19 h => ?_
  cbv
  cases b19 with
  | true =>
    replace h := cnd_t h
    cbv
    cases h
    obtain ⟨rfl, rfl⟩ := IsL.nil hl12
    exact ⟨_, .refl _, [.cell 2 2 1000000 34 28], _, _, [(1000000, 0)], _, rfl, rfl, rfl, rfl, rfl, rfl⟩
  | false =>
    replace h := cnd_f h
    cbv
    revert h
    refine st_idx_lp hJ hl5 fun y20 k21 hy22 ho23 h => ?_
    obtain ⟨v24, v25, l26⟩ := y20
    obtain ⟨c27, n28, hl29⟩ := nameL eWrite l26
    try dsimp only at h
    cbv
    refine st_ld hJ eTrans_len hl5 hy22 ho23 0 (fun hJ => by subst hJ; rfl) ([.int .i64 v24, .int .i64 v25, .lst c27 n28]) (Nat.le_of_ble_eq_true rfl) (by rw [hl29.cs, hl29.n]; rfl) (.int (.int (.slc .nil))) rfl ?_
    cbv
    obtain ⟨⟨v32, v33, l34⟩, h31, h⟩ := bnd h
    obtain ⟨c35, n36, hl37⟩ := nameL eWrite l34
    try dsimp only at h
    refine call_by hP (s29 hl29 hl37 h31) hJ rfl rfl ?_
    cbv
    cases h
    obtain ⟨rfl, rfl⟩ := IsL.uniq hl12 hl37
    exact ⟨_, .refl _, [], _, _, [(20, 0)], _, rfl, rfl, rfl, rfl, rfl, rfl⟩
theorem s14 {v1 : Int} {v2 : Int} {l3 : List TWrite} {c4 : List D} {n5 : Nat} {v7 : Int} {b8 : Bool} {a9 : Ar 32} {d10 : List D} (hl6 : IsL eWrite c4 n5 l3) (ha11 : d10 = encL (eI .u8) a9.l) {v12 : Int} {v13 : Int} {l14 : List TWrite} {c15 : List D} {n16 : Nat} (hl17 : IsL eWrite c15 n16 l14) (h : m_trans_Put (TTrans.mk v1 v2 l3) (TWrite.mk v7 b8 a9) = some (TTrans.mk v12 v13 l14)) : Spec Try.prog 14 [.agg [.d (.int .i64 v1), .d (.int .i64 v2), .d (.lst c4 n5)], .agg [.d (.int .i64 v7), .d (.bool b8), .big 32 d10]] ⟨.agg [.d (.int .i64 v12), .d (.int .i64 v13), .own 0 n16 34], [(0, .row c15 34 28)], 1, True⟩ := by
  refine spec_b [6] Try.func14 rfl rfl rfl fun J P hJ hP => ?_
  dsimp only [m_trans_Put] at h
  cbv
  obtain ⟨j20, hj21, h⟩ := jn h
  refine JoinP.mk ({x : Bool × (Ar 32) × (List D) // x.2.2 = encL (eI .u8) x.2.1.l ∧ j20 (x.1, x.2.1) = some (TTrans.mk v12 v13 l14)}) (fun x => ⟨[(2, .ptr 0 0), (3, .ptr 1 0), (4, .ptr 2 0)], [(0, .box [.d (.int .i64 v1), .d (.int .i64 v2), .d (.lst c4 n5)]), (1, .box [.d (.int .i64 v7), .d (.bool x.1.1), .big 32 x.1.2.2]), (2, .box [.d (.int .i64 0), .d (.int .i64 0), .d .nils])], 3, 35⟩) (fun _ => True) [2, 3, 4] ?_ ?_
  · cbv
    cases b8 with
    | true =>
      replace h := cnd_t h
      cbv
      exact ⟨⟨(true, (Ar.zero 32), (J .rep 32 (.int .u8 0))), (rep_z hJ 32 .u8), h⟩, [(0, 0), (2, 1), (4, 2)], 3, [], rfl, trivial⟩
    | false =>
      replace h := cnd_f h
      cbv
      exact ⟨⟨(false, a9, d10), ha11, h⟩, [(0, 0), (2, 1), (4, 2)], 3, [], rfl, trivial⟩
  · rintro ⟨⟨b22, a23, d24⟩, ha25, h⟩ -
    rw [hj21] at h
    try dsimp only at h ⊢
    cbv
    obtain ⟨⟨v28, v29, l30⟩, h27, h⟩ := bnd h
    obtain ⟨c31, n32, hl33⟩ := nameL eWrite l30
    try dsimp only at h
    refine call_by hP (s29 hl6 hl33 h27) hJ rfl rfl ?_
    cbv
    obtain ⟨⟨v36, b37⟩, h35, h⟩ := bnd h
    try dsimp only at h
    refine snap_by hP (s28 hl33 h35) hJ (by cbv) rfl ⟨⟨trivial, ⟨trivial, trivial⟩⟩, trivial⟩ ?_
    cbv
    cases b37 with
    | true =>
      replace h := cnd_t h
      cbv
      revert h
      refine st_idx_pr hJ hl33 fun y38 k39 hy40 ho41 h => ?_
      obtain ⟨v42, b43, a44⟩ := y38
      obtain ⟨d45, ha46⟩ := nameA .u8 a44
      try dsimp only at h
      cbv
      revert h
      refine st_st hJ eWrite_len hl33 hy40 ho41 0 (fun hJ => by subst hJ; rfl) (by rw [(show d24 = encL (eI .u8) a23.l from ha25)]; subst hJ; simp [stdJ, std, encL_len (k := 1) (eI_len _), Ar.h]) (Nat.le_of_ble_eq_true rfl) (TWrite.mk v7 b22 a23) (setAll_full (by rw [(show d24 = encL (eI .u8) a23.l from ha25)]; subst hJ; simp [stdJ, std, eWrite, encL_len (k := 1) (eI_len _), Ar.h]) (by rw [(show d24 = encL (eI .u8) a23.l from ha25)]; subst hJ; simp [stdJ, std, eWrite])) fun c48 l47 hl49 h => ?_
      cbv
      cases h
      obtain ⟨rfl, rfl⟩ := IsL.uniq hl17 hl49
      exact ⟨_, .refl _, [], _, _, [(4, 0)], _, rfl, rfl, rfl, rfl, rfl, rfl⟩
    | false =>
      replace h := cnd_f h
      cbv
      have hl38 : IsL eWrite ((D.int .i64 v7) :: ((D.bool b22) :: (J .app d24 []))) 1 [(TWrite.mk v7 b22 a23)] := ⟨by rw [(show d24 = encL (eI .u8) a23.l from ha25)]; subst hJ; simp [stdJ, std, encL, eWrite, eI], rfl⟩
      refine st_any hJ rfl rfl (by subst hJ; exact (by decide : 34 ≤ 16777216)) ?_
      cbv
      obtain ⟨l39, hx43, h⟩ := bnd h
      obtain ⟨c40, n41, hl42⟩ := nameL eWrite l39
      refine callM_by hP (ins30 hl33 hl38 hl42 hx43) [(4, 0), (23, 1)] false hJ rfl rfl rfl rfl rfl (.inl rfl) ?_
      cbv
      cases h
      obtain ⟨rfl, rfl⟩ := IsL.uniq hl17 hl42
      exact ⟨_, .refl _, [], _, _, [(25, 0)], _, rfl, rfl, rfl, rfl, rfl, rfl⟩
theorem s11 {v1 : Int} {v2 : Int} {l3 : List TWrite} {c4 : List D} {n5 : Nat} {v7 : Int} (hl6 : IsL eWrite c4 n5 l3) {v8 : Int} {b9 : Bool} {a10 : Ar 32} {d11 : List D} {b13 : Bool} (ha12 : d11 = encL (eI .u8) a10.l) (h : m_trans_Find (TTrans.mk v1 v2 l3) v7 = some ((TWrite.mk v8 b9 a10), b13)) : Spec Try.prog 11 [.agg [.d (.int .i64 v1), .d (.int .i64 v2), .d (.lst c4 n5)], .d (.int .i64 v7)] ⟨.tup [.agg [.d (.int .i64 v8), .d (.bool b9), .big 32 d11], .d (.bool b13)], [], 0, True⟩ := by
  refine spec_b [] Try.func11 rfl rfl rfl fun J P hJ hP => ?_
  dsimp only [m_trans_Find] at h
  cbv
  obtain ⟨⟨v17, b18⟩, h16, h⟩ := bnd h
  try dsimp only at h
  refine call_by hP (s28 hl6 h16) hJ rfl rfl ?_
  cbv
  revert h
  refine st_not hJ fun b19 eb19 h => ?_
  cbv
  cases b19 with
  | true =>
    replace h := cnd_t h
    cbv
    cases h
    obtain rfl := ha12.trans ((rep_z hJ 32 .u8)).symm
    exact ⟨_, .refl _, [], _, _, [], _, rfl, rfl, rfl, rfl, rfl, rfl⟩
  | false =>
    replace h := cnd_f h
    cbv
    revert h
    refine st_idx_lp hJ hl6 fun y20 k21 hy22 ho23 h => ?_
    obtain ⟨v24, b25, a26⟩ := y20
    obtain ⟨d27, ha28⟩ := nameA .u8 a26
    try dsimp only at h
    cbv
    refine st_ldW hJ eWrite_len hl6 hy22 ho23 (fun hJ => by subst hJ; rfl) ([.int .i64 v24, .bool b25] ++ (d27 ++ [])) (by rw [(show d27 = encL (eI .u8) a26.l from ha28)]; first | done | rfl | simp [eWrite, encL_len (k := 1) (eI_len _), Ar.h]) (.int (.bool (.big ⟨by rw [(show d27 = encL (eI .u8) a26.l from ha28)]; exact eA_len _ _, by decide⟩ .nil))) rfl ?_
    cbv
    cases h
    obtain rfl := ha12.trans (ha28).symm
    exact ⟨_, .refl _, [], _, _, [], _, rfl, rfl, rfl, rfl, rfl, rfl⟩
end Go.AX
