/- What functions of the program compute: each is what its Lean function says. -/
import Derived.Test.YtegcfbmleimcfaaTS9
namespace Go.AX
open Go.Proofs
set_option autoImplicit false
set_option linter.unusedVariables false
set_option maxRecDepth 100000
set_option maxHeartbeats 100000000
set_option linter.unusedSimpArgs false

theorem s35 {l1 : List TWrite} {c2 : List D} {n3 : Nat} {v5 : Int} (hl4 : IsL eWrite c2 n3 l1) {v6 : Int} {b7 : Bool}  (h : m_slices_BinarySearchFunc_ l1 v5 = some (v6, b7)) : Spec Try.prog 35 [.d (.lst c2 n3), .d (.int .i64 v5), .fn 36 []] ⟨.tup [.d (.int .i64 v6), .d (.bool b7)], [], 0, True⟩ := by
  refine spec_b [] Try.func35 rfl rfl rfl fun J P hJ hP => ?_
  dsimp only [m_slices_BinarySearchFunc_] at h
  cbv
  revert h
  refine st_len hJ hl4 fun v9 ev9 h => ?_
  cbv
  obtain ⟨p11, q10, hp12, hf13, hq14⟩ := bnd_loop h
  clear h
  refine LoopB.mk ({x : Nat × Int × Int // loopN p11 x.1 (x.2.1, x.2.2) = some q10}) (fun x => ⟨[(0, .d (.lst c2 n3)), (1, .d (.int .i64 v5)), (2, .fn 36 []), (8, .d (.int .i64 v9)), (9, .d (.int .i64 x.1.2.1)), (10, .d (.int .i64 x.1.2.2))], [], 0, 49⟩) (fun x => x.1.1) [0, 1, 2, 8, 9, 10] 0 ⟨(FUEL, 0, v9), hf13⟩ ⟨[], [], ?_⟩ ?_
  · rfl
  · rintro ⟨⟨N17, v20, v21⟩, hr16⟩
    obtain ⟨M18, o15, eN19, h, hr16⟩ := loopN_step hr16
    subst eN19
    rw [hp12] at h
    try dsimp only at h ⊢
    cbv
    revert h
    refine st_cmp hJ fun b22 eb22 h => ?_
    cbv
    cases b22 with
    | true =>
      replace h := cnd_t h
      cbv
      revert h
      refine st_bin hJ fun v23 ev23 h => ?_
      cbv
      revert h
      refine st_conv hJ fun v24 ev24 h => ?_
      cbv
      revert h
      refine st_sh hJ fun v25 ev25 h => ?_
      cbv
      revert h
      refine st_conv hJ fun v26 ev26 h => ?_
      cbv
      revert h
      refine st_idx_lp hJ hl4 fun y27 k28 hy29 ho30 h => ?_
      obtain ⟨v31, b32, a33⟩ := y27
      obtain ⟨d34, ha35⟩ := nameA .u8 a33
      try dsimp only at h
      cbv
      refine st_ldW hJ eWrite_len hl4 hy29 ho30 (fun hJ => by subst hJ; rfl) ([.int .i64 v31, .bool b32] ++ (d34 ++ [])) (by rw [(show d34 = encL (eI .u8) a33.l from ha35)]; first | done | rfl | simp [eWrite, encL_len (k := 1) (eI_len _), Ar.h]) (.int (.bool (.big ⟨by rw [(show d34 = encL (eI .u8) a33.l from ha35)]; exact eA_len _ _, by decide⟩ .nil))) rfl ?_
      cbv
      obtain ⟨v38, h37, h⟩ := bnd h
      refine call_by hP (s36 ha35 h37) hJ rfl rfl ?_
      cbv
      revert h
      refine st_cmp hJ fun b39 eb39 h => ?_
      cbv
      cases b39 with
      | true =>
        replace h := cnd_t h
        cbv
        revert h
        refine st_bin hJ fun v40 ev40 h => ?_
        cbv
        cases h
        exact ⟨⟨(M18, v40, v21), hr16⟩, [], 0, [], rfl, Nat.lt_succ_self _⟩
      | false =>
        replace h := cnd_f h
        cbv
        cases h
        exact ⟨⟨(M18, v20, v26), hr16⟩, [], 0, [], rfl, Nat.lt_succ_self _⟩
    | false =>
      replace h := cnd_f h
      cbv
      cases h
      have h := hq14
      obtain rfl := hr16
      try dsimp only at h
      revert h
      refine st_cmp hJ fun b23 eb23 h => ?_
      cbv
      cases b23 with
      | true =>
        replace h := cnd_t h
        cbv
        revert h
        refine st_idx_lp hJ hl4 fun y24 k25 hy26 ho27 h => ?_
        obtain ⟨v28, b29, a30⟩ := y24
        obtain ⟨d31, ha32⟩ := nameA .u8 a30
        try dsimp only at h
        cbv
        refine st_ldW hJ eWrite_len hl4 hy26 ho27 (fun hJ => by subst hJ; rfl) ([.int .i64 v28, .bool b29] ++ (d31 ++ [])) (by rw [(show d31 = encL (eI .u8) a30.l from ha32)]; first | done | rfl | simp [eWrite, encL_len (k := 1) (eI_len _), Ar.h]) (.int (.bool (.big ⟨by rw [(show d31 = encL (eI .u8) a30.l from ha32)]; exact eA_len _ _, by decide⟩ .nil))) rfl ?_
        cbv
        obtain ⟨v35, h34, h⟩ := bnd h
        refine call_by hP (s36 ha32 h34) hJ rfl rfl ?_
        cbv
        revert h
        refine st_cmp hJ fun b36 eb36 h => ?_
        cbv
        cases h
        exact ⟨_, .refl _, [], _, _, [], _, rfl, rfl, rfl, rfl, rfl, rfl⟩
      | false =>
        replace h := cnd_f h
        cbv
        cases h
        exact ⟨_, .refl _, [], _, _, [], _, rfl, rfl, rfl, rfl, rfl, rfl⟩
end Go.AX
