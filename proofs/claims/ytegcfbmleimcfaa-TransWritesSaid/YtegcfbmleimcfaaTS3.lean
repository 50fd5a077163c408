/- What functions of the program compute: each is what its Lean function says. -/
import Derived.Test.YtegcfbmleimcfaaTM
namespace Go.AX
open Go.Proofs
set_option autoImplicit false
set_option linter.unusedVariables false
set_option maxRecDepth 100000
set_option maxHeartbeats 100000000
set_option linter.unusedSimpArgs false

theorem s15 {v1 : Int} {v2 : Int} {l3 : List TWrite} {c4 : List D} {n5 : Nat} {v7 : Int} {b8 : Bool} {a9 : Ar 32} {d10 : List D} (hl6 : IsL eWrite c4 n5 l3) (ha11 : d10 = encL (eI .u8) a9.l) {v12 : Int} {v13 : Int} {l14 : List TWrite} {c15 : List D} {n16 : Nat} (hl17 : IsL eWrite c15 n16 l14) (h : m_ref18_Put (TTrans.mk v1 v2 l3) (TWrite.mk v7 b8 a9) = some (TTrans.mk v12 v13 l14)) : Spec Try.prog 15 [.agg [.d (.int .i64 v1), .d (.int .i64 v2), .d (.lst c4 n5)], .agg [.d (.int .i64 v7), .d (.bool b8), .big 32 d10]] ⟨.agg [.d (.int .i64 v12), .d (.int .i64 v13), .own 0 n16 34], [(0, .row c15 34 28)], 1, True⟩ := by
  refine spec_b [6, 22, 18] Try.func15 rfl rfl rfl fun J P hJ hP => ?_
  dsimp only [m_ref18_Put] at h
  cbv
  obtain ⟨j20, hj21, h⟩ := jn h
  refine JoinP.mk ({x : Bool × (Ar 32) × (List D) // x.2.2 = encL (eI .u8) x.2.1.l ∧ j20 (x.1, x.2.1) = some (TTrans.mk v12 v13 l14)}) (fun x => ⟨[(2, .ptr 0 0), (3, .ptr 1 0), (4, .ptr 2 0)], [(0, .box [.d (.int .i64 v1), .d (.int .i64 v2), .d (.lst c4 n5)]), (1, .box [.d (.int .i64 v7), .d (.bool x.1.1), .big 32 x.1.2.2]), (2, .box [.d (.int .i64 0), .d (.int .i64 0), .d .nils])], 3, 72⟩) (fun _ => True) [2, 3, 4] ?_ ?_
  · cbv
    cases b8 with
    | true =>
      replace h := cnd_t h
      cbv
      exact ⟨⟨(true, (Ar.zero 32), (J .rep 32 (.int .u8 0))), (rep_z hJ 32 .u8), h⟩, [(0, 0), (2, 1), (4, 2)], 3, [], rfl, trivial⟩
    | false =>
      replace h := cnd_f h
      cbv
      exact ⟨⟨(false, a9, d10), ha11, h⟩, [(0, 0), (2, 1), (4, 2)], 3, [], rfl, trivial⟩
  · rintro ⟨⟨b22, a23, d24⟩, ha25, h⟩ -
    rw [hj21] at h
    try dsimp only at h ⊢
    cbv
    obtain ⟨p27, q26, hp28, hf29, hq30⟩ := bnd_loop h
    clear h
    refine LoopB.mk ({x : Nat × Bool × Int × (List TWrite) × (List D) × Nat // IsL eWrite x.2.2.2.2.1 x.2.2.2.2.2 x.2.2.2.1 ∧ loopN p27 x.1 (x.2.1, x.2.2.1, x.2.2.2.1) = some q26}) (fun x => ⟨[(2, .ptr 0 0), (3, .ptr 1 0), (4, .ptr 2 0), (5, .ptr 3 0), (6, .d (.bool x.1.2.1)), (7, .d (.int .i64 x.1.2.2.1))], [(0, .box [.d (.int .i64 v1), .d (.int .i64 v2), .d (.lst c4 n5)]), (1, .box [.d (.int .i64 v7), .d (.bool b22), .big 32 d24]), (2, .box [.d (.int .i64 0), .d (.int .i64 0), .d .nils]), (3, .box [.d (.int .i64 v1), .d (.int .i64 v2), .own 4 x.1.2.2.2.2.2 34]), (4, .row x.1.2.2.2.2.1 34 28)], 5, 72⟩) (fun x => x.1.1) [2, 3, 4, 5, 6, 7] 4 ⟨(FUEL, false, 0, ([] : List TWrite), [], 0), (IsL.nil' (g := eWrite)), hf29⟩ ⟨[(0, 0), (1, 1), (2, 2), (8, 3)], [.cell 3 2 4 34 28], ?_⟩ ?_
    · rfl
    · rintro ⟨⟨N33, b36, v37, l38, c39, n40⟩, hl41, hr32⟩
      obtain ⟨M34, o31, eN35, h, hr32⟩ := loopN_step hr32
      subst eN35
      rw [hp28] at h
      try dsimp only at h ⊢
      cbv
      revert h
      refine st_len hJ hl6 fun v42 ev42 h => ?_
      cbv
      revert h
      refine st_cmp hJ fun b43 eb43 h => ?_
      cbv
      cases b43 with
      | true =>
        replace h := cnd_t h
        cbv
        obtain ⟨j45, hj46, h⟩ := jn h
        refine JoinP.mk ({x : Bool × (List TWrite) × (List D) × Nat // IsL eWrite x.2.2.1 x.2.2.2 x.2.1 ∧ j45 (x.1, x.2.1) = some o31}) (fun x => ⟨[(2, .ptr 0 0), (3, .ptr 1 0), (4, .ptr 2 0), (5, .ptr 3 0), (6, .d (.bool x.1.1)), (7, .d (.int .i64 v37))], [(0, .box [.d (.int .i64 v1), .d (.int .i64 v2), .d (.lst c4 n5)]), (1, .box [.d (.int .i64 v7), .d (.bool b22), .big 32 d24]), (2, .box [.d (.int .i64 0), .d (.int .i64 0), .d .nils]), (3, .box [.d (.int .i64 v1), .d (.int .i64 v2), .own 4 x.1.2.2.2 34]), (4, .row x.1.2.2.1 34 28)], 5, 72⟩) (fun _ => True) [2, 3, 4, 5, 6, 7] ?_ ?_
        · cbv
          obtain ⟨j48, hj49, h⟩ := jn h
          refine JoinP.mk ({x : Bool // j48 (x) = some o31}) (fun x => ⟨[(2, .ptr 0 0), (3, .ptr 1 0), (4, .ptr 2 0), (5, .ptr 3 0), (6, .d (.bool b36)), (7, .d (.int .i64 v37)), (37, .d (.bool x.1))], [(0, .box [.d (.int .i64 v1), .d (.int .i64 v2), .d (.lst c4 n5)]), (1, .box [.d (.int .i64 v7), .d (.bool b22), .big 32 d24]), (2, .box [.d (.int .i64 0), .d (.int .i64 0), .d .nils]), (3, .box [.d (.int .i64 v1), .d (.int .i64 v2), .own 4 n40 34]), (4, .row c39 34 28)], 5, 72⟩) (fun _ => True) [2, 3, 4, 5, 6, 7, 37] ?_ ?_
          · cbv
            revert h
            refine st_not hJ fun b50 eb50 h => ?_
            cbv
            cases b50 with
            | true =>
              replace h := cnd_t h
              cbv
              revert h
              refine st_idx_lp hJ hl6 fun y51 k52 hy53 ho54 h => ?_
              obtain ⟨v55, b56, a57⟩ := y51
              obtain ⟨d58, ha59⟩ := nameA .u8 a57
              try dsimp only at h
              cbv
              refine st_ld hJ eWrite_len hl6 hy53 ho54 0 (fun hJ => by subst hJ; rfl) ([.int .i64 v55]) (by simp [encL_len (k := 1) (eI_len _), Ar.h]) (by first | done | rfl | simp [eWrite, encL_len (k := 1) (eI_len _), Ar.h, takeA]) (.int .nil) rfl ?_
              cbv
              revert h
              refine st_cmp hJ fun b60 eb60 h => ?_
              cbv
              refine ⟨fun _ => by kernel_rfl, ?_⟩
              cbv
              exact ⟨⟨(b60), h⟩, [(0, 0), (1, 1), (2, 2), (3, 3), (4, 4)], 5, [], rfl, trivial⟩
            | false =>
              replace h := cnd_f h
              cbv
              refine ⟨fun _ => by kernel_rfl, ?_⟩
              cbv
              exact ⟨⟨(false), h⟩, [(0, 0), (1, 1), (2, 2), (3, 3), (4, 4)], 5, [], rfl, trivial⟩
          · rintro ⟨b50, h⟩ -
            rw [hj49] at h
            try dsimp only at h ⊢
            cbv
            cases b50 with
            | true =>
              replace h := cnd_t h
              cbv
              have hl51 : IsL eWrite ((D.int .i64 v7) :: ((D.bool b22) :: (J .app d24 []))) 1 [(TWrite.mk v7 b22 a23)] := ⟨by rw [(show d24 = encL (eI .u8) a23.l from ha25)]; subst hJ; simp [stdJ, std, encL, eWrite, eI], rfl⟩
              refine st_any hJ rfl rfl (by subst hJ; exact (by decide : 34 ≤ 16777216)) ?_
              cbv
              revert h
              refine st_app hJ eWrite_len hl41 hl51 fun c53 n54 l52 hl55 h => ?_
              cbv
              exact ⟨⟨(true, l52, c53, n54), hl55, h⟩, [(0, 0), (1, 1), (2, 2), (3, 3), (10, 4)], 5, [], rfl, trivial⟩
            | false =>
              replace h := cnd_f h
              cbv
              exact ⟨⟨(b36, l38, c39, n40), hl41, h⟩, [(0, 0), (1, 1), (2, 2), (3, 3), (4, 4)], 5, [], rfl, trivial⟩
        · rintro ⟨⟨b47, l48, c49, n50⟩, hl51, h⟩ -
          rw [hj46] at h
          try dsimp only at h ⊢
          cbv
          revert h
          refine st_idx_lp hJ hl6 fun y52 k53 hy54 ho55 h => ?_
          obtain ⟨v56, b57, a58⟩ := y52
          obtain ⟨d59, ha60⟩ := nameA .u8 a58
          try dsimp only at h
          cbv
          refine st_ld hJ eWrite_len hl6 hy54 ho55 0 (fun hJ => by subst hJ; rfl) ([.int .i64 v56]) (by simp [encL_len (k := 1) (eI_len _), Ar.h]) (by first | done | rfl | simp [eWrite, encL_len (k := 1) (eI_len _), Ar.h, takeA]) (.int .nil) rfl ?_
          cbv
          revert h
          refine st_cmp hJ fun b61 eb61 h => ?_
          cbv
          refine ⟨fun _ => by kernel_rfl, ?_⟩
          cbv
          cases b61 with
          | true =>
            replace h := cnd_t h
            cbv
            revert h
            refine st_idx_lp hJ hl6 fun y62 k63 hy64 ho65 h => ?_
            obtain ⟨v66, b67, a68⟩ := y62
            obtain ⟨d69, ha70⟩ := nameA .u8 a68
            try dsimp only at h
            cbv
            refine st_ldW hJ eWrite_len hl6 hy64 ho65 (fun hJ => by subst hJ; rfl) ([.int .i64 v66, .bool b67] ++ (d69 ++ [])) (by rw [(show d69 = encL (eI .u8) a68.l from ha70)]; first | done | rfl | simp [eWrite, encL_len (k := 1) (eI_len _), Ar.h]) (.int (.bool (.big ⟨by rw [(show d69 = encL (eI .u8) a68.l from ha70)]; exact eA_len _ _, by decide⟩ .nil))) rfl ?_
            cbv
            have hl71 : IsL eWrite ((D.int .i64 v66) :: ((D.bool b67) :: (J .app d69 []))) 1 [(TWrite.mk v66 b67 a68)] := ⟨by rw [(show d69 = encL (eI .u8) a68.l from ha70)]; subst hJ; simp [stdJ, std, encL, eWrite, eI], rfl⟩
            refine st_any hJ rfl rfl (by subst hJ; exact (by decide : 34 ≤ 16777216)) ?_
            cbv
            revert h
            refine st_app hJ eWrite_len hl51 hl71 fun c73 n74 l72 hl75 h => ?_
            cbv
            refine ⟨fun _ => by kernel_rfl, ?_⟩
            cbv
            revert h
            refine st_bin hJ fun v76 ev76 h => ?_
            cbv
            cases h
            exact ⟨⟨(M34, b47, v76, l72, c73, n74), hl75, hr32⟩, [(0, 0), (1, 1), (2, 2), (3, 3), (23, 4)], 5, [], rfl, Nat.lt_succ_self _⟩
          | false =>
            replace h := cnd_f h
            cbv
            revert h
            refine st_bin hJ fun v62 ev62 h => ?_
            cbv
            cases h
            exact ⟨⟨(M34, b47, v62, l48, c49, n50), hl51, hr32⟩, [(0, 0), (1, 1), (2, 2), (3, 3), (4, 4)], 5, [], rfl, Nat.lt_succ_self _⟩
      | false =>
        replace h := cnd_f h
        cbv
        cases h
        have h := hq30
        obtain rfl := hr32
        try dsimp only at h
        revert h
        refine st_not hJ fun b44 eb44 h => ?_
        cbv
        cases b44 with
        | true =>
          replace h := cnd_t h
          cbv
          have hl45 : IsL eWrite ((D.int .i64 v7) :: ((D.bool b22) :: (J .app d24 []))) 1 [(TWrite.mk v7 b22 a23)] := ⟨by rw [(show d24 = encL (eI .u8) a23.l from ha25)]; subst hJ; simp [stdJ, std, encL, eWrite, eI], rfl⟩
          refine st_any hJ rfl rfl (by subst hJ; exact (by decide : 34 ≤ 16777216)) ?_
          cbv
          revert h
          refine st_app hJ eWrite_len hl41 hl45 fun c47 n48 l46 hl49 h => ?_
          cbv
          cases h
          obtain ⟨rfl, rfl⟩ := IsL.uniq hl17 hl49
          exact ⟨_, .refl _, [], _, _, [(17, 0)], _, rfl, rfl, rfl, rfl, rfl, rfl⟩
        | false =>
          replace h := cnd_f h
          cbv
          cases h
          obtain ⟨rfl, rfl⟩ := IsL.uniq hl17 hl41
          exact ⟨_, .refl _, [], _, _, [(4, 0)], _, rfl, rfl, rfl, rfl, rfl, rfl⟩
end Go.AX
