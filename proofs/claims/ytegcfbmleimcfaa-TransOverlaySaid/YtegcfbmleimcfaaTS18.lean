/- What functions of the program compute: each is what its Lean function says. -/
import Derived.Test.YtegcfbmleimcfaaTS13
import Derived.Test.YtegcfbmleimcfaaTS15
import Derived.Test.YtegcfbmleimcfaaTS2
namespace Go.AX
open Go.Proofs
set_option autoImplicit false
set_option linter.unusedVariables false
set_option maxRecDepth 100000
set_option maxHeartbeats 100000000
set_option linter.unusedSimpArgs false

theorem s5 {l1 : List TWrite} {c2 : List D} {n3 : Nat} {v5 : Int} (hl4 : IsL eWrite c2 n3 l1) {b6 : Bool}  (h : m_law18_TransOverlay l1 v5 = some b6) : Spec Try.prog 5 [.d (.lst c2 n3), .d (.int .i64 v5)] ⟨.d (.bool b6), [], 0, True⟩ := by
  refine spec_b [6, 4, 30] Try.func5 rfl rfl rfl fun J P hJ hP => ?_
  dsimp only [m_law18_TransOverlay] at h
  cbv
  obtain ⟨j9, hj10, h⟩ := jn h
  refine JoinP.mk ({x : Unit // j9 () = some b6}) (fun x => ⟨[(0, .d (.lst c2 n3)), (1, .d (.int .i64 v5))], [], 0, 65⟩) (fun _ => True) [0, 1] ?_ ?_
  · cbv
    obtain ⟨j12, hj13, h⟩ := jn h
    refine JoinP.mk ({x : Bool // j12 (x) = some b6}) (fun x => ⟨[(0, .d (.lst c2 n3)), (1, .d (.int .i64 v5)), (17, .d (.bool x.1))], [], 0, 65⟩) (fun _ => True) [0, 1, 17] ?_ ?_
    · cbv
      obtain ⟨b16, h15, h⟩ := bnd h
      refine call_by hP (s9 h15) hJ rfl rfl ?_
      cbv
      revert h
      refine st_not hJ fun b17 eb17 h => ?_
      cbv
      cases b17 with
      | true =>
        replace h := cnd_t h
        cbv
        exact ⟨⟨(true), h⟩, [], 0, [], rfl, trivial⟩
      | false =>
        replace h := cnd_f h
        cbv
        revert h
        refine st_len hJ hl4 fun v18 ev18 h => ?_
        cbv
        revert h
        refine st_cmp hJ fun b19 eb19 h => ?_
        cbv
        exact ⟨⟨(b19), h⟩, [], 0, [], rfl, trivial⟩
    · rintro ⟨b14, h⟩ -
      rw [hj13] at h
      try dsimp only at h ⊢
      cbv
      cases b14 with
      | true =>
        replace h := cnd_t h
        cbv
        obtain ⟨b17, h16, h⟩ := bnd h
        refine call_by hP (s9 h16) hJ rfl rfl ?_
        cbv
        cases h
        exact ⟨_, .refl _, [], _, _, [], _, rfl, rfl, rfl, rfl, rfl, rfl⟩
      | false =>
        replace h := cnd_f h
        cbv
        exact ⟨⟨(), h⟩, [], 0, [], rfl, trivial⟩
  · rintro ⟨_, h⟩ -
    rw [hj10] at h
    try dsimp only at h ⊢
    cbv
    obtain ⟨p12, q11, hp13, hf14, hq15⟩ := bnd_loop h
    clear h
    refine LoopB.mk ({x : Nat × Bool × Int × Int × Int × Int × Bool × (Ar 32) × (List D) × (List TWrite) × (List D) × Nat // x.2.2.2.2.2.2.2.2.1 = encL (eI .u8) x.2.2.2.2.2.2.2.1.l ∧ IsL eWrite x.2.2.2.2.2.2.2.2.2.2.1 x.2.2.2.2.2.2.2.2.2.2.2 x.2.2.2.2.2.2.2.2.2.1 ∧ loopN p12 x.1 (x.2.1, x.2.2.1, x.2.2.2.1, x.2.2.2.2.1, x.2.2.2.2.2.1, x.2.2.2.2.2.2.1, x.2.2.2.2.2.2.2.1, x.2.2.2.2.2.2.2.2.2.1) = some q11}) (fun x => ⟨[(0, .d (.lst c2 n3)), (1, .d (.int .i64 v5)), (5, .ptr 0 0), (6, .ptr 1 0), (7, .d (.bool x.1.2.1)), (8, .d (.int .i64 x.1.2.2.1))], [(0, .box [.d (.int .i64 x.1.2.2.2.1), .d (.int .i64 x.1.2.2.2.2.1), .own 2 x.1.2.2.2.2.2.2.2.2.2.2.2 34]), (1, .box [.d (.int .i64 x.1.2.2.2.2.2.1), .d (.bool x.1.2.2.2.2.2.2.1), .big 32 x.1.2.2.2.2.2.2.2.2.1]), (2, .row x.1.2.2.2.2.2.2.2.2.2.2.1 34 28)], 3, 65⟩) (fun x => x.1.1) [0, 1, 5, 6, 7, 8] 2 ⟨(FUEL, false, 0, 0, 0, 0, false, (Ar.zero 32), (J .rep 32 (.int .u8 0)), ([] : List TWrite), [], 0), (rep_z hJ 32 .u8), (IsL.nil' (g := eWrite)), hf14⟩ ⟨[(1, 0), (4, 1)], [.cell 0 2 2 34 28], ?_⟩ ?_
    · rfl
    · rintro ⟨⟨N18, b21, v22, v23, v24, v25, b26, a27, d28, l30, c31, n32⟩, ha29, hl33, hr17⟩
      obtain ⟨M19, o16, eN20, h, hr17⟩ := loopN_step hr17
      subst eN20
      rw [hp13] at h
      try dsimp only at h ⊢
      cbv
      revert h
      refine st_len hJ hl4 fun v34 ev34 h => ?_
      cbv
      revert h
      refine st_cmp hJ fun b35 eb35 h => ?_
      cbv
      cases b35 with
      | true =>
        replace h := cnd_t h
        cbv
        revert h
        refine st_idx_lp hJ hl4 fun y36 k37 hy38 ho39 h => ?_
        obtain ⟨v40, b41, a42⟩ := y36
        obtain ⟨d43, ha44⟩ := nameA .u8 a42
        try dsimp only at h
        cbv
        refine st_ldW hJ eWrite_len hl4 hy38 ho39 (fun hJ => by subst hJ; rfl) ([.int .i64 v40, .bool b41] ++ (d43 ++ [])) (by rw [(show d43 = encL (eI .u8) a42.l from ha44)]; first | done | rfl | simp [eWrite, encL_len (k := 1) (eI_len _), Ar.h]) (.int (.bool (.big ⟨by rw [(show d43 = encL (eI .u8) a42.l from ha44)]; exact eA_len _ _, by decide⟩ .nil))) rfl ?_
        cbv
        obtain ⟨⟨v47, v48, l49⟩, h46, h⟩ := bnd h
        obtain ⟨c50, n51, hl52⟩ := nameL eWrite l49
        try dsimp only at h
        refine snap_by hP (s14 hl33 ha44 hl52 h46) hJ (by cbv) rfl ⟨⟨trivial, ⟨trivial, ⟨trivial, trivial⟩⟩⟩, ⟨noL_enc hl52 eWrite_noL, trivial⟩⟩ ?_
        cbv
        refine ⟨fun _ => by kernel_rfl, ?_⟩
        cbv
        revert h
        refine st_idx_lp hJ hl4 fun y53 k54 hy55 ho56 h => ?_
        obtain ⟨v57, b58, a59⟩ := y53
        obtain ⟨d60, ha61⟩ := nameA .u8 a59
        try dsimp only at h
        cbv
        refine st_ld hJ eWrite_len hl4 hy55 ho56 0 (fun hJ => by subst hJ; rfl) ([.int .i64 v57]) (by simp [encL_len (k := 1) (eI_len _), Ar.h]) (by first | done | rfl | simp [eWrite, encL_len (k := 1) (eI_len _), Ar.h, takeA]) (.int .nil) rfl ?_
        cbv
        revert h
        refine st_cmp hJ fun b62 eb62 h => ?_
        cbv
        cases b62 with
        | true =>
          replace h := cnd_t h
          cbv
          revert h
          refine st_idx_lp hJ hl4 fun y63 k64 hy65 ho66 h => ?_
          obtain ⟨v67, b68, a69⟩ := y63
          obtain ⟨d70, ha71⟩ := nameA .u8 a69
          try dsimp only at h
          cbv
          refine st_ldW hJ eWrite_len hl4 hy65 ho66 (fun hJ => by subst hJ; rfl) ([.int .i64 v67, .bool b68] ++ (d70 ++ [])) (by rw [(show d70 = encL (eI .u8) a69.l from ha71)]; first | done | rfl | simp [eWrite, encL_len (k := 1) (eI_len _), Ar.h]) (.int (.bool (.big ⟨by rw [(show d70 = encL (eI .u8) a69.l from ha71)]; exact eA_len _ _, by decide⟩ .nil))) rfl ?_
          cbv
          revert h
          refine st_bin hJ fun v72 ev72 h => ?_
          cbv
          cases h
          exact ⟨⟨(M19, true, v72, v47, v48, v67, b68, a69, d70, l49, c50, n51), ha71, hl52, hr17⟩, [(0, 0), (1, 1), (12, 2)], 3, [], rfl, Nat.lt_succ_self _⟩
        | false =>
          replace h := cnd_f h
          cbv
          revert h
          refine st_bin hJ fun v63 ev63 h => ?_
          cbv
          cases h
          exact ⟨⟨(M19, b21, v63, v47, v48, v25, b26, a27, d28, l49, c50, n51), ha29, hl52, hr17⟩, [(0, 0), (1, 1), (12, 2)], 3, [], rfl, Nat.lt_succ_self _⟩
      | false =>
        replace h := cnd_f h
        cbv
        cases h
        have h := hq15
        obtain rfl := hr17
        try dsimp only at h
        obtain ⟨j37, hj38, h⟩ := jn h
        refine JoinP.mk ({x : Bool × (Ar 32) × (List D) // x.2.2 = encL (eI .u8) x.2.1.l ∧ j37 (x.1, x.2.1) = some b6}) (fun x => ⟨[(1, .d (.int .i64 v5)), (5, .ptr 0 0), (6, .ptr 1 0), (7, .d (.bool b21))], [(0, .box [.d (.int .i64 v23), .d (.int .i64 v24), .own 2 n32 34]), (1, .box [.d (.int .i64 v25), .d (.bool x.1.1), .big 32 x.1.2.2]), (2, .row c31 34 28)], 3, 65⟩) (fun _ => True) [1, 5, 6, 7] ?_ ?_
        · cbv
          cases b26 with
          | true =>
            replace h := cnd_t h
            cbv
            exact ⟨⟨(true, (Ar.zero 32), (J .rep 32 (.int .u8 0))), (rep_z hJ 32 .u8), h⟩, [(0, 0), (1, 1), (2, 2)], 3, [], rfl, trivial⟩
          | false =>
            replace h := cnd_f h
            cbv
            exact ⟨⟨(false, a27, d28), ha29, h⟩, [(0, 0), (1, 1), (2, 2)], 3, [], rfl, trivial⟩
        · rintro ⟨⟨b39, a40, d41⟩, ha42, h⟩ -
          rw [hj38] at h
          try dsimp only at h ⊢
          cbv
          obtain ⟨⟨⟨v45, b46, a47⟩, b50⟩, h44, h⟩ := bnd h
          obtain ⟨d48, ha49⟩ := nameA .u8 a47
          try dsimp only at h
          refine snap_by hP (s11 hl33 ha49 h44) hJ (by cbv) rfl ⟨⟨⟨trivial, ⟨trivial, ⟨(noL_big ha49), trivial⟩⟩⟩, ⟨trivial, trivial⟩⟩, trivial⟩ ?_
          cbv
          revert h
          refine st_eqb hJ fun b51 eb51 h => ?_
          cbv
          cases b51 with
          | true =>
            replace h := cnd_t h
            cbv
            revert h
            refine st_eqL hJ (neg := false) (e := ((v45 == v25) && ((b46 == b39) && ((a47.l == a40.l) && true)))) (show eqLs [.int .i64, .bool, .big 32 .u8] [.d (.int .i64 v45), .d (.bool b46), .big 32 d48] [.d (.int .i64 v25), .d (.bool b39), .big 32 d41] _ from ⟨rfl, rfl, _, ⟨_, ⟨rfl, rfl, _, _, _, (ha49).trans (encI_map _ _), (ha42).trans (encI_map _ _), Ar.h _, Ar.h _, rfl, rfl⟩, rfl⟩, rfl⟩) rfl fun b52 eb52 h => ?_
            cbv
            cases b52 with
            | true =>
              replace h := cnd_t h
              cbv
              obtain ⟨b55, h54, h⟩ := bnd h
              refine snap_by hP (s10 hl33 h54) hJ (by cbv) rfl ⟨trivial, trivial⟩ ?_
              cbv
              cases h
              exact ⟨_, .refl _, [], _, _, [], _, rfl, rfl, rfl, rfl, rfl, rfl⟩
            | false =>
              replace h := cnd_f h
              cbv
              cases h
              exact ⟨_, .refl _, [], _, _, [], _, rfl, rfl, rfl, rfl, rfl, rfl⟩
          | false =>
            replace h := cnd_f h
            cbv
            cases h
            exact ⟨_, .refl _, [], _, _, [], _, rfl, rfl, rfl, rfl, rfl, rfl⟩
end Go.AX
