/- What functions of the program compute: each is what its Lean function says. -/
import Derived.Test.YtegcfbmleimcfaaTM
namespace Go.AX
open Go.Proofs
set_option autoImplicit false
set_option linter.unusedVariables false
set_option maxRecDepth 100000
set_option maxHeartbeats 100000000
set_option linter.unusedSimpArgs false

theorem s10 {v1 : Int} {v2 : Int} {l3 : List TWrite} {c4 : List D} {n5 : Nat} (hl6 : IsL eWrite c4 n5 l3) {b7 : Bool}  (h : m_ref18_Right (TTrans.mk v1 v2 l3) = some b7) : Spec Try.prog 10 [.agg [.d (.int .i64 v1), .d (.int .i64 v2), .d (.lst c4 n5)]] ⟨.d (.bool b7), [], 0, True⟩ := by
  refine spec_b [8] Try.func10 rfl rfl rfl fun J P hJ hP => ?_
  dsimp only [m_ref18_Right] at h
  cbv
  obtain ⟨p10, q9, hp11, hf12, hq13⟩ := bnd_loop h
  clear h
  refine LoopB.mk ({x : Nat × Int // loopN p10 x.1 (x.2) = some q9}) (fun x => ⟨[(1, .ptr 0 0), (3, .d (.int .i64 x.1.2))], [(0, .box [.d (.int .i64 v1), .d (.int .i64 v2), .d (.lst c4 n5)])], 1, 33⟩) (fun x => x.1.1) [1, 3] 1 ⟨(FUEL, 1), hf12⟩ ⟨[(0, 0)], [], ?_⟩ ?_
  · rfl
  · rintro ⟨⟨N16, v19⟩, hr15⟩
    obtain ⟨M17, o14, eN18, h, hr15⟩ := loopN_step hr15
    subst eN18
    rw [hp11] at h
    try dsimp only at h ⊢
    cbv
    obtain ⟨j21, hj22, h⟩ := jn h
    refine JoinP.mk ({x : Unit // j21 () = some o14}) (fun x => ⟨[(1, .ptr 0 0), (3, .d (.int .i64 v19))], [(0, .box [.d (.int .i64 v1), .d (.int .i64 v2), .d (.lst c4 n5)])], 1, 33⟩) (fun _ => True) [1, 3] ?_ ?_
    · cbv
      revert h
      refine st_len hJ hl6 fun v23 ev23 h => ?_
      cbv
      revert h
      refine st_cmp hJ fun b24 eb24 h => ?_
      cbv
      cases b24 with
      | true =>
        replace h := cnd_t h
        cbv
        revert h
        refine st_cmp hJ fun b25 eb25 h => ?_
        cbv
        cases b25 with
        | true =>
          replace h := cnd_t h
          cbv
          exact ⟨⟨(), h⟩, [(0, 0)], 1, [], rfl, trivial⟩
        | false =>
          replace h := cnd_f h
          cbv
          cases h
          have h := hq13
          obtain rfl := hr15
          try dsimp only at h
          revert h
          refine st_len hJ hl6 fun v26 ev26 h => ?_
          cbv
          revert h
          refine st_cmp hJ fun b27 eb27 h => ?_
          cbv
          cases h
          exact ⟨_, .refl _, [], _, _, [], _, rfl, rfl, rfl, rfl, rfl, rfl⟩
      | false =>
        replace h := cnd_f h
        cbv
        cases h
        have h := hq13
        obtain rfl := hr15
        try dsimp only at h
        revert h
        refine st_len hJ hl6 fun v25 ev25 h => ?_
        cbv
        revert h
        refine st_cmp hJ fun b26 eb26 h => ?_
        cbv
        cases h
        exact ⟨_, .refl _, [], _, _, [], _, rfl, rfl, rfl, rfl, rfl, rfl⟩
    · rintro ⟨_, h⟩ -
      rw [hj22] at h
      try dsimp only at h ⊢
      cbv
      revert h
      refine st_bin hJ fun v23 ev23 h => ?_
      cbv
      revert h
      refine st_idx_lp hJ hl6 fun y24 k25 hy26 ho27 h => ?_
      obtain ⟨v28, b29, a30⟩ := y24
      obtain ⟨d31, ha32⟩ := nameA .u8 a30
      try dsimp only at h
      cbv
      refine st_ld hJ eWrite_len hl6 hy26 ho27 0 (fun hJ => by subst hJ; rfl) ([.int .i64 v28]) (by simp [encL_len (k := 1) (eI_len _), Ar.h]) (by first | done | rfl | simp [eWrite, encL_len (k := 1) (eI_len _), Ar.h, takeA]) (.int .nil) rfl ?_
      cbv
      revert h
      refine st_idx_lp hJ hl6 fun y33 k34 hy35 ho36 h => ?_
      obtain ⟨v37, b38, a39⟩ := y33
      obtain ⟨d40, ha41⟩ := nameA .u8 a39
      try dsimp only at h
      cbv
      refine st_ld hJ eWrite_len hl6 hy35 ho36 0 (fun hJ => by subst hJ; rfl) ([.int .i64 v37]) (by simp [encL_len (k := 1) (eI_len _), Ar.h]) (by first | done | rfl | simp [eWrite, encL_len (k := 1) (eI_len _), Ar.h, takeA]) (.int .nil) rfl ?_
      cbv
      revert h
      refine st_cmp hJ fun b42 eb42 h => ?_
      cbv
      refine ⟨fun _ => by kernel_rfl, ?_⟩
      cbv
      cases b42 with
      | true =>
        replace h := cnd_t h
        cbv
        cases h
        have h := hq13
        obtain rfl := hr15
        try dsimp only at h
        cases h
        exact ⟨_, .refl _, [], _, _, [], _, rfl, rfl, rfl, rfl, rfl, rfl⟩
      | false =>
        replace h := cnd_f h
        cbv
        revert h
        refine st_bin hJ fun v43 ev43 h => ?_
        cbv
        cases h
        exact ⟨⟨(M17, v43), hr15⟩, [(0, 0)], 1, [], rfl, Nat.lt_succ_self _⟩
theorem s12 {v1 : Int} {v2 : Int} {l3 : List TWrite} {c4 : List D} {n5 : Nat} {v7 : Int} (hl6 : IsL eWrite c4 n5 l3) {v8 : Int} {b9 : Bool} {a10 : Ar 32} {d11 : List D} {b13 : Bool} (ha12 : d11 = encL (eI .u8) a10.l) (h : m_ref18_Find (TTrans.mk v1 v2 l3) v7 = some ((TWrite.mk v8 b9 a10), b13)) : Spec Try.prog 12 [.agg [.d (.int .i64 v1), .d (.int .i64 v2), .d (.lst c4 n5)], .d (.int .i64 v7)] ⟨.tup [.agg [.d (.int .i64 v8), .d (.bool b9), .big 32 d11], .d (.bool b13)], [], 0, True⟩ := by
  refine spec_b [] Try.func12 rfl rfl rfl fun J P hJ hP => ?_
  dsimp only [m_ref18_Find] at h
  cbv
  obtain ⟨p16, q15, hp17, hf18, hq19⟩ := bnd_loop h
  clear h
  refine LoopB.mk ({x : Nat × Int // loopN p16 x.1 (x.2) = some q15}) (fun x => ⟨[(1, .d (.int .i64 v7)), (2, .ptr 0 0), (4, .ptr 1 0), (6, .d (.int .i64 x.1.2))], [(0, .box [.d (.int .i64 v1), .d (.int .i64 v2), .d (.lst c4 n5)]), (1, .box [.d (.int .i64 0), .d (.bool false), .big 32 (J .rep 32 (.int .u8 0))])], 2, 28⟩) (fun x => x.1.1) [1, 2, 4, 6] 2 ⟨(FUEL, 0), hf18⟩ ⟨[(0, 0), (2, 1)], [], ?_⟩ ?_
  · rfl
  · rintro ⟨⟨N22, v25⟩, hr21⟩
    obtain ⟨M23, o20, eN24, h, hr21⟩ := loopN_step hr21
    subst eN24
    rw [hp17] at h
    try dsimp only at h ⊢
    cbv
    revert h
    refine st_len hJ hl6 fun v26 ev26 h => ?_
    cbv
    revert h
    refine st_cmp hJ fun b27 eb27 h => ?_
    cbv
    cases b27 with
    | true =>
      replace h := cnd_t h
      cbv
      revert h
      refine st_idx_lp hJ hl6 fun y28 k29 hy30 ho31 h => ?_
      obtain ⟨v32, b33, a34⟩ := y28
      obtain ⟨d35, ha36⟩ := nameA .u8 a34
      try dsimp only at h
      cbv
      refine st_ld hJ eWrite_len hl6 hy30 ho31 0 (fun hJ => by subst hJ; rfl) ([.int .i64 v32]) (by simp [encL_len (k := 1) (eI_len _), Ar.h]) (by first | done | rfl | simp [eWrite, encL_len (k := 1) (eI_len _), Ar.h, takeA]) (.int .nil) rfl ?_
      cbv
      revert h
      refine st_cmp hJ fun b37 eb37 h => ?_
      cbv
      cases b37 with
      | true =>
        replace h := cnd_t h
        cbv
        revert h
        refine st_idx_lp hJ hl6 fun y38 k39 hy40 ho41 h => ?_
        obtain ⟨v42, b43, a44⟩ := y38
        obtain ⟨d45, ha46⟩ := nameA .u8 a44
        try dsimp only at h
        cbv
        refine st_ldW hJ eWrite_len hl6 hy40 ho41 (fun hJ => by subst hJ; rfl) ([.int .i64 v42, .bool b43] ++ (d45 ++ [])) (by rw [(show d45 = encL (eI .u8) a44.l from ha46)]; first | done | rfl | simp [eWrite, encL_len (k := 1) (eI_len _), Ar.h]) (.int (.bool (.big ⟨by rw [(show d45 = encL (eI .u8) a44.l from ha46)]; exact eA_len _ _, by decide⟩ .nil))) rfl ?_
        cbv
        cases h
        have h := hq19
        obtain rfl := hr21
        try dsimp only at h
        cases h
        obtain rfl := ha12.trans (ha46).symm
        exact ⟨_, .refl _, [], _, _, [], _, rfl, rfl, rfl, rfl, rfl, rfl⟩
      | false =>
        replace h := cnd_f h
        cbv
        revert h
        refine st_bin hJ fun v38 ev38 h => ?_
        cbv
        cases h
        exact ⟨⟨(M23, v38), hr21⟩, [(0, 0), (1, 1)], 2, [], rfl, Nat.lt_succ_self _⟩
    | false =>
      replace h := cnd_f h
      cbv
      cases h
      have h := hq19
      obtain rfl := hr21
      try dsimp only at h
      cases h
      obtain rfl := ha12.trans ((rep_z hJ 32 .u8)).symm
      exact ⟨_, .refl _, [], _, _, [], _, rfl, rfl, rfl, rfl, rfl, rfl⟩
end Go.AX
