/- What functions of the program compute: each is what its Lean function says. -/
import Derived.Test.YtjpajfgdbmeiiaaQS11
import Derived.Test.YtjpajfgdbmeiiaaQS15
import Derived.Test.YtjpajfgdbmeiiaaQS16
import Derived.Test.YtjpajfgdbmeiiaaQS17
import Derived.Test.YtjpajfgdbmeiiaaQS3
import Derived.Test.YtjpajfgdbmeiiaaQS8
namespace Go.AX
open Go.Proofs
set_option autoImplicit false
set_option linter.unusedVariables false
set_option maxRecDepth 100000
set_option maxHeartbeats 4000000
set_option linter.unusedSimpArgs false

theorem s3 {v1 : Int} {v2 : Int} {v3 : Int} {v4 : Int} {v5 : Int} {l6 : List Int} {c7 : List D} {n8 : Nat} {v10 : Int} {v11 : Int} {v12 : Int} {v13 : Int} (hl9 : IsL (eI .i64) c7 n8 l6) {b14 : Bool}  (h : m_law11_PoolAll (TGeom.mk v1 v2 v3 v4 v5) (TPool.mk l6 (A3.mk v10 v11 v12)) v13 = some b14) : Spec Try.prog 3 [.agg [.d (.int .i64 v1), .d (.int .i64 v2), .d (.int .i64 v3), .d (.int .i64 v4), .d (.int .i64 v5)], .agg [.d (.lst c7 n8), .d (.int .i64 v10), .d (.int .i64 v11), .d (.int .i64 v12)], .d (.int .u8 v13)] ⟨.d (.bool b14), [], 0, True⟩ := by
  refine spec_b [6, 4] Try.func3 rfl rfl rfl fun J P hJ hP => ?_
  dsimp only [m_law11_PoolAll] at h
  cbv
  obtain ⟨j17, hj18, h⟩ := jn h
  refine JoinP.mk ({x : Unit // j17 () = some b14}) (fun x => ⟨[(2, .d (.int .u8 v13)), (3, .ptr 0 0), (4, .ptr 1 0)], [(0, .box [.d (.int .i64 v1), .d (.int .i64 v2), .d (.int .i64 v3), .d (.int .i64 v4), .d (.int .i64 v5)]), (1, .box [.d (.lst c7 n8), .d (.int .i64 v10), .d (.int .i64 v11), .d (.int .i64 v12)])], 2, 95⟩) (fun _ => True) [2, 3, 4] ?_ ?_
  · cbv
    obtain ⟨j20, hj21, h⟩ := jn h
    refine JoinP.mk ({x : Bool // j20 (x) = some b14}) (fun x => ⟨[(2, .d (.int .u8 v13)), (3, .ptr 0 0), (4, .ptr 1 0), (37, .d (.bool x.1))], [(0, .box [.d (.int .i64 v1), .d (.int .i64 v2), .d (.int .i64 v3), .d (.int .i64 v4), .d (.int .i64 v5)]), (1, .box [.d (.lst c7 n8), .d (.int .i64 v10), .d (.int .i64 v11), .d (.int .i64 v12)])], 2, 95⟩) (fun _ => True) [2, 3, 4, 37] ?_ ?_
    · cbv
      obtain ⟨b24, h23, h⟩ := bnd h
      refine call_by hP (s14 h23) hJ rfl rfl ?_
      cbv
      revert h
      refine st_not hJ fun b25 eb25 h => ?_
      cbv
      cases b25 with
      | true =>
        replace h := cnd_t h
        cbv
        exact ⟨⟨(true), h⟩, [(0, 0), (2, 1)], 2, [], rfl, trivial⟩
      | false =>
        replace h := cnd_f h
        cbv
        obtain ⟨b28, h27, h⟩ := bnd h
        refine call_by hP (s15 h27) hJ rfl rfl ?_
        cbv
        revert h
        refine st_not hJ fun b29 eb29 h => ?_
        cbv
        cases b29 with
        | true =>
          replace h := cnd_t h
          cbv
          exact ⟨⟨(true), h⟩, [(0, 0), (2, 1)], 2, [], rfl, trivial⟩
        | false =>
          replace h := cnd_f h
          cbv
          revert h
          refine st_bin hJ fun v30 ev30 h => ?_
          cbv
          revert h
          refine st_cmp hJ fun b31 eb31 h => ?_
          cbv
          cases b31 with
          | true =>
            replace h := cnd_t h
            cbv
            exact ⟨⟨(true), h⟩, [(0, 0), (2, 1)], 2, [], rfl, trivial⟩
          | false =>
            replace h := cnd_f h
            cbv
            obtain ⟨b34, h33, h⟩ := bnd h
            refine call_by hP (s16 hl9 h33) hJ rfl rfl ?_
            cbv
            revert h
            refine st_not hJ fun b35 eb35 h => ?_
            cbv
            exact ⟨⟨(b35), h⟩, [(0, 0), (2, 1)], 2, [], rfl, trivial⟩
    · rintro ⟨b22, h⟩ -
      rw [hj21] at h
      try dsimp only at h ⊢
      cbv
      cases b22 with
      | true =>
        replace h := cnd_t h
        cbv
        obtain ⟨b25, h24, h⟩ := bnd h
        refine call_by hP (s14 h24) hJ rfl rfl ?_
        cbv
        cases h
        exact ⟨[], _, _, [], rfl, rfl, rfl, rfl⟩
      | false =>
        replace h := cnd_f h
        cbv
        exact ⟨⟨(), h⟩, [(0, 0), (1, 1)], 2, [], rfl, trivial⟩
  · rintro ⟨_, h⟩ -
    rw [hj18] at h
    try dsimp only at h ⊢
    cbv
    revert h
    refine st_div hJ fun v19 zv19 ev19 h => ?_
    cbv
    revert h
    refine st_conv hJ fun v20 ev20 h => ?_
    cbv
    obtain ⟨v23, h22, h⟩ := bnd h
    refine call_by hP (s17 hl9 h22) hJ rfl rfl ?_
    cbv
    obtain ⟨l26, h25, h⟩ := bnd h
    obtain ⟨c27, n28, hl29⟩ := nameL (eI .i64) l26
    refine call_by hP (s18 hl9 hl29 h25) hJ rfl rfl ?_
    cbv
    revert h
    refine st_len hJ hl29 fun v30 ev30 h => ?_
    cbv
    revert h
    refine st_bin hJ fun v31 ev31 h => ?_
    cbv
    revert h
    refine st_bin hJ fun v32 ev32 h => ?_
    cbv
    refine ⟨fun _ => by kernel_rfl, ?_⟩
    cbv
    obtain ⟨p34, q33, hp35, hf36, hq37⟩ := bnd_loop h
    clear h
    refine LoopB.mk ({x : Nat × Int × (List Int) × (List D) × Nat × Int × Int × Int // IsL (eI .i64) x.2.2.2.1 x.2.2.2.2.1 x.2.2.1 ∧ loopN p34 x.1 (x.2.1, x.2.2.1, x.2.2.2.2.2.1, x.2.2.2.2.2.2.1, x.2.2.2.2.2.2.2) = some q33}) (fun x => ⟨[(3, .ptr 0 0), (7, .d (.int .i64 v20)), (8, .d (.int .i64 v32)), (9, .ptr 1 0), (10, .d (.int .i64 x.1.2.1))], [(0, .box [.d (.int .i64 v1), .d (.int .i64 v2), .d (.int .i64 v3), .d (.int .i64 v4), .d (.int .i64 v5)]), (1, .box [.d (.lst x.1.2.2.2.1 x.1.2.2.2.2.1), .d (.int .i64 x.1.2.2.2.2.2.1), .d (.int .i64 x.1.2.2.2.2.2.2.1), .d (.int .i64 x.1.2.2.2.2.2.2.2)])], 2, 95⟩) (fun x => x.1.1) [3, 7, 8, 9, 10] 2 ⟨(FUEL, 0, l6, c7, n8, v10, v11, v12), hl9, hf36⟩ ⟨[(0, 0), (21, 1)], [], ?_⟩ ?_
    · rfl
    · rintro ⟨⟨N40, v43, l44, c45, n46, v48, v49, v50⟩, hl47, hr39⟩
      obtain ⟨M41, o38, eN42, h, hr39⟩ := loopN_step hr39
      subst eN42
      rw [hp35] at h
      try dsimp only at h ⊢
      cbv
      revert h
      refine st_cmp hJ fun b51 eb51 h => ?_
      cbv
      cases b51 with
      | true =>
        replace h := cnd_t h
        cbv
        obtain ⟨⟨⟨v54, v55⟩, ⟨l56, ⟨v60, v61, v62⟩⟩, b63⟩, h53, h⟩ := bnd h
        obtain ⟨c57, n58, hl59⟩ := nameL (eI .i64) l56
        try dsimp only at h
        refine call_by hP (s19 hl47 hl59 h53) hJ rfl rfl ?_
        cbv
        revert h
        refine st_not hJ fun b64 eb64 h => ?_
        cbv
        cases b64 with
        | true =>
          replace h := cnd_t h
          cbv
          cases h
          have h := hq37
          obtain rfl := hr39
          try dsimp only at h
          cases h
          exact ⟨[], _, _, [], rfl, rfl, rfl, rfl⟩
        | false =>
          replace h := cnd_f h
          cbv
          revert h
          refine st_bin hJ fun v65 ev65 h => ?_
          cbv
          cases h
          exact ⟨⟨(M41, v65, l56, c57, n58, v60, v61, v62), hl59, hr39⟩, [(0, 0), (1, 1)], 2, [], rfl, Nat.lt_succ_self _⟩
      | false =>
        replace h := cnd_f h
        cbv
        cases h
        have h := hq37
        obtain rfl := hr39
        try dsimp only at h
        obtain ⟨⟨⟨v54, v55⟩, ⟨l56, ⟨v60, v61, v62⟩⟩, b63⟩, h53, h⟩ := bnd h
        obtain ⟨c57, n58, hl59⟩ := nameL (eI .i64) l56
        try dsimp only at h
        refine call_by hP (s19 hl47 hl59 h53) hJ rfl rfl ?_
        cbv
        revert h
        refine st_not hJ fun b64 eb64 h => ?_
        cbv
        cases b64 with
        | true =>
          replace h := cnd_t h
          cbv
          obtain ⟨l67, h66, h⟩ := bnd h
          obtain ⟨c68, n69, hl70⟩ := nameL (eI .i64) l67
          refine call_by hP (s18 hl47 hl70 h66) hJ rfl rfl ?_
          cbv
          revert h
          refine st_len hJ hl70 fun v71 ev71 h => ?_
          cbv
          revert h
          refine st_cmp hJ fun b72 eb72 h => ?_
          cbv
          cases b72 with
          | true =>
            replace h := cnd_t h
            cbv
            revert h
            refine st_idx_px hJ (L := A3.l (A3.mk v48 v49 v50)) rfl fun v73 k74 hy75 ho76 h => ?_
            cbv
            refine st_ldA hJ rfl hy75 ho76 (fun hJ => by subst hJ; simp [stdJ, std]) ?_
            cbv
            revert h
            refine st_cmp hJ fun b77 eb77 h => ?_
            cbv
            cases h
            exact ⟨[], _, _, [], rfl, rfl, rfl, rfl⟩
          | false =>
            replace h := cnd_f h
            cbv
            cases h
            exact ⟨[], _, _, [], rfl, rfl, rfl, rfl⟩
        | false =>
          replace h := cnd_f h
          cbv
          cases h
          exact ⟨[], _, _, [], rfl, rfl, rfl, rfl⟩
end Go.AX
