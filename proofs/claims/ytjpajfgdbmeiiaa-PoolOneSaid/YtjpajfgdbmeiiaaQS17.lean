/- What functions of the program compute: each is what its Lean function says. -/
import Derived.Test.YtjpajfgdbmeiiaaQS1
import Derived.Test.YtjpajfgdbmeiiaaQS15
import Derived.Test.YtjpajfgdbmeiiaaQS16
import Derived.Test.YtjpajfgdbmeiiaaQS2
import Derived.Test.YtjpajfgdbmeiiaaQS3
namespace Go.AX
open Go.Proofs
set_option autoImplicit false
set_option linter.unusedVariables false
set_option maxRecDepth 100000
set_option maxHeartbeats 4000000
set_option linter.unusedSimpArgs false

theorem s14   {b1 : Bool}  (h : m_law11_awake  = some b1) : Spec Try.prog 14 [] ⟨.d (.bool b1), [], 0, True⟩ := by
  refine spec_b [10] Try.func14 rfl rfl rfl fun J P hJ hP => ?_
  dsimp only [m_law11_awake] at h
  cbv
  obtain ⟨l5, h4, h⟩ := bnd h
  obtain ⟨c6, n7, hl8⟩ := nameL eZone l5
  refine call_by hP (s32 hl8 h4) hJ rfl rfl ?_
  cbv
  obtain ⟨⟨⟨l11, ⟨v15, v16, v17⟩⟩, b18⟩, h10, h⟩ := bnd h
  obtain ⟨c12, n13, hl14⟩ := nameL (eI .i64) l11
  try dsimp only at h
  refine snap_by hP (s23 hl8 hl14 h10) hJ (by cbv) rfl ⟨by simp [V.noL, noLs, D.noL], ⟨noL_enc hl14 (eI_noL .i64), trivial⟩⟩ ?_
  cbv
  refine ⟨fun _ => by kernel_rfl, ?_⟩
  cbv
  obtain ⟨j20, hj21, h⟩ := jn h
  refine JoinP.mk ({x : Unit // j20 () = some b1}) (fun x => ⟨[(1, .ptr 0 0), (2, .ptr 1 0)], [(0, .box [.d (.int .i64 2), .d (.int .i64 8), .d (.int .i64 6), .d (.int .i64 8), .d (.int .i64 3)]), (1, .box [.own 2 n13 1, .d (.int .i64 v15), .d (.int .i64 v16), .d (.int .i64 v17)]), (2, .row c12 1 3)], 3, 82⟩) (fun _ => True) [1, 2] ?_ ?_
  · cbv
    revert h
    refine st_not hJ fun b22 eb22 h => ?_
    cbv
    cases b22 with
    | true =>
      replace h := cnd_t h
      cbv
      cases h
      exact ⟨[], _, _, [], rfl, rfl, rfl, rfl⟩
    | false =>
      replace h := cnd_f h
      cbv
      revert h
      refine st_len hJ hl14 fun v23 ev23 h => ?_
      cbv
      revert h
      refine st_cmp hJ fun b24 eb24 h => ?_
      cbv
      cases b24 with
      | true =>
        replace h := cnd_t h
        cbv
        cases h
        exact ⟨[], _, _, [], rfl, rfl, rfl, rfl⟩
      | false =>
        replace h := cnd_f h
        cbv
        exact ⟨⟨(), h⟩, [(2, 0), (14, 1), (9, 2)], 3, [], rfl, trivial⟩
  · rintro ⟨_, h⟩ -
    rw [hj21] at h
    try dsimp only at h ⊢
    cbv
    obtain ⟨⟨⟨v24, v25⟩, ⟨l26, ⟨v30, v31, v32⟩⟩, b33⟩, h23, h⟩ := bnd h
    obtain ⟨c27, n28, hl29⟩ := nameL (eI .i64) l26
    try dsimp only at h
    refine snap_by hP (s19 hl14 hl29 h23) hJ (by cbv) rfl ⟨by simp [V.noL, noLs, D.noL], ⟨noL_enc hl29 (eI_noL .i64), trivial⟩⟩ ?_
    cbv
    obtain ⟨⟨⟨v36, v37⟩, ⟨l38, ⟨v42, v43, v44⟩⟩, b45⟩, h35, h⟩ := bnd h
    obtain ⟨c39, n40, hl41⟩ := nameL (eI .i64) l38
    try dsimp only at h
    refine snap_by hP (s19 hl29 hl41 h35) hJ (by cbv) rfl ⟨by simp [V.noL, noLs, D.noL], ⟨noL_enc hl41 (eI_noL .i64), trivial⟩⟩ ?_
    cbv
    obtain ⟨⟨⟨v48, v49⟩, ⟨l50, ⟨v54, v55, v56⟩⟩, b57⟩, h47, h⟩ := bnd h
    obtain ⟨c51, n52, hl53⟩ := nameL (eI .i64) l50
    try dsimp only at h
    refine snap_by hP (s19 hl41 hl53 h47) hJ (by cbv) rfl ⟨by simp [V.noL, noLs, D.noL], ⟨noL_enc hl53 (eI_noL .i64), trivial⟩⟩ ?_
    cbv
    cases b33 with
    | true =>
      replace h := cnd_t h
      cbv
      cases b45 with
      | true =>
        replace h := cnd_t h
        cbv
        cases b57 with
        | true =>
          replace h := cnd_t h
          cbv
          revert h
          refine st_bool hJ (fun hJ => by subst hJ; rfl) fun b58 eb58 h => ?_
          cbv
          cases b58 with
          | true =>
            replace h := cnd_t h
            cbv
            revert h
            refine st_bool hJ (fun hJ => by subst hJ; rfl) fun b59 eb59 h => ?_
            cbv
            cases b59 with
            | true =>
              replace h := cnd_t h
              cbv
              revert h
              refine st_bool hJ (fun hJ => by subst hJ; rfl) fun b60 eb60 h => ?_
              cbv
              cases b60 with
              | true =>
                replace h := cnd_t h
                cbv
                obtain ⟨l63, h62, h⟩ := bnd h
                obtain ⟨c64, n65, hl66⟩ := nameL (eI .i64) l63
                refine snap_by hP (s18 hl53 hl66 h62) hJ (by cbv) rfl ⟨by simp [V.noL, noLs, D.noL], ⟨noL_enc hl66 (eI_noL .i64), trivial⟩⟩ ?_
                cbv
                revert h
                refine st_len hJ hl66 fun v67 ev67 h => ?_
                cbv
                revert h
                refine st_cmp hJ fun b68 eb68 h => ?_
                cbv
                cases b68 with
                | true =>
                  replace h := cnd_t h
                  cbv
                  obtain ⟨v71, h70, h⟩ := bnd h
                  refine snap_by hP (s17 hl53 h70) hJ (by cbv) rfl ⟨by simp [V.noL, noLs, D.noL], trivial⟩ ?_
                  cbv
                  revert h
                  refine st_cmp hJ fun b72 eb72 h => ?_
                  cbv
                  cases h
                  exact ⟨[], _, _, [], rfl, rfl, rfl, rfl⟩
                | false =>
                  replace h := cnd_f h
                  cbv
                  cases h
                  exact ⟨[], _, _, [], rfl, rfl, rfl, rfl⟩
              | false =>
                replace h := cnd_f h
                cbv
                cases h
                exact ⟨[], _, _, [], rfl, rfl, rfl, rfl⟩
            | false =>
              replace h := cnd_f h
              cbv
              cases h
              exact ⟨[], _, _, [], rfl, rfl, rfl, rfl⟩
          | false =>
            replace h := cnd_f h
            cbv
            cases h
            exact ⟨[], _, _, [], rfl, rfl, rfl, rfl⟩
        | false =>
          replace h := cnd_f h
          cbv
          cases h
          exact ⟨[], _, _, [], rfl, rfl, rfl, rfl⟩
      | false =>
        replace h := cnd_f h
        cbv
        cases h
        exact ⟨[], _, _, [], rfl, rfl, rfl, rfl⟩
    | false =>
      replace h := cnd_f h
      cbv
      cases h
      exact ⟨[], _, _, [], rfl, rfl, rfl, rfl⟩
end Go.AX
