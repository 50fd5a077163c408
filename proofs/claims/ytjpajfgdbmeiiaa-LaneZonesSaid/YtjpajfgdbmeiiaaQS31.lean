/- What functions of the program compute: each is what its Lean function says. -/
import Derived.Test.YtjpajfgdbmeiiaaQS13
import Derived.Test.YtjpajfgdbmeiiaaQS23
import Derived.Test.YtjpajfgdbmeiiaaQS30
namespace Go.AX
open Go.Proofs
set_option autoImplicit false
set_option linter.unusedVariables false
set_option maxRecDepth 100000
set_option maxHeartbeats 4000000
set_option linter.unusedSimpArgs false

theorem s33   {b1 : Bool}  (h : m_law12_awake  = some b1) : Spec Try.prog 33 [] ⟨.d (.bool b1), [], 0, True⟩ := by
  refine spec_b [] Try.func33 rfl rfl rfl fun J P hJ hP => ?_
  dsimp only [m_law12_awake] at h
  cbv
  revert h
  refine st_mk hJ (g := (eI .i64)) (z := 0) rfl fun c4 n5 l3 hl6 h => ?_
  cbv
  have hl7 : IsL (eI .i64) [.int .i64 0, .int .i64 2, .int .i64 0] 3 [0, 2, 0] := ⟨rfl, rfl⟩
  refine st_any hJ rfl rfl (by subst hJ; exact (by decide : 3 ≤ 16777216)) ?_
  cbv
  obtain ⟨⟨l10, ⟨l14, ⟨v18, v19, v20⟩⟩, b21⟩, h9, h⟩ := bnd h
  obtain ⟨c11, n12, hl13⟩ := nameL eAt l10
  obtain ⟨c15, n16, hl17⟩ := nameL (eI .i64) l14
  try dsimp only at h
  refine snap_by hP (s37 hl6 hl7 hl13 hl17 h9) hJ (by cbv) rfl ⟨by simp [V.noL, noLs, D.noL], ⟨noL_enc hl13 eAt_noL, ⟨noL_enc hl17 (eI_noL .i64), trivial⟩⟩⟩ ?_
  cbv
  cases b21 with
  | true =>
    replace h := cnd_t h
    cbv
    revert h
    refine st_len hJ hl13 fun v22 ev22 h => ?_
    cbv
    revert h
    refine st_cmp hJ fun b23 eb23 h => ?_
    cbv
    cases b23 with
    | true =>
      replace h := cnd_t h
      cbv
      revert h
      refine st_idx_pr hJ hl13 fun y24 k25 hy26 ho27 h => ?_
      obtain ⟨v28, v29⟩ := y24
      try dsimp only at h
      cbv
      refine st_ld hJ eAt_len hl13 hy26 ho27 0 (fun hJ => by subst hJ; rfl) ([.int .i64 v28, .int .i64 v29]) (Nat.le_of_ble_eq_true rfl) rfl (.int (.int .nil)) rfl ?_
      cbv
      revert h
      refine st_bool hJ (fun hJ => by subst hJ; rfl) fun b30 eb30 h => ?_
      cbv
      cases b30 with
      | true =>
        replace h := cnd_t h
        cbv
        obtain ⟨b33, h32, h⟩ := bnd h
        refine snap_by hP (s44 hl6 h32) hJ (by cbv) rfl ⟨by simp [V.noL, noLs, D.noL], trivial⟩ ?_
        cbv
        cases b33 with
        | true =>
          replace h := cnd_t h
          cbv
          obtain ⟨v36, h35, h⟩ := bnd h
          refine snap_by hP (s40 hl6 h35) hJ (by cbv) rfl ⟨by simp [V.noL, noLs, D.noL], trivial⟩ ?_
          cbv
          revert h
          refine st_cmp hJ fun b37 eb37 h => ?_
          cbv
          cases b37 with
          | true =>
            replace h := cnd_t h
            cbv
            obtain ⟨v40, h39, h⟩ := bnd h
            refine snap_by hP (s42 hl6 h39) hJ (by cbv) rfl ⟨by simp [V.noL, noLs, D.noL], trivial⟩ ?_
            cbv
            revert h
            refine st_cmp hJ fun b41 eb41 h => ?_
            cbv
            cases b41 with
            | true =>
              replace h := cnd_t h
              cbv
              obtain ⟨v44, h43, h⟩ := bnd h
              refine snap_by hP (s42 hl17 h43) hJ (by cbv) rfl ⟨by simp [V.noL, noLs, D.noL], trivial⟩ ?_
              cbv
              revert h
              refine st_cmp hJ fun b45 eb45 h => ?_
              cbv
              cases b45 with
              | true =>
                replace h := cnd_t h
                cbv
                obtain ⟨b48, h47, h⟩ := bnd h
                refine snap_by hP (s46 hl6 h47) hJ (by cbv) rfl ⟨by simp [V.noL, noLs, D.noL], trivial⟩ ?_
                cbv
                revert h
                refine st_not hJ fun b49 eb49 h => ?_
                cbv
                cases h
                exact ⟨[], _, _, [], rfl, rfl, rfl, rfl⟩
              | false =>
                replace h := cnd_f h
                cbv
                cases h
                exact ⟨[], _, _, [], rfl, rfl, rfl, rfl⟩
            | false =>
              replace h := cnd_f h
              cbv
              cases h
              exact ⟨[], _, _, [], rfl, rfl, rfl, rfl⟩
          | false =>
            replace h := cnd_f h
            cbv
            cases h
            exact ⟨[], _, _, [], rfl, rfl, rfl, rfl⟩
        | false =>
          replace h := cnd_f h
          cbv
          cases h
          exact ⟨[], _, _, [], rfl, rfl, rfl, rfl⟩
      | false =>
        replace h := cnd_f h
        cbv
        cases h
        exact ⟨[], _, _, [], rfl, rfl, rfl, rfl⟩
    | false =>
      replace h := cnd_f h
      cbv
      cases h
      exact ⟨[], _, _, [], rfl, rfl, rfl, rfl⟩
  | false =>
    replace h := cnd_f h
    cbv
    cases h
    exact ⟨[], _, _, [], rfl, rfl, rfl, rfl⟩
end Go.AX
