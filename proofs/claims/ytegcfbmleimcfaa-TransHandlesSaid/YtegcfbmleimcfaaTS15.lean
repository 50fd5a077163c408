/- What functions of the program compute: each is what its Lean function says. -/
import Derived.Test.YtegcfbmleimcfaaTS1
import Derived.Test.YtegcfbmleimcfaaTS10
import Derived.Test.YtegcfbmleimcfaaTS13
import Derived.Test.YtegcfbmleimcfaaTS14
namespace Go.AX
open Go.Proofs
set_option autoImplicit false
set_option linter.unusedVariables false
set_option maxRecDepth 100000
set_option maxHeartbeats 100000000
set_option linter.unusedSimpArgs false

theorem s9   {b1 : Bool}  (h : m_law18_awake  = some b1) : Spec Try.prog 9 [] ⟨.d (.bool b1), [], 0, True⟩ := by
  refine spec_b [] Try.func9 rfl rfl rfl fun J P hJ hP => ?_
  dsimp only [m_law18_awake] at h
  cbv
  obtain ⟨⟨⟨v5, l6⟩, v10, v11⟩, h4, h⟩ := bnd h
  obtain ⟨c7, n8, hl9⟩ := nameL eTrans l6
  try dsimp only at h
  refine call_by hP (Spec.nils (Spec.frozen (s18 IsL.nil' hl9 h4) rfl) (.agg (.cons _ (.nil (.refl _))) (.cons _ (.refl _)))) hJ rfl rfl ?_
  cbv
  obtain ⟨⟨⟨v14, v15, l16⟩, v20⟩, h13, h⟩ := bnd h
  obtain ⟨c17, n18, hl19⟩ := nameL eWrite l16
  try dsimp only at h
  refine call_by hP (Spec.frozen (s20 hl9 hl19 h13) rfl) hJ rfl rfl ?_
  cbv
  obtain ⟨⟨v23, v24, l25⟩, h22, h⟩ := bnd h
  obtain ⟨c26, n27, hl28⟩ := nameL eWrite l25
  try dsimp only at h
  refine call_by hP (Spec.frozen (s14 hl19 (set_ar hJ (rep_z hJ 32 .u8) 0 9) hl28 h22) rfl) hJ rfl rfl ?_
  cbv
  obtain ⟨⟨⟨v31, b32, a33⟩, b36⟩, h30, h⟩ := bnd h
  obtain ⟨d34, ha35⟩ := nameA .u8 a33
  try dsimp only at h
  refine call_by hP (s11 hl28 ha35 h30) hJ rfl rfl ?_
  cbv
  obtain ⟨⟨v39, l40⟩, h38, h⟩ := bnd h
  obtain ⟨c41, n42, hl43⟩ := nameL eTrans l40
  try dsimp only at h
  refine call_by hP (Spec.frozen (s24 hl9 hl28 hl43 h38) rfl) hJ rfl rfl ?_
  cbv
  obtain ⟨⟨⟨v46, v47, l48⟩, v52⟩, h45, h⟩ := bnd h
  obtain ⟨c49, n50, hl51⟩ := nameL eWrite l48
  try dsimp only at h
  refine call_by hP (s20 hl43 hl51 h45) hJ rfl rfl ?_
  cbv
  obtain ⟨⟨⟨v55, l56⟩, v60⟩, h54, h⟩ := bnd h
  obtain ⟨c57, n58, hl59⟩ := nameL eTrans l56
  try dsimp only at h
  refine call_by hP (s22 hl43 hl59 h54) hJ rfl rfl ?_
  cbv
  revert h
  refine st_cmp hJ fun b61 eb61 h => ?_
  cbv
  cases b61 with
  | true =>
    replace h := cnd_t h
    cbv
    revert h
    refine st_cmp hJ fun b62 eb62 h => ?_
    cbv
    cases b62 with
    | true =>
      replace h := cnd_t h
      cbv
      revert h
      refine st_cmp hJ fun b63 eb63 h => ?_
      cbv
      cases b63 with
      | true =>
        replace h := cnd_t h
        cbv
        revert h
        refine st_cmp hJ fun b64 eb64 h => ?_
        cbv
        cases b64 with
        | true =>
          replace h := cnd_t h
          cbv
          revert h
          refine st_cmp hJ fun b65 eb65 h => ?_
          cbv
          cases b65 with
          | true =>
            replace h := cnd_t h
            cbv
            cases b36 with
            | true =>
              replace h := cnd_t h
              cbv
              revert h
              refine st_idx_px hJ (Ar.h a33) fun v66 k67 hy68 ho69 h => ?_
              cbv
              refine st_ldA hJ ha35 hy68 ho69 (fun hJ => by subst hJ; simp [stdJ, std]) ?_
              cbv
              revert h
              refine st_cmp hJ fun b70 eb70 h => ?_
              cbv
              cases b70 with
              | true =>
                replace h := cnd_t h
                cbv
                obtain ⟨v73, h72, h⟩ := bnd h
                refine call_by hP (s16 hl28 h72) hJ rfl rfl ?_
                cbv
                revert h
                refine st_cmp hJ fun b74 eb74 h => ?_
                cbv
                cases b74 with
                | true =>
                  replace h := cnd_t h
                  cbv
                  revert h
                  refine st_len hJ hl43 fun v75 ev75 h => ?_
                  cbv
                  revert h
                  refine st_cmp hJ fun b76 eb76 h => ?_
                  cbv
                  cases b76 with
                  | true =>
                    replace h := cnd_t h
                    cbv
                    revert h
                    refine st_idx_lp hJ hl43 fun y77 k78 hy79 ho80 h => ?_
                    obtain ⟨v81, v82, l83⟩ := y77
                    obtain ⟨c84, n85, hl86⟩ := nameL eWrite l83
                    try dsimp only at h
                    cbv
                    refine st_ld hJ eTrans_len hl43 hy79 ho80 2 (fun hJ => by subst hJ; rfl) ([.lst c84 n85]) (Nat.le_of_ble_eq_true rfl) (by rw [hl86.cs, hl86.n]; rfl) (.slc .nil) rfl ?_
                    cbv
                    revert h
                    refine st_len hJ hl86 fun v87 ev87 h => ?_
                    cbv
                    revert h
                    refine st_cmp hJ fun b88 eb88 h => ?_
                    cbv
                    cases b88 with
                    | true =>
                      replace h := cnd_t h
                      cbv
                      revert h
                      refine st_cmp hJ fun b89 eb89 h => ?_
                      cbv
                      cases b89 with
                      | true =>
                        replace h := cnd_t h
                        cbv
                        revert h
                        refine st_cmp hJ fun b90 eb90 h => ?_
                        cbv
                        cases b90 with
                        | true =>
                          replace h := cnd_t h
                          cbv
                          revert h
                          refine st_len hJ hl59 fun v91 ev91 h => ?_
                          cbv
                          revert h
                          refine st_cmp hJ fun b92 eb92 h => ?_
                          cbv
                          cases b92 with
                          | true =>
                            replace h := cnd_t h
                            cbv
                            obtain ⟨v95, h94, h⟩ := bnd h
                            refine call_by hP (s26 hl43 h94) hJ rfl rfl ?_
                            cbv
                            revert h
                            refine st_cmp hJ fun b96 eb96 h => ?_
                            cbv
                            cases h
                            exact ⟨_, .refl _, [], _, _, [], _, rfl, rfl, rfl, rfl, rfl, rfl⟩
                          | false =>
                            replace h := cnd_f h
                            cbv
                            cases h
                            exact ⟨_, .refl _, [], _, _, [], _, rfl, rfl, rfl, rfl, rfl, rfl⟩
                        | false =>
                          replace h := cnd_f h
                          cbv
                          cases h
                          exact ⟨_, .refl _, [], _, _, [], _, rfl, rfl, rfl, rfl, rfl, rfl⟩
                      | false =>
                        replace h := cnd_f h
                        cbv
                        cases h
                        exact ⟨_, .refl _, [], _, _, [], _, rfl, rfl, rfl, rfl, rfl, rfl⟩
                    | false =>
                      replace h := cnd_f h
                      cbv
                      cases h
                      exact ⟨_, .refl _, [], _, _, [], _, rfl, rfl, rfl, rfl, rfl, rfl⟩
                  | false =>
                    replace h := cnd_f h
                    cbv
                    cases h
                    exact ⟨_, .refl _, [], _, _, [], _, rfl, rfl, rfl, rfl, rfl, rfl⟩
                | false =>
                  replace h := cnd_f h
                  cbv
                  cases h
                  exact ⟨_, .refl _, [], _, _, [], _, rfl, rfl, rfl, rfl, rfl, rfl⟩
              | false =>
                replace h := cnd_f h
                cbv
                cases h
                exact ⟨_, .refl _, [], _, _, [], _, rfl, rfl, rfl, rfl, rfl, rfl⟩
            | false =>
              replace h := cnd_f h
              cbv
              cases h
              exact ⟨_, .refl _, [], _, _, [], _, rfl, rfl, rfl, rfl, rfl, rfl⟩
          | false =>
            replace h := cnd_f h
            cbv
            cases h
            exact ⟨_, .refl _, [], _, _, [], _, rfl, rfl, rfl, rfl, rfl, rfl⟩
        | false =>
          replace h := cnd_f h
          cbv
          cases h
          exact ⟨_, .refl _, [], _, _, [], _, rfl, rfl, rfl, rfl, rfl, rfl⟩
      | false =>
        replace h := cnd_f h
        cbv
        cases h
        exact ⟨_, .refl _, [], _, _, [], _, rfl, rfl, rfl, rfl, rfl, rfl⟩
    | false =>
      replace h := cnd_f h
      cbv
      cases h
      exact ⟨_, .refl _, [], _, _, [], _, rfl, rfl, rfl, rfl, rfl, rfl⟩
  | false =>
    replace h := cnd_f h
    cbv
    cases h
    exact ⟨_, .refl _, [], _, _, [], _, rfl, rfl, rfl, rfl, rfl, rfl⟩
end Go.AX
