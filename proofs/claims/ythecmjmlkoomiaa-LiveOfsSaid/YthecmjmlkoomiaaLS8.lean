/- What functions of the program compute: each is what its Lean function says. -/
import Derived.Test.YthecmjmlkoomiaaLS1
import Derived.Test.YthecmjmlkoomiaaLS5
import Derived.Test.YthecmjmlkoomiaaLS6
namespace Go.AX
open Go.Proofs
set_option autoImplicit false
set_option linter.unusedVariables false
set_option maxRecDepth 100000
set_option maxHeartbeats 100000000
set_option linter.unusedSimpArgs false

theorem s28   {b1 : Bool}  (h : m_law10_awake  = some b1) : Spec Try.prog 28 [] ⟨.d (.bool b1), [], 0, True⟩ := by
  refine spec_b [] Try.func28 rfl rfl rfl fun J P hJ hP => ?_
  dsimp only [m_law10_awake] at h
  cbv
  obtain ⟨⟨⟨v5, v6, v7, v8, v9⟩, m10, m13⟩, h4, h⟩ := bnd h
  obtain ⟨c11, hm12⟩ := nameM eAt (eI .i64) m10
  obtain ⟨c14, hm15⟩ := nameM (eI .i64) (eI .i64) m13
  try dsimp only at h
  refine callM_by hP (s30 hm12 hm15 h4) [] false hJ rfl rfl rfl rfl rfl (.inl rfl) ?_
  cbv
  obtain ⟨⟨b18, ⟨⟨v19, v20, v21, v22, v23⟩, m24, m27⟩⟩, h17, h⟩ := bnd h
  obtain ⟨c25, hm26⟩ := nameM eAt (eI .i64) m24
  obtain ⟨c28, hm29⟩ := nameM (eI .i64) (eI .i64) m27
  try dsimp only at h
  refine callM_by hP (s33 hm12 hm15 hm26 hm29 h17) [(6, 0), (7, 1), (8, 2)] false hJ rfl rfl rfl rfl rfl (.inl rfl) ?_
  cbv
  obtain ⟨⟨b32, ⟨⟨v33, v34, v35, v36, v37⟩, m38, m41⟩⟩, h31, h⟩ := bnd h
  obtain ⟨c39, hm40⟩ := nameM eAt (eI .i64) m38
  obtain ⟨c42, hm43⟩ := nameM (eI .i64) (eI .i64) m41
  try dsimp only at h
  refine callM_by hP (s33 hm26 hm29 hm40 hm43 h31) [(6, 0), (7, 1), (8, 2)] false hJ rfl rfl rfl rfl rfl (.inl rfl) ?_
  cbv
  obtain ⟨⟨v46, b47⟩, h45, h⟩ := bnd h
  try dsimp only at h
  refine callM_by hP (s37 hm40 hm43 h45) [(6, 0), (7, 1), (8, 2)] false hJ rfl rfl rfl rfl rfl (.inl rfl) ?_
  cbv
  cases b18 with
  | true =>
    replace h := cnd_t h
    cbv
    revert h
    refine st_not hJ fun b48 eb48 h => ?_
    cbv
    cases b48 with
    | true =>
      replace h := cnd_t h
      cbv
      revert h
      refine st_cmp hJ fun b49 eb49 h => ?_
      cbv
      cases b49 with
      | true =>
        replace h := cnd_t h
        cbv
        cases b47 with
        | true =>
          replace h := cnd_t h
          cbv
          obtain ⟨v52, h51, h⟩ := bnd h
          refine callM_by hP (s35 hm40 hm43 h51) [(6, 0), (7, 1), (8, 2)] false hJ rfl rfl rfl rfl rfl (.inl rfl) ?_
          cbv
          revert h
          refine st_cmp hJ fun b53 eb53 h => ?_
          cbv
          cases b53 with
          | true =>
            replace h := cnd_t h
            cbv
            obtain ⟨l56, h55, h⟩ := bnd h
            obtain ⟨c57, n58, hl59⟩ := nameL eAt l56
            refine callM_by hP (s36 hm40 hm43 hl59 h55) [(6, 0), (7, 1), (8, 2)] false hJ rfl rfl rfl rfl rfl (.inl rfl) ?_
            cbv
            revert h
            refine st_len hJ hl59 fun v60 ev60 h => ?_
            cbv
            revert h
            refine st_cmp hJ fun b61 eb61 h => ?_
            cbv
            cases b61 with
            | true =>
              replace h := cnd_t h
              cbv
              obtain ⟨⟨b64, ⟨⟨v65, v66, v67, v68, v69⟩, m70, m73⟩⟩, h63, h⟩ := bnd h
              obtain ⟨c71, hm72⟩ := nameM eAt (eI .i64) m70
              obtain ⟨c74, hm75⟩ := nameM (eI .i64) (eI .i64) m73
              try dsimp only at h
              refine callM_by hP (s32 hm40 hm43 hm72 hm75 h63) [(6, 0), (7, 1), (8, 2)] false hJ rfl rfl rfl rfl rfl (.inl rfl) ?_
              cbv
              revert h
              refine st_not hJ fun b76 eb76 h => ?_
              cbv
              cases b76 with
              | true =>
                replace h := cnd_t h
                cbv
                obtain ⟨⟨b79, ⟨⟨v80, v81, v82, v83, v84⟩, m85, m88⟩⟩, h78, h⟩ := bnd h
                obtain ⟨c86, hm87⟩ := nameM eAt (eI .i64) m85
                obtain ⟨c89, hm90⟩ := nameM (eI .i64) (eI .i64) m88
                try dsimp only at h
                refine callM_by hP (s32 hm72 hm75 hm87 hm90 h78) [(6, 0), (7, 1), (8, 2)] false hJ rfl rfl rfl rfl rfl (.inl rfl) ?_
                cbv
                cases b79 with
                | true =>
                  replace h := cnd_t h
                  cbv
                  obtain ⟨v93, h92, h⟩ := bnd h
                  refine callM_by hP (s35 hm87 hm90 h92) [(6, 0), (7, 1), (8, 2)] false hJ rfl rfl rfl rfl rfl (.inl rfl) ?_
                  cbv
                  revert h
                  refine st_cmp hJ fun b94 eb94 h => ?_
                  cbv
                  cases h
                  exact ⟨_, .refl _, [], _, _, [], _, rfl, rfl, rfl, rfl, rfl, rfl⟩
                | false =>
                  replace h := cnd_f h
                  cbv
                  cases h
                  exact ⟨_, .refl _, [], _, _, [], _, rfl, rfl, rfl, rfl, rfl, rfl⟩
              | false =>
                replace h := cnd_f h
                cbv
                cases h
                exact ⟨_, .refl _, [], _, _, [], _, rfl, rfl, rfl, rfl, rfl, rfl⟩
            | false =>
              replace h := cnd_f h
              cbv
              cases h
              exact ⟨_, .refl _, [], _, _, [], _, rfl, rfl, rfl, rfl, rfl, rfl⟩
          | false =>
            replace h := cnd_f h
            cbv
            cases h
            exact ⟨_, .refl _, [], _, _, [], _, rfl, rfl, rfl, rfl, rfl, rfl⟩
        | false =>
          replace h := cnd_f h
          cbv
          cases h
          exact ⟨_, .refl _, [], _, _, [], _, rfl, rfl, rfl, rfl, rfl, rfl⟩
      | false =>
        replace h := cnd_f h
        cbv
        cases h
        exact ⟨_, .refl _, [], _, _, [], _, rfl, rfl, rfl, rfl, rfl, rfl⟩
    | false =>
      replace h := cnd_f h
      cbv
      cases h
      exact ⟨_, .refl _, [], _, _, [], _, rfl, rfl, rfl, rfl, rfl, rfl⟩
  | false =>
    replace h := cnd_f h
    cbv
    cases h
    exact ⟨_, .refl _, [], _, _, [], _, rfl, rfl, rfl, rfl, rfl, rfl⟩
end Go.AX
