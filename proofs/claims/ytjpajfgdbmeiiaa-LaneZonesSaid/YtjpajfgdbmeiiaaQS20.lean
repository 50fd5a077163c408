/- What functions of the program compute: each is what its Lean function says. -/
import Derived.Test.YtjpajfgdbmeiiaaQS12
import Derived.Test.YtjpajfgdbmeiiaaQS17
import Derived.Test.YtjpajfgdbmeiiaaQS19
import Derived.Test.YtjpajfgdbmeiiaaQS8
namespace Go.AX
open Go.Proofs
set_option autoImplicit false
set_option linter.unusedVariables false
set_option maxRecDepth 100000
set_option maxHeartbeats 4000000
set_option linter.unusedSimpArgs false

theorem s18 {v1 : Int} {v2 : Int} {v3 : Int} {v4 : Int} {v5 : Int} {l6 : List Int} {c7 : List D} {n8 : Nat} {v10 : Int} {v11 : Int} {v12 : Int} (hl9 : IsL (eI .i64) c7 n8 l6) {l13 : List Int} {c14 : List D} {n15 : Nat} (hl16 : IsL (eI .i64) c14 n15 l13) (h : m_pool_Free (TGeom.mk v1 v2 v3 v4 v5) (TPool.mk l6 (A3.mk v10 v11 v12)) = some l13) : Spec Try.prog 18 [.agg [.d (.int .i64 v1), .d (.int .i64 v2), .d (.int .i64 v3), .d (.int .i64 v4), .d (.int .i64 v5)], .agg [.d (.lst c7 n8), .d (.int .i64 v10), .d (.int .i64 v11), .d (.int .i64 v12)]] ⟨.own 0 n15 1, [(0, .row c14 1 3)], 1, True⟩ := by
  refine spec_b [] Try.func18 rfl rfl rfl fun J P hJ hP => ?_
  dsimp only [m_pool_Free] at h
  cbv
  obtain ⟨l20, h19, h⟩ := bnd h
  obtain ⟨c21, n22, hl23⟩ := nameL (eI .i64) l20
  refine call_by hP (s50 hl9 hl23 h19) hJ rfl rfl ?_
  cbv
  cases h
  obtain ⟨rfl, rfl⟩ := IsL.uniq hl16 hl23
  exact ⟨[], _, _, [(7, 0)], rfl, rfl, rfl, rfl⟩
theorem s30 {v1 : Int} {v2 : Int} {v3 : Int} {v4 : Int} {v5 : Int} {l6 : List Int} {c7 : List D} {n8 : Nat} {v10 : Int} {v11 : Int} {v12 : Int} (hl9 : IsL (eI .i64) c7 n8 l6) {l13 : List Int} {c14 : List D} {n15 : Nat} (hl16 : IsL (eI .i64) c14 n15 l13) (h : m_pool_Full (TGeom.mk v1 v2 v3 v4 v5) (TPool.mk l6 (A3.mk v10 v11 v12)) = some l13) : Spec Try.prog 30 [.agg [.d (.int .i64 v1), .d (.int .i64 v2), .d (.int .i64 v3), .d (.int .i64 v4), .d (.int .i64 v5)], .agg [.d (.lst c7 n8), .d (.int .i64 v10), .d (.int .i64 v11), .d (.int .i64 v12)]] ⟨.own 0 n15 1, [(0, .row c14 1 3)], 1, True⟩ := by
  refine spec_b [] Try.func30 rfl rfl rfl fun J P hJ hP => ?_
  dsimp only [m_pool_Full] at h
  cbv
  obtain ⟨l20, h19, h⟩ := bnd h
  obtain ⟨c21, n22, hl23⟩ := nameL (eI .i64) l20
  refine call_by hP (s50 hl9 hl23 h19) hJ rfl rfl ?_
  cbv
  cases h
  obtain ⟨rfl, rfl⟩ := IsL.uniq hl16 hl23
  exact ⟨[], _, _, [(9, 0)], rfl, rfl, rfl, rfl⟩
theorem s45 {v1 : Int} {v2 : Int} {v3 : Int} {v4 : Int} {v5 : Int} {l6 : List Int} {c7 : List D} {n8 : Nat} {v10 : Int} {v11 : Int} {v12 : Int} {v13 : Int} {v14 : Int} (hl9 : IsL (eI .i64) c7 n8 l6) {b15 : Bool}  (h : m_ref12_Fits (TGeom.mk v1 v2 v3 v4 v5) (TPool.mk l6 (A3.mk v10 v11 v12)) v13 v14 = some b15) : Spec Try.prog 45 [.agg [.d (.int .i64 v1), .d (.int .i64 v2), .d (.int .i64 v3), .d (.int .i64 v4), .d (.int .i64 v5)], .agg [.d (.lst c7 n8), .d (.int .i64 v10), .d (.int .i64 v11), .d (.int .i64 v12)], .d (.int .i64 v13), .d (.int .i64 v14)] ⟨.d (.bool b15), [], 0, True⟩ := by
  refine spec_b [] Try.func45 rfl rfl rfl fun J P hJ hP => ?_
  dsimp only [m_ref12_Fits] at h
  cbv
  revert h
  refine st_bin hJ fun v17 ev17 h => ?_
  cbv
  revert h
  refine st_bin hJ fun v18 ev18 h => ?_
  cbv
  revert h
  refine st_cmp hJ fun b19 eb19 h => ?_
  cbv
  cases b19 with
  | true =>
    replace h := cnd_t h
    cbv
    cases h
    exact ⟨[], _, _, [], rfl, rfl, rfl, rfl⟩
  | false =>
    replace h := cnd_f h
    cbv
    obtain ⟨l22, h21, h⟩ := bnd h
    obtain ⟨c23, n24, hl25⟩ := nameL (eI .i64) l22
    refine call_by hP (Spec.frozen (s59 hl25 h21) rfl) hJ rfl rfl ?_
    cbv
    obtain ⟨⟨l28, ⟨l32, ⟨v36, v37, v38⟩⟩, b39⟩, h27, h⟩ := bnd h
    obtain ⟨c29, n30, hl31⟩ := nameL eAt l28
    obtain ⟨c33, n34, hl35⟩ := nameL (eI .i64) l32
    try dsimp only at h
    refine call_by hP (s38 hl9 hl25 hl31 hl35 h27) hJ rfl rfl ?_
    cbv
    refine ⟨fun _ => by kernel_rfl, ?_⟩
    cbv
    cases b39 with
    | true =>
      replace h := cnd_t h
      cbv
      obtain ⟨l42, h41, h⟩ := bnd h
      obtain ⟨c43, n44, hl45⟩ := nameL (eI .i64) l42
      refine call_by hP (s29 hl35 hl45 h41) hJ rfl rfl ?_
      cbv
      revert h
      refine st_len hJ hl45 fun v46 ev46 h => ?_
      cbv
      obtain ⟨v49, h48, h⟩ := bnd h
      refine call_by hP (s43 hl35 h48) hJ rfl rfl ?_
      cbv
      revert h
      refine st_cmp hJ fun b50 eb50 h => ?_
      cbv
      refine ⟨fun _ => by kernel_rfl, ?_⟩
      cbv
      cases h
      exact ⟨[], _, _, [], rfl, rfl, rfl, rfl⟩
    | false =>
      replace h := cnd_f h
      cbv
      refine ⟨fun _ => by kernel_rfl, ?_⟩
      cbv
      cases h
      exact ⟨[], _, _, [], rfl, rfl, rfl, rfl⟩
theorem s47 {v1 : Int} {v2 : Int} {v3 : Int} {v4 : Int} {v5 : Int} {l6 : List Int} {c7 : List D} {n8 : Nat} {v10 : Int} {v11 : Int} {v12 : Int} {v13 : Int} (hl9 : IsL (eI .i64) c7 n8 l6) {b14 : Bool}  (h : m_ref12_Moves (TGeom.mk v1 v2 v3 v4 v5) (TPool.mk l6 (A3.mk v10 v11 v12)) v13 = some b14) : Spec Try.prog 47 [.agg [.d (.int .i64 v1), .d (.int .i64 v2), .d (.int .i64 v3), .d (.int .i64 v4), .d (.int .i64 v5)], .agg [.d (.lst c7 n8), .d (.int .i64 v10), .d (.int .i64 v11), .d (.int .i64 v12)], .d (.int .i64 v13)] ⟨.d (.bool b14), [], 0, True⟩ := by
  refine spec_b [] Try.func47 rfl rfl rfl fun J P hJ hP => ?_
  dsimp only [m_ref12_Moves] at h
  cbv
  revert h
  refine st_bin hJ fun v16 ev16 h => ?_
  cbv
  revert h
  refine st_cmp hJ fun b17 eb17 h => ?_
  cbv
  cases b17 with
  | true =>
    replace h := cnd_t h
    cbv
    cases h
    exact ⟨[], _, _, [], rfl, rfl, rfl, rfl⟩
  | false =>
    replace h := cnd_f h
    cbv
    obtain ⟨l20, h19, h⟩ := bnd h
    obtain ⟨c21, n22, hl23⟩ := nameL (eI .i64) l20
    refine call_by hP (Spec.frozen (s59 hl23 h19) rfl) hJ rfl rfl ?_
    cbv
    obtain ⟨⟨l26, ⟨l30, ⟨v34, v35, v36⟩⟩, b37⟩, h25, h⟩ := bnd h
    obtain ⟨c27, n28, hl29⟩ := nameL eAt l26
    obtain ⟨c31, n32, hl33⟩ := nameL (eI .i64) l30
    try dsimp only at h
    refine call_by hP (s38 hl9 hl23 hl29 hl33 h25) hJ rfl rfl ?_
    cbv
    refine ⟨fun _ => by kernel_rfl, ?_⟩
    cbv
    cases h
    exact ⟨[], _, _, [], rfl, rfl, rfl, rfl⟩
end Go.AX
