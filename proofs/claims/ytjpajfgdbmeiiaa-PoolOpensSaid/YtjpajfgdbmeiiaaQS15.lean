/- What functions of the program compute: each is what its Lean function says. -/
import Derived.Test.YtjpajfgdbmeiiaaQS13
namespace Go.AX
open Go.Proofs
set_option autoImplicit false
set_option linter.unusedVariables false
set_option maxRecDepth 100000
set_option maxHeartbeats 4000000
set_option linter.unusedSimpArgs false

theorem s18 {v1 : Int} {v2 : Int} {v3 : Int} {v4 : Int} {v5 : Int} {l6 : List Int} {c7 : List D} {n8 : Nat} {v10 : Int} {v11 : Int} {v12 : Int} (hl9 : IsL (eI .i64) c7 n8 l6) {l13 : List Int} {c14 : List D} {n15 : Nat} (hl16 : IsL (eI .i64) c14 n15 l13) (h : m_pool_Free (TGeom.mk v1 v2 v3 v4 v5) (TPool.mk l6 (A3.mk v10 v11 v12)) = some l13) : Spec Try.prog 18 [.agg [.d (.int .i64 v1), .d (.int .i64 v2), .d (.int .i64 v3), .d (.int .i64 v4), .d (.int .i64 v5)], .agg [.d (.lst c7 n8), .d (.int .i64 v10), .d (.int .i64 v11), .d (.int .i64 v12)]] ⟨.own 0 n15 1, [(0, .row c14 1 3)], 1, True⟩ := by
  refine spec_b [] Try.func18 rfl rfl rfl fun J P hJ hP => ?_
  dsimp only [m_pool_Free] at h
  cbv
  obtain ⟨l20, h19, h⟩ := bnd h
  obtain ⟨c21, n22, hl23⟩ := nameL (eI .i64) l20
  refine call_by hP (s50 hl9 hl23 h19) hJ rfl rfl ?_
  cbv
  cases h
  obtain ⟨rfl, rfl⟩ := IsL.uniq hl16 hl23
  exact ⟨[], _, _, [(7, 0)], rfl, rfl, rfl, rfl⟩
theorem s30 {v1 : Int} {v2 : Int} {v3 : Int} {v4 : Int} {v5 : Int} {l6 : List Int} {c7 : List D} {n8 : Nat} {v10 : Int} {v11 : Int} {v12 : Int} (hl9 : IsL (eI .i64) c7 n8 l6) {l13 : List Int} {c14 : List D} {n15 : Nat} (hl16 : IsL (eI .i64) c14 n15 l13) (h : m_pool_Full (TGeom.mk v1 v2 v3 v4 v5) (TPool.mk l6 (A3.mk v10 v11 v12)) = some l13) : Spec Try.prog 30 [.agg [.d (.int .i64 v1), .d (.int .i64 v2), .d (.int .i64 v3), .d (.int .i64 v4), .d (.int .i64 v5)], .agg [.d (.lst c7 n8), .d (.int .i64 v10), .d (.int .i64 v11), .d (.int .i64 v12)]] ⟨.own 0 n15 1, [(0, .row c14 1 3)], 1, True⟩ := by
  refine spec_b [] Try.func30 rfl rfl rfl fun J P hJ hP => ?_
  dsimp only [m_pool_Full] at h
  cbv
  obtain ⟨l20, h19, h⟩ := bnd h
  obtain ⟨c21, n22, hl23⟩ := nameL (eI .i64) l20
  refine call_by hP (s50 hl9 hl23 h19) hJ rfl rfl ?_
  cbv
  cases h
  obtain ⟨rfl, rfl⟩ := IsL.uniq hl16 hl23
  exact ⟨[], _, _, [(9, 0)], rfl, rfl, rfl, rfl⟩
end Go.AX
