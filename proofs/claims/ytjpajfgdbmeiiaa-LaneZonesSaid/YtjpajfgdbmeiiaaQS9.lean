/- What functions of the program compute: each is what its Lean function says. -/
import Derived.Test.YtjpajfgdbmeiiaaQS2
import Derived.Test.YtjpajfgdbmeiiaaQS3
namespace Go.AX
open Go.Proofs
set_option autoImplicit false
set_option linter.unusedVariables false
set_option maxRecDepth 100000
set_option maxHeartbeats 4000000
set_option linter.unusedSimpArgs false

theorem s51 {l1 : List Int} {c2 : List D} {n3 : Nat} {v5 : Int} {v6 : Int} {v7 : Int} (hl4 : IsL (eI .i64) c2 n3 l1) {l8 : List Int} {c9 : List D} {n10 : Nat} {v12 : Int} {v13 : Int} {v14 : Int} (hl11 : IsL (eI .i64) c9 n10 l8) (h : m_pool_copied (TPool.mk l1 (A3.mk v5 v6 v7)) = some (TPool.mk l8 (A3.mk v12 v13 v14))) : Spec Try.prog 51 [.agg [.d (.lst c2 n3), .d (.int .i64 v5), .d (.int .i64 v6), .d (.int .i64 v7)]] ⟨.agg [.own 0 n10 1, .d (.int .i64 v12), .d (.int .i64 v13), .d (.int .i64 v14)], [(0, .row c9 1 3)], 1, True⟩ := by
  refine spec_b [] Try.func51 rfl rfl rfl fun J P hJ hP => ?_
  dsimp only [m_pool_copied] at h
  cbv
  obtain ⟨l18, h17, h⟩ := bnd h
  obtain ⟨c19, n20, hl21⟩ := nameL (eI .i64) l18
  refine call_by hP (s57 hl4 hl21 h17) hJ rfl rfl ?_
  cbv
  cases h
  obtain ⟨rfl, rfl⟩ := IsL.uniq hl11 hl21
  exact ⟨[], _, _, [(6, 0)], rfl, rfl, rfl, rfl⟩
theorem s52 {l1 : List Int} {c2 : List D} {n3 : Nat} {v5 : Int} (hl4 : IsL (eI .i64) c2 n3 l1) {b6 : Bool}  (h : m_slices_Contains l1 v5 = some b6) : Spec Try.prog 52 [.d (.lst c2 n3), .d (.int .i64 v5)] ⟨.d (.bool b6), [], 0, True⟩ := by
  refine spec_b [] Try.func52 rfl rfl rfl fun J P hJ hP => ?_
  dsimp only [m_slices_Contains] at h
  cbv
  obtain ⟨v10, h9, h⟩ := bnd h
  refine call_by hP (s61 hl4 h9) hJ rfl rfl ?_
  cbv
  revert h
  refine st_cmp hJ fun b11 eb11 h => ?_
  cbv
  cases h
  exact ⟨[], _, _, [], rfl, rfl, rfl, rfl⟩
theorem s48 {v1 : Int} {v2 : Int} {v3 : Int} {v4 : Int} {v5 : Int}  {v6 : Int}  (h : m_ref03_Pages (TGeom.mk v1 v2 v3 v4 v5) = some v6) : Spec Try.prog 48 [.agg [.d (.int .i64 v1), .d (.int .i64 v2), .d (.int .i64 v3), .d (.int .i64 v4), .d (.int .i64 v5)]] ⟨.d (.int .i64 v6), [], 0, True⟩ := by
  refine spec_b [] Try.func48 rfl rfl rfl fun J P hJ hP => ?_
  dsimp only [m_ref03_Pages] at h
  cbv
  obtain ⟨p9, q8, hp10, hf11, hq12⟩ := bnd_loop h
  clear h
  refine LoopB.mk ({x : Nat × Int // loopN p9 x.1 (x.2) = some q8}) (fun x => ⟨[(1, .ptr 0 0), (3, .d (.int .i64 x.1.2))], [(0, .box [.d (.int .i64 v1), .d (.int .i64 v2), .d (.int .i64 v3), .d (.int .i64 v4), .d (.int .i64 v5)])], 1, 12⟩) (fun x => x.1.1) [1, 3] 1 ⟨(FUEL, 0), hf11⟩ ⟨[(0, 0)], [], ?_⟩ ?_
  · rfl
  · rintro ⟨⟨N15, v18⟩, hr14⟩
    obtain ⟨M16, o13, eN17, h, hr14⟩ := loopN_step hr14
    subst eN17
    rw [hp10] at h
    try dsimp only at h ⊢
    cbv
    revert h
    refine st_bin hJ fun v19 ev19 h => ?_
    cbv
    obtain ⟨v22, h21, h⟩ := bnd h
    refine call_by hP (s60 h21) hJ rfl rfl ?_
    cbv
    revert h
    refine st_cmp hJ fun b23 eb23 h => ?_
    cbv
    cases b23 with
    | true =>
      replace h := cnd_t h
      cbv
      revert h
      refine st_bin hJ fun v24 ev24 h => ?_
      cbv
      cases h
      exact ⟨⟨(M16, v24), hr14⟩, [(0, 0)], 1, [], rfl, Nat.lt_succ_self _⟩
    | false =>
      replace h := cnd_f h
      cbv
      cases h
      have h := hq12
      obtain rfl := hr14
      try dsimp only at h
      cases h
      exact ⟨[], _, _, [], rfl, rfl, rfl, rfl⟩
end Go.AX
