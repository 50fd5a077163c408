/- What functions of the program compute: each is what its Lean function says. -/
import Derived.Test.YtlebjdkabepmkaaFS1
import Derived.Test.YtlebjdkabepmkaaFS9
namespace Go.AX
open Go.Proofs
set_option autoImplicit false
set_option linter.unusedVariables false
set_option maxRecDepth 100000
set_option maxHeartbeats 4000000
set_option linter.unusedSimpArgs false

theorem s13 {v1 : Int} {v2 : Int} {v3 : Int} {v4 : Int} {v5 : Int} {l6 : List TZone} {c7 : List D} {n8 : Nat} {v10 : Int} (hl9 : IsL eZone c7 n8 l6) {l11 : List TZone} {c12 : List D} {n13 : Nat} {v15 : Int} (hl14 : IsL eZone c12 n13 l11) (h : m_zone_Reset (TGeom.mk v1 v2 v3 v4 v5) l6 v10 = some (l11, v15)) : Spec Try.prog 13 [.agg [.d (.int .i64 v1), .d (.int .i64 v2), .d (.int .i64 v3), .d (.int .i64 v4), .d (.int .i64 v5)], .d (.lst c7 n8), .d (.int .i64 v10)] ⟨.tup [.own 0 n13 2, .d (.int .i64 v15)], [(0, .row c12 2 36)], 1, True⟩ := by
  refine spec_b [] Try.func13 rfl rfl rfl fun J P hJ hP => ?_
  dsimp only [m_zone_Reset] at h
  cbv
  obtain ⟨l19, h18, h⟩ := bnd h
  obtain ⟨c20, n21, hl22⟩ := nameL eZone l19
  refine call_by hP (s24 hl9 hl22 h18) hJ rfl rfl ?_
  cbv
  obtain ⟨v25, h24, h⟩ := bnd h
  refine call_by hP (s27 h24) hJ rfl rfl ?_
  cbv
  revert h
  refine st_cmp hJ fun b26 eb26 h => ?_
  cbv
  cases b26 with
  | true =>
    replace h := cnd_t h
    cbv
    cases h
    obtain ⟨rfl, rfl⟩ := IsL.uniq hl14 hl22
    exact ⟨_, .refl _, [], _, _, [(5, 0)], _, rfl, rfl, rfl, rfl, rfl, rfl⟩
  | false =>
    replace h := cnd_f h
    cbv
    revert h
    refine st_idx_pr hJ hl22 fun y27 k28 hy29 ho30 h => ?_
    obtain ⟨v31, v32⟩ := y27
    try dsimp only at h
    cbv
    revert h
    refine st_st hJ eZone_len hl22 hy29 ho30 0 (fun hJ => by subst hJ; rfl) rfl (Nat.le_of_ble_eq_true rfl) (TZone.mk 0 0) rfl fun c34 l33 hl35 h => ?_
    cbv
    cases h
    obtain ⟨rfl, rfl⟩ := IsL.uniq hl14 hl35
    exact ⟨_, .refl _, [], _, _, [(5, 0)], _, rfl, rfl, rfl, rfl, rfl, rfl⟩
theorem s30 {v1 : Int} {v2 : Int} {v3 : Int} {v4 : Int} {v5 : Int} {l6 : List TZone} {c7 : List D} {n8 : Nat} {v10 : Int} (hl9 : IsL eZone c7 n8 l6) {l11 : List TZone} {c12 : List D} {n13 : Nat} {v15 : Int} (hl14 : IsL eZone c12 n13 l11) (h : m_zone_Finish (TGeom.mk v1 v2 v3 v4 v5) l6 v10 = some (l11, v15)) : Spec Try.prog 30 [.agg [.d (.int .i64 v1), .d (.int .i64 v2), .d (.int .i64 v3), .d (.int .i64 v4), .d (.int .i64 v5)], .d (.lst c7 n8), .d (.int .i64 v10)] ⟨.tup [.own 0 n13 2, .d (.int .i64 v15)], [(0, .row c12 2 36)], 1, True⟩ := by
  refine spec_b [] Try.func30 rfl rfl rfl fun J P hJ hP => ?_
  dsimp only [m_zone_Finish] at h
  cbv
  obtain ⟨l19, h18, h⟩ := bnd h
  obtain ⟨c20, n21, hl22⟩ := nameL eZone l19
  refine call_by hP (s24 hl9 hl22 h18) hJ rfl rfl ?_
  cbv
  obtain ⟨v25, h24, h⟩ := bnd h
  refine call_by hP (s27 h24) hJ rfl rfl ?_
  cbv
  revert h
  refine st_cmp hJ fun b26 eb26 h => ?_
  cbv
  cases b26 with
  | true =>
    replace h := cnd_t h
    cbv
    cases h
    obtain ⟨rfl, rfl⟩ := IsL.uniq hl14 hl22
    exact ⟨_, .refl _, [], _, _, [(5, 0)], _, rfl, rfl, rfl, rfl, rfl, rfl⟩
  | false =>
    replace h := cnd_f h
    cbv
    revert h
    refine st_idx_pr hJ hl22 fun y27 k28 hy29 ho30 h => ?_
    obtain ⟨v31, v32⟩ := y27
    try dsimp only at h
    cbv
    refine st_ld hJ eZone_len hl22 hy29 ho30 0 (fun hJ => by subst hJ; rfl) ([.int .i64 v31]) (Nat.le_of_ble_eq_true rfl) rfl (.int .nil) rfl ?_
    cbv
    revert h
    refine st_cmp hJ fun b33 eb33 h => ?_
    cbv
    cases b33 with
    | true =>
      replace h := cnd_t h
      cbv
      cases h
      obtain ⟨rfl, rfl⟩ := IsL.uniq hl14 hl22
      exact ⟨_, .refl _, [], _, _, [(5, 0)], _, rfl, rfl, rfl, rfl, rfl, rfl⟩
    | false =>
      replace h := cnd_f h
      cbv
      revert h
      refine st_idx_pr hJ hl22 fun y34 k35 hy36 ho37 h => ?_
      obtain ⟨v38, v39⟩ := y34
      try dsimp only at h
      cbv
      revert h
      refine st_st hJ eZone_len hl22 hy36 ho37 0 (fun hJ => by subst hJ; rfl) rfl (Nat.le_of_ble_eq_true rfl) (TZone.mk 3 v39) rfl fun c41 l40 hl42 h => ?_
      cbv
      cases h
      obtain ⟨rfl, rfl⟩ := IsL.uniq hl14 hl42
      exact ⟨_, .refl _, [], _, _, [(5, 0)], _, rfl, rfl, rfl, rfl, rfl, rfl⟩
theorem s31 {v1 : Int} {v2 : Int} {v3 : Int} {v4 : Int} {v5 : Int} {l6 : List TZone} {c7 : List D} {n8 : Nat} {v10 : Int} (hl9 : IsL eZone c7 n8 l6) {l11 : List TZone} {c12 : List D} {n13 : Nat} {v15 : Int} (hl14 : IsL eZone c12 n13 l11) (h : m_zone_Open (TGeom.mk v1 v2 v3 v4 v5) l6 v10 = some (l11, v15)) : Spec Try.prog 31 [.agg [.d (.int .i64 v1), .d (.int .i64 v2), .d (.int .i64 v3), .d (.int .i64 v4), .d (.int .i64 v5)], .d (.lst c7 n8), .d (.int .i64 v10)] ⟨.tup [.own 0 n13 2, .d (.int .i64 v15)], [(0, .row c12 2 36)], 1, True⟩ := by
  refine spec_b [] Try.func31 rfl rfl rfl fun J P hJ hP => ?_
  dsimp only [m_zone_Open] at h
  cbv
  obtain ⟨l19, h18, h⟩ := bnd h
  obtain ⟨c20, n21, hl22⟩ := nameL eZone l19
  refine call_by hP (s24 hl9 hl22 h18) hJ rfl rfl ?_
  cbv
  obtain ⟨v25, h24, h⟩ := bnd h
  refine call_by hP (s27 h24) hJ rfl rfl ?_
  cbv
  revert h
  refine st_cmp hJ fun b26 eb26 h => ?_
  cbv
  cases b26 with
  | true =>
    replace h := cnd_t h
    cbv
    cases h
    obtain ⟨rfl, rfl⟩ := IsL.uniq hl14 hl22
    exact ⟨_, .refl _, [], _, _, [(5, 0)], _, rfl, rfl, rfl, rfl, rfl, rfl⟩
  | false =>
    replace h := cnd_f h
    cbv
    revert h
    refine st_idx_pr hJ hl22 fun y27 k28 hy29 ho30 h => ?_
    obtain ⟨v31, v32⟩ := y27
    try dsimp only at h
    cbv
    refine st_ld hJ eZone_len hl22 hy29 ho30 0 (fun hJ => by subst hJ; rfl) ([.int .i64 v31]) (Nat.le_of_ble_eq_true rfl) rfl (.int .nil) rfl ?_
    cbv
    revert h
    refine st_cmp hJ fun b33 eb33 h => ?_
    cbv
    cases b33 with
    | true =>
      replace h := cnd_t h
      cbv
      cases h
      obtain ⟨rfl, rfl⟩ := IsL.uniq hl14 hl22
      exact ⟨_, .refl _, [], _, _, [(5, 0)], _, rfl, rfl, rfl, rfl, rfl, rfl⟩
    | false =>
      replace h := cnd_f h
      cbv
      refine st_ld hJ eZone_len hl22 hy29 ho30 0 (fun hJ => by subst hJ; rfl) ([.int .i64 v31]) (Nat.le_of_ble_eq_true rfl) rfl (.int .nil) rfl ?_
      cbv
      revert h
      refine st_cmp hJ fun b34 eb34 h => ?_
      cbv
      cases b34 with
      | true =>
        replace h := cnd_t h
        cbv
        cases h
        obtain ⟨rfl, rfl⟩ := IsL.uniq hl14 hl22
        exact ⟨_, .refl _, [], _, _, [(5, 0)], _, rfl, rfl, rfl, rfl, rfl, rfl⟩
      | false =>
        replace h := cnd_f h
        cbv
        obtain ⟨v37, h36, h⟩ := bnd h
        refine call_by hP (s26 hl9 h36) hJ rfl rfl ?_
        cbv
        revert h
        refine st_cmp hJ fun b38 eb38 h => ?_
        cbv
        refine ⟨fun _ => by kernel_rfl, ?_⟩
        cbv
        cases b38 with
        | true =>
          replace h := cnd_t h
          cbv
          cases h
          obtain ⟨rfl, rfl⟩ := IsL.uniq hl14 hl22
          exact ⟨_, .refl _, [], _, _, [(5, 0)], _, rfl, rfl, rfl, rfl, rfl, rfl⟩
        | false =>
          replace h := cnd_f h
          cbv
          revert h
          refine st_st hJ eZone_len hl22 hy29 ho30 0 (fun hJ => by subst hJ; rfl) rfl (Nat.le_of_ble_eq_true rfl) (TZone.mk 1 v32) rfl fun c40 l39 hl41 h => ?_
          cbv
          cases h
          obtain ⟨rfl, rfl⟩ := IsL.uniq hl14 hl41
          exact ⟨_, .refl _, [], _, _, [(5, 0)], _, rfl, rfl, rfl, rfl, rfl, rfl⟩
end Go.AX
