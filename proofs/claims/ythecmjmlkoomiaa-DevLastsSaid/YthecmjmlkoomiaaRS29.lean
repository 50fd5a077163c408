/- What functions of the program compute: each is what its Lean function says. -/
import Derived.Test.YthecmjmlkoomiaaRS1
import Derived.Test.YthecmjmlkoomiaaRS13
import Derived.Test.YthecmjmlkoomiaaRS22
import Derived.Test.YthecmjmlkoomiaaRS23
import Derived.Test.YthecmjmlkoomiaaRS5
namespace Go.AX
open Go.Proofs
set_option autoImplicit false
set_option linter.unusedVariables false
set_option maxRecDepth 100000
set_option maxHeartbeats 100000000
set_option linter.unusedSimpArgs false

theorem s12 {v1 : Int} {v2 : Int} {v3 : Int} {v4 : Int} {v5 : Int}  {b6 : Bool}  (h : m_ref05_Little (TGeom.mk v1 v2 v3 v4 v5) = some b6) : Spec Try.prog 12 [.agg [.d (.int .i64 v1), .d (.int .i64 v2), .d (.int .i64 v3), .d (.int .i64 v4), .d (.int .i64 v5)]] ⟨.d (.bool b6), [], 0, True⟩ := by
  refine spec_b [] Try.func12 rfl rfl rfl fun J P hJ hP => ?_
  dsimp only [m_ref05_Little] at h
  cbv
  obtain ⟨b10, h9, h⟩ := bnd h
  refine call_by hP (s43 h9) hJ rfl rfl ?_
  cbv
  cases b10 with
  | true =>
    replace h := cnd_t h
    cbv
    revert h
    refine st_bin hJ fun v11 ev11 h => ?_
    cbv
    revert h
    refine st_cmp hJ fun b12 eb12 h => ?_
    cbv
    cases b12 with
    | true =>
      replace h := cnd_t h
      cbv
      revert h
      refine st_cmp hJ fun b13 eb13 h => ?_
      cbv
      cases h
      exact ⟨_, .refl _, [], _, _, [], _, rfl, rfl, rfl, rfl, rfl, rfl⟩
    | false =>
      replace h := cnd_f h
      cbv
      cases h
      exact ⟨_, .refl _, [], _, _, [], _, rfl, rfl, rfl, rfl, rfl, rfl⟩
  | false =>
    replace h := cnd_f h
    cbv
    cases h
    exact ⟨_, .refl _, [], _, _, [], _, rfl, rfl, rfl, rfl, rfl, rfl⟩
theorem s78 {v1 : Int} {v2 : Int} {v3 : Int} {v4 : Int} {v5 : Int} {l6 : List TZone} {c7 : List D} {n8 : Nat} {v10 : Int} (hl9 : IsL eZone c7 n8 l6) {l11 : List TZone} {c12 : List D} {n13 : Nat} {v15 : Int} (hl14 : IsL eZone c12 n13 l11) (h : m_zone_Reset (TGeom.mk v1 v2 v3 v4 v5) l6 v10 = some (l11, v15)) : Spec Try.prog 78 [.agg [.d (.int .i64 v1), .d (.int .i64 v2), .d (.int .i64 v3), .d (.int .i64 v4), .d (.int .i64 v5)], .d (.lst c7 n8), .d (.int .i64 v10)] ⟨.tup [.own 0 n13 2, .d (.int .i64 v15)], [(0, .row c12 2 53)], 1, True⟩ := by
  refine spec_b [] Try.func78 rfl rfl rfl fun J P hJ hP => ?_
  dsimp only [m_zone_Reset] at h
  cbv
  obtain ⟨l19, h18, h⟩ := bnd h
  obtain ⟨c20, n21, hl22⟩ := nameL eZone l19
  refine call_by hP (s57 hl9 hl22 h18) hJ rfl rfl ?_
  cbv
  obtain ⟨v25, h24, h⟩ := bnd h
  refine call_by hP (s98 h24) hJ rfl rfl ?_
  cbv
  revert h
  refine st_cmp hJ fun b26 eb26 h => ?_
  cbv
  cases b26 with
  | true =>
    replace h := cnd_t h
    cbv
    cases h
    obtain ⟨rfl, rfl⟩ := IsL.uniq hl14 hl22
    exact ⟨_, .refl _, [], _, _, [(5, 0)], _, rfl, rfl, rfl, rfl, rfl, rfl⟩
  | false =>
    replace h := cnd_f h
    cbv
    revert h
    refine st_idx_pr hJ hl22 fun y27 k28 hy29 ho30 h => ?_
    obtain ⟨v31, v32⟩ := y27
    try dsimp only at h
    cbv
    revert h
    refine st_st hJ eZone_len hl22 hy29 ho30 0 (fun hJ => by subst hJ; rfl) rfl (Nat.le_of_ble_eq_true rfl) (TZone.mk 0 0) rfl fun c34 l33 hl35 h => ?_
    cbv
    cases h
    obtain ⟨rfl, rfl⟩ := IsL.uniq hl14 hl35
    exact ⟨_, .refl _, [], _, _, [(5, 0)], _, rfl, rfl, rfl, rfl, rfl, rfl⟩
theorem s80 {v1 : Int} {v2 : Int} {v3 : Int} {v4 : Int} {v5 : Int} {v6 : Int} {l7 : List TZone} {c8 : List D} {n9 : Nat} {m11 : List (Int × Bool)} {c12 : List (List D × List D)} {m14 : List (TAt × (Ar 64))} {c15 : List (List D × List D)} {m17 : List (TAt × (Ar 64))} {c18 : List (List D × List D)} {l20 : List TDev_write} {c21 : List D} {n22 : Nat} {v24 : Int} {b25 : Bool} {v26 : Int} (hl10 : IsL eZone c8 n9 l7) (hm13 : c12 = encM (eI .i64) eB m11) (hm16 : c15 = encM eAt (eA .u8) m14) (hm19 : c18 = encM eAt (eA .u8) m17) (hl23 : IsL eDev_write c21 n22 l20) {v27 : Int} {v28 : Int} {v29 : Int} {v30 : Int} {v31 : Int} {l32 : List TZone} {c33 : List D} {n34 : Nat} {m36 : List (Int × Bool)} {c37 : List (List D × List D)} {m39 : List (TAt × (Ar 64))} {c40 : List (List D × List D)} {m42 : List (TAt × (Ar 64))} {c43 : List (List D × List D)} {l45 : List TDev_write} {c46 : List D} {n47 : Nat} {v49 : Int} {b50 : Bool} {v51 : Int} (hl35 : IsL eZone c33 n34 l32) (hm38 : c37 = encM (eI .i64) eB m36) (hm41 : c40 = encM eAt (eA .u8) m39) (hm44 : c43 = encM eAt (eA .u8) m42) (hl48 : IsL eDev_write c46 n47 l45) (h : m___dev_Device__forget v1 (TDev_Device.mk (TGeom.mk v2 v3 v4 v5 v6) l7 m11 m14 m17 l20 v24 b25 v26) = some (TDev_Device.mk (TGeom.mk v27 v28 v29 v30 v31) l32 m36 m39 m42 l45 v49 b50 v51)) : SpecM Try.prog 80 6 [(0, .box [.d (.int .i64 v2), .d (.int .i64 v3), .d (.int .i64 v4), .d (.int .i64 v5), .d (.int .i64 v6), .own 1 n9 2, .map 2, .map 3, .map 4, .own 5 n22 66, .d (.int .i64 v24), .d (.bool b25), .d (.int .i64 v26)]), (1, .row c8 2 53), (2, .mp false false c12), (3, .mp true true c15), (4, .mp true true c18), (5, .row c21 66 109)] [.ptr 0 0, .d (.int .i64 v1)] ⟨.tup [], [(0, .box [.d (.int .i64 v27), .d (.int .i64 v28), .d (.int .i64 v29), .d (.int .i64 v30), .d (.int .i64 v31), .own 1 n34 2, .map 2, .map 3, .map 4, .own 6 n47 66, .d (.int .i64 v49), .d (.bool b50), .d (.int .i64 v51)]), (1, .row c33 2 53), (2, .mp false false c37), (3, .mp true true c40), (4, .mp true true c43), (6, .row c46 66 109), (5, .dead)], 1, True⟩ := by
  refine specM_b [] 5 6 Try.func80 rfl rfl rfl rfl rfl rfl fun J P hJ hP => ?_
  dsimp only [m___dev_Device__forget] at h
  cbv
  obtain ⟨m53, hf56, h⟩ := bnd h
  obtain ⟨c54, hm55⟩ := nameM eAt (eA .u8) m53
  refine callM_by hP (sd100_0 hm16 hm55 hf56) [(6, 0), (3, 1)] false hJ rfl rfl rfl rfl rfl (.inl rfl) ?_
  cbv
  obtain ⟨m57, hf60, h⟩ := bnd h
  obtain ⟨c58, hm59⟩ := nameM eAt (eA .u8) m57
  refine callM_by hP (sd100_0 hm19 hm59 hf60) [(6, 0), (4, 1)] false hJ rfl rfl rfl rfl rfl (.inl rfl) ?_
  cbv
  obtain ⟨l63, h62, h⟩ := bnd h
  obtain ⟨c64, n65, hl66⟩ := nameL eDev_write l63
  refine callM_by hP (s88_1 hl23 hl66 h62) [(6, 0), (5, 1)] false hJ rfl rfl rfl rfl rfl (.inl rfl) ?_
  cbv
  revert h
  refine st_del hJ (eI_kinds .i64) hm13 (k := v1) rfl fun c68 m67 hm69 h => ?_
  cbv
  refine ⟨fun _ => by kernel_rfl, ?_⟩
  cbv
  cases h
  obtain ⟨rfl, rfl⟩ := IsL.uniq hl35 hl10
  obtain rfl := hm38.trans (hm69).symm
  obtain rfl := hm41.trans (hm55).symm
  obtain rfl := hm44.trans (hm59).symm
  obtain ⟨rfl, rfl⟩ := IsL.uniq hl48 hl66
  exact ⟨_, .refl _, [], _, _, [(0, 0), (1, 1), (2, 2), (3, 3), (4, 4), (28, 6)], _, rfl, rfl, rfl, rfl, rfl, rfl⟩
theorem s81 {v1 : Int} {v2 : Int} {v3 : Int} {v4 : Int} {v5 : Int} {l6 : List TZone} {c7 : List D} {n8 : Nat} {v10 : Int} (hl9 : IsL eZone c7 n8 l6) {l11 : List TZone} {c12 : List D} {n13 : Nat} {v15 : Int} (hl14 : IsL eZone c12 n13 l11) (h : m_zone_Finish (TGeom.mk v1 v2 v3 v4 v5) l6 v10 = some (l11, v15)) : Spec Try.prog 81 [.agg [.d (.int .i64 v1), .d (.int .i64 v2), .d (.int .i64 v3), .d (.int .i64 v4), .d (.int .i64 v5)], .d (.lst c7 n8), .d (.int .i64 v10)] ⟨.tup [.own 0 n13 2, .d (.int .i64 v15)], [(0, .row c12 2 53)], 1, True⟩ := by
  refine spec_b [] Try.func81 rfl rfl rfl fun J P hJ hP => ?_
  dsimp only [m_zone_Finish] at h
  cbv
  obtain ⟨l19, h18, h⟩ := bnd h
  obtain ⟨c20, n21, hl22⟩ := nameL eZone l19
  refine call_by hP (s57 hl9 hl22 h18) hJ rfl rfl ?_
  cbv
  obtain ⟨v25, h24, h⟩ := bnd h
  refine call_by hP (s98 h24) hJ rfl rfl ?_
  cbv
  revert h
  refine st_cmp hJ fun b26 eb26 h => ?_
  cbv
  cases b26 with
  | true =>
    replace h := cnd_t h
    cbv
    cases h
    obtain ⟨rfl, rfl⟩ := IsL.uniq hl14 hl22
    exact ⟨_, .refl _, [], _, _, [(5, 0)], _, rfl, rfl, rfl, rfl, rfl, rfl⟩
  | false =>
    replace h := cnd_f h
    cbv
    revert h
    refine st_idx_pr hJ hl22 fun y27 k28 hy29 ho30 h => ?_
    obtain ⟨v31, v32⟩ := y27
    try dsimp only at h
    cbv
    refine st_ld hJ eZone_len hl22 hy29 ho30 0 (fun hJ => by subst hJ; rfl) ([.int .i64 v31]) (Nat.le_of_ble_eq_true rfl) rfl (.int .nil) rfl ?_
    cbv
    revert h
    refine st_cmp hJ fun b33 eb33 h => ?_
    cbv
    cases b33 with
    | true =>
      replace h := cnd_t h
      cbv
      cases h
      obtain ⟨rfl, rfl⟩ := IsL.uniq hl14 hl22
      exact ⟨_, .refl _, [], _, _, [(5, 0)], _, rfl, rfl, rfl, rfl, rfl, rfl⟩
    | false =>
      replace h := cnd_f h
      cbv
      revert h
      refine st_idx_pr hJ hl22 fun y34 k35 hy36 ho37 h => ?_
      obtain ⟨v38, v39⟩ := y34
      try dsimp only at h
      cbv
      revert h
      refine st_st hJ eZone_len hl22 hy36 ho37 0 (fun hJ => by subst hJ; rfl) rfl (Nat.le_of_ble_eq_true rfl) (TZone.mk 3 v39) rfl fun c41 l40 hl42 h => ?_
      cbv
      cases h
      obtain ⟨rfl, rfl⟩ := IsL.uniq hl14 hl42
      exact ⟨_, .refl _, [], _, _, [(5, 0)], _, rfl, rfl, rfl, rfl, rfl, rfl⟩
end Go.AX
