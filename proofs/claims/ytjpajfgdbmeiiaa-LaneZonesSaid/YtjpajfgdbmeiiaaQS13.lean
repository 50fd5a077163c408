/- What functions of the program compute: each is what its Lean function says. -/
import Derived.Test.YtjpajfgdbmeiiaaQS3
import Derived.Test.YtjpajfgdbmeiiaaQS6
import Derived.Test.YtjpajfgdbmeiiaaQS7
namespace Go.AX
open Go.Proofs
set_option autoImplicit false
set_option linter.unusedVariables false
set_option maxRecDepth 100000
set_option maxHeartbeats 4000000
set_option linter.unusedSimpArgs false

theorem s40 {v1 : Int} {v2 : Int} {v3 : Int} {v4 : Int} {v5 : Int} {l6 : List Int} {c7 : List D} {n8 : Nat} {v10 : Int} {v11 : Int} {v12 : Int} {v13 : Int} {v14 : Int} (hl9 : IsL (eI .i64) c7 n8 l6) {v15 : Int}  (h : m_lane_Zones (TGeom.mk v1 v2 v3 v4 v5) (TPool.mk l6 (A3.mk v10 v11 v12)) v13 v14 = some v15) : Spec Try.prog 40 [.agg [.d (.int .i64 v1), .d (.int .i64 v2), .d (.int .i64 v3), .d (.int .i64 v4), .d (.int .i64 v5)], .agg [.d (.lst c7 n8), .d (.int .i64 v10), .d (.int .i64 v11), .d (.int .i64 v12)], .d (.int .i64 v13), .d (.int .i64 v14)] ⟨.d (.int .i64 v15), [], 0, True⟩ := by
  refine spec_b [] Try.func40 rfl rfl rfl fun J P hJ hP => ?_
  dsimp only [m_lane_Zones] at h
  cbv
  obtain ⟨v19, h18, h⟩ := bnd h
  refine call_by hP (s17 hl9 h18) hJ rfl rfl ?_
  cbv
  revert h
  refine st_bin hJ fun v20 ev20 h => ?_
  cbv
  revert h
  refine st_cmp hJ fun b21 eb21 h => ?_
  cbv
  cases b21 with
  | true =>
    replace h := cnd_t h
    cbv
    cases h
    exact ⟨[], _, _, [], rfl, rfl, rfl, rfl⟩
  | false =>
    replace h := cnd_f h
    cbv
    revert h
    refine st_bin hJ fun v22 ev22 h => ?_
    cbv
    revert h
    refine st_bin hJ fun v23 ev23 h => ?_
    cbv
    revert h
    refine st_div hJ fun v24 zv24 ev24 h => ?_
    cbv
    cases h
    exact ⟨[], _, _, [], rfl, rfl, rfl, rfl⟩
theorem s65 {v1 : Int} {v2 : Int}  {v3 : Int} {v4 : Int}  (h : m_math_bits_Mul v1 v2 = some (v3, v4)) : Spec Try.prog 65 [.d (.int .u64 v1), .d (.int .u64 v2)] ⟨.tup [.d (.int .u64 v3), .d (.int .u64 v4)], [], 0, True⟩ := by
  refine spec_b [] Try.func65 rfl rfl rfl fun J P hJ hP => ?_
  dsimp only [m_math_bits_Mul] at h
  cbv
  obtain ⟨⟨v8, v9⟩, h7, h⟩ := bnd h
  try dsimp only at h
  refine call_by hP (s67 h7) hJ rfl rfl ?_
  cbv
  cases h
  exact ⟨[], _, _, [], rfl, rfl, rfl, rfl⟩
theorem s62 {l1 : List (List Int)} {c2 : List D} {n3 : Nat} (hl4 : IsL (eL (eI .i64)) c2 n3 l1) {l5 : List Int} {c6 : List D} {n7 : Nat} (hl8 : IsL (eI .i64) c6 n7 l5) (h : m_slices_Concat l1 = some l5) : Spec Try.prog 62 [.d (.lst c2 n3)] ⟨.own 0 n7 1, [(0, .row c6 1 3)], 1, True⟩ := by
  refine spec_b [] Try.func62 rfl rfl rfl fun J P hJ hP => ?_
  dsimp only [m_slices_Concat] at h
  cbv
  revert h
  refine st_len hJ hl4 fun v10 ev10 h => ?_
  cbv
  obtain ⟨p12, q11, hp13, hf14, hq15⟩ := bnd_loop h
  clear h
  refine LoopB.mk ({x : Nat × Int × Int // loopN p12 x.1 (x.2.1, x.2.2) = some q11}) (fun x => ⟨[(0, .d (.lst c2 n3)), (3, .d (.int .i64 x.1.2.1)), (9, .d (.lst c2 n3)), (10, .d (.int .i64 v10)), (11, .d (.int .i64 x.1.2.2))], [], 0, 36⟩) (fun x => x.1.1) [0, 3, 9, 10, 11] 0 ⟨(FUEL, 0, 0), hf14⟩ ⟨[], [], ?_⟩ ?_
  · rfl
  · rintro ⟨⟨N18, v21, v22⟩, hr17⟩
    obtain ⟨M19, o16, eN20, h, hr17⟩ := loopN_step hr17
    subst eN20
    rw [hp13] at h
    try dsimp only at h ⊢
    cbv
    revert h
    refine st_cmp hJ fun b23 eb23 h => ?_
    cbv
    cases b23 with
    | true =>
      replace h := cnd_t h
      cbv
      revert h
      refine st_idx_lp hJ hl4 fun y24 k25 hy26 ho27 h => ?_
      obtain ⟨c29, n30, hl31⟩ := nameL (eI .i64) y24
      try dsimp only at h
      cbv
      refine st_ld hJ (eL_len (eI .i64)) hl4 hy26 ho27 0 (fun hJ => by subst hJ; rfl) ([.lst c29 n30]) (Nat.le_of_ble_eq_true rfl) (by rw [hl31.cs, hl31.n]; rfl) (.slc .nil) rfl ?_
      cbv
      revert h
      refine st_len hJ hl31 fun v32 ev32 h => ?_
      cbv
      revert h
      refine st_bin hJ fun v33 ev33 h => ?_
      cbv
      revert h
      refine st_cmp hJ fun b34 eb34 h => ?_
      cbv
      cases b34 with
      | true =>
        replace h := cnd_t h
        cbv
        cases h
      | false =>
        replace h := cnd_f h
        cbv
        revert h
        refine st_bin hJ fun v35 ev35 h => ?_
        cbv
        cases h
        exact ⟨⟨(M19, v33, v35), hr17⟩, [], 0, [], rfl, Nat.lt_succ_self _⟩
    | false =>
      replace h := cnd_f h
      cbv
      cases h
      have h := hq15
      obtain rfl := hr17
      try dsimp only at h
      obtain ⟨u24, hg25, h⟩ := bnd h
      refine call_by hP (sg64 hg25) hJ rfl rfl ?_
      cbv
      revert h
      refine st_len hJ hl4 fun v26 ev26 h => ?_
      cbv
      obtain ⟨p28, q27, hp29, hf30, hq31⟩ := bnd_loop h
      clear h
      refine LoopB.mk ({x : Nat × Int × (List Int) × (List D) × Nat // IsL (eI .i64) x.2.2.2.1 x.2.2.2.2 x.2.2.1 ∧ loopN p28 x.1 (x.2.1, x.2.2.1) = some q27}) (fun x => ⟨[(6, .own 0 x.1.2.2.2.2 1), (25, .d (.lst c2 n3)), (26, .d (.int .i64 v26)), (27, .d (.int .i64 x.1.2.1))], [(0, .row x.1.2.2.2.1 1 3)], 1, 36⟩) (fun x => x.1.1) [6, 25, 26, 27] 1 ⟨(FUEL, 0, ([] : List Int), [], 0), (IsL.nil' (g := (eI .i64))), hf30⟩ ⟨[(2, 0)], [], ?_⟩ ?_
      · rfl
      · rintro ⟨⟨N34, v37, l38, c39, n40⟩, hl41, hr33⟩
        obtain ⟨M35, o32, eN36, h, hr33⟩ := loopN_step hr33
        subst eN36
        rw [hp29] at h
        try dsimp only at h ⊢
        cbv
        revert h
        refine st_cmp hJ fun b42 eb42 h => ?_
        cbv
        cases b42 with
        | true =>
          replace h := cnd_t h
          cbv
          revert h
          refine st_idx_lp hJ hl4 fun y43 k44 hy45 ho46 h => ?_
          obtain ⟨c48, n49, hl50⟩ := nameL (eI .i64) y43
          try dsimp only at h
          cbv
          refine st_ld hJ (eL_len (eI .i64)) hl4 hy45 ho46 0 (fun hJ => by subst hJ; rfl) ([.lst c48 n49]) (Nat.le_of_ble_eq_true rfl) (by rw [hl50.cs, hl50.n]; rfl) (.slc .nil) rfl ?_
          cbv
          revert h
          refine st_app hJ (eI_len .i64) hl41 hl50 fun c52 n53 l51 hl54 h => ?_
          cbv
          revert h
          refine st_bin hJ fun v55 ev55 h => ?_
          cbv
          cases h
          exact ⟨⟨(M35, v55, l51, c52, n53), hl54, hr33⟩, [(7, 0)], 1, [], rfl, Nat.lt_succ_self _⟩
        | false =>
          replace h := cnd_f h
          cbv
          cases h
          have h := hq31
          obtain rfl := hr33
          try dsimp only at h
          cases h
          obtain ⟨rfl, rfl⟩ := IsL.uniq hl8 hl41
          exact ⟨[], _, _, [(0, 0)], rfl, rfl, rfl, rfl⟩
theorem s42 {v1 : Int} {v2 : Int} {v3 : Int} {v4 : Int} {v5 : Int} {l6 : List Int} {c7 : List D} {n8 : Nat} {v10 : Int} {v11 : Int} {v12 : Int} (hl9 : IsL (eI .i64) c7 n8 l6) {v13 : Int}  (h : m_lane_Keep (TGeom.mk v1 v2 v3 v4 v5) (TPool.mk l6 (A3.mk v10 v11 v12)) = some v13) : Spec Try.prog 42 [.agg [.d (.int .i64 v1), .d (.int .i64 v2), .d (.int .i64 v3), .d (.int .i64 v4), .d (.int .i64 v5)], .agg [.d (.lst c7 n8), .d (.int .i64 v10), .d (.int .i64 v11), .d (.int .i64 v12)]] ⟨.d (.int .i64 v13), [], 0, True⟩ := by
  refine spec_b [] Try.func42 rfl rfl rfl fun J P hJ hP => ?_
  dsimp only [m_lane_Keep] at h
  cbv
  obtain ⟨v17, h16, h⟩ := bnd h
  refine call_by hP (s17 hl9 h16) hJ rfl rfl ?_
  cbv
  revert h
  refine st_cmp hJ fun b18 eb18 h => ?_
  cbv
  cases b18 with
  | true =>
    replace h := cnd_t h
    cbv
    cases h
    exact ⟨[], _, _, [], rfl, rfl, rfl, rfl⟩
  | false =>
    replace h := cnd_f h
    cbv
    cases h
    exact ⟨[], _, _, [], rfl, rfl, rfl, rfl⟩
theorem s41 {v1 : Int} {v2 : Int} {v3 : Int} {v4 : Int} {v5 : Int} {l6 : List Int} {c7 : List D} {n8 : Nat} {v10 : Int} {v11 : Int} {v12 : Int} {v13 : Int} {v14 : Int} (hl9 : IsL (eI .i64) c7 n8 l6) {v15 : Int}  (h : m_ref12_Zones (TGeom.mk v1 v2 v3 v4 v5) (TPool.mk l6 (A3.mk v10 v11 v12)) v13 v14 = some v15) : Spec Try.prog 41 [.agg [.d (.int .i64 v1), .d (.int .i64 v2), .d (.int .i64 v3), .d (.int .i64 v4), .d (.int .i64 v5)], .agg [.d (.lst c7 n8), .d (.int .i64 v10), .d (.int .i64 v11), .d (.int .i64 v12)], .d (.int .i64 v13), .d (.int .i64 v14)] ⟨.d (.int .i64 v15), [], 0, True⟩ := by
  refine spec_b [] Try.func41 rfl rfl rfl fun J P hJ hP => ?_
  dsimp only [m_ref12_Zones] at h
  cbv
  obtain ⟨v19, h18, h⟩ := bnd h
  refine call_by hP (s31 hl9 h18) hJ rfl rfl ?_
  cbv
  obtain ⟨p21, q20, hp22, hf23, hq24⟩ := bnd_loop h
  clear h
  refine LoopB.mk ({x : Nat × Int × Int // loopN p21 x.1 (x.2.1, x.2.2) = some q20}) (fun x => ⟨[(3, .d (.int .i64 v14)), (4, .ptr 0 0), (9, .d (.int .i64 x.1.2.1)), (10, .d (.int .i64 x.1.2.2))], [(0, .box [.d (.int .i64 v1), .d (.int .i64 v2), .d (.int .i64 v3), .d (.int .i64 v4), .d (.int .i64 v5)])], 1, 25⟩) (fun x => x.1.1) [3, 4, 9, 10] 1 ⟨(FUEL, v19, 0), hf23⟩ ⟨[(0, 0)], [], ?_⟩ ?_
  · rfl
  · rintro ⟨⟨N27, v30, v31⟩, hr26⟩
    obtain ⟨M28, o25, eN29, h, hr26⟩ := loopN_step hr26
    subst eN29
    rw [hp22] at h
    try dsimp only at h ⊢
    cbv
    revert h
    refine st_cmp hJ fun b32 eb32 h => ?_
    cbv
    cases b32 with
    | true =>
      replace h := cnd_t h
      cbv
      revert h
      refine st_bin hJ fun v33 ev33 h => ?_
      cbv
      revert h
      refine st_bin hJ fun v34 ev34 h => ?_
      cbv
      cases h
      exact ⟨⟨(M28, v33, v34), hr26⟩, [(0, 0)], 1, [], rfl, Nat.lt_succ_self _⟩
    | false =>
      replace h := cnd_f h
      cbv
      cases h
      have h := hq24
      obtain rfl := hr26
      try dsimp only at h
      cases h
      exact ⟨[], _, _, [], rfl, rfl, rfl, rfl⟩
end Go.AX
