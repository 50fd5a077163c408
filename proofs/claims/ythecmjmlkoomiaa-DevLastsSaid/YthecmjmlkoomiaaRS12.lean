/- What functions of the program compute: each is what its Lean function says. -/
import Derived.Test.YthecmjmlkoomiaaRS1
import Derived.Test.YthecmjmlkoomiaaRS4
import Derived.Test.YthecmjmlkoomiaaRS5
namespace Go.AX
open Go.Proofs
set_option autoImplicit false
set_option linter.unusedVariables false
set_option maxRecDepth 100000
set_option maxHeartbeats 100000000
set_option linter.unusedSimpArgs false

theorem s89 {l1 : List TZone} {c2 : List D} {n3 : Nat} (hl4 : IsL eZone c2 n3 l1) {l5 : List TZone} {c6 : List D} {n7 : Nat} (hl8 : IsL eZone c6 n7 l5) (h : m_zone_Power l1 = some l5) : Spec Try.prog 89 [.d (.lst c2 n3)] ⟨.own 0 n7 2, [(0, .row c6 2 53)], 1, True⟩ := by
  refine spec_b [] Try.func89 rfl rfl rfl fun J P hJ hP => ?_
  dsimp only [m_zone_Power] at h
  cbv
  obtain ⟨l12, h11, h⟩ := bnd h
  obtain ⟨c13, n14, hl15⟩ := nameL eZone l12
  refine call_by hP (s57 hl4 hl15 h11) hJ rfl rfl ?_
  cbv
  revert h
  refine st_len hJ hl15 fun v16 ev16 h => ?_
  cbv
  obtain ⟨p18, q17, hp19, hf20, hq21⟩ := bnd_loop h
  clear h
  refine LoopB.mk ({x : Nat × Int × (List TZone) × (List D) × Nat // IsL eZone x.2.2.2.1 x.2.2.2.2 x.2.2.1 ∧ loopN p18 x.1 (x.2.1, x.2.2.1) = some q17}) (fun x => ⟨[(3, .own 0 x.1.2.2.2.2 2), (8, .d (.int .i64 v16)), (9, .d (.int .i64 x.1.2.1))], [(0, .row x.1.2.2.2.1 2 53)], 1, 24⟩) (fun x => x.1.1) [3, 8, 9] 1 ⟨(FUEL, 0, l12, c13, n14), hl15, hf20⟩ ⟨[(2, 0)], [], ?_⟩ ?_
  · rfl
  · rintro ⟨⟨N24, v27, l28, c29, n30⟩, hl31, hr23⟩
    obtain ⟨M25, o22, eN26, h, hr23⟩ := loopN_step hr23
    subst eN26
    rw [hp19] at h
    try dsimp only at h ⊢
    cbv
    revert h
    refine st_cmp hJ fun b32 eb32 h => ?_
    cbv
    cases b32 with
    | true =>
      replace h := cnd_t h
      cbv
      revert h
      refine st_idx_pr hJ hl31 fun y33 k34 hy35 ho36 h => ?_
      obtain ⟨v37, v38⟩ := y33
      try dsimp only at h
      cbv
      refine st_ld hJ eZone_len hl31 hy35 ho36 0 (fun hJ => by subst hJ; rfl) ([.int .i64 v37]) (Nat.le_of_ble_eq_true rfl) rfl (.int .nil) rfl ?_
      cbv
      revert h
      refine st_cmp hJ fun b39 eb39 h => ?_
      cbv
      cases b39 with
      | true =>
        replace h := cnd_t h
        cbv
        revert h
        refine st_idx_pr hJ hl31 fun y40 k41 hy42 ho43 h => ?_
        obtain ⟨v44, v45⟩ := y40
        try dsimp only at h
        cbv
        obtain ⟨l48, h47, h⟩ := bnd h
        obtain ⟨c49, n50, hl51⟩ := nameL eZone l48
        obtain ⟨_, h53, h⟩ := bnd h
        obtain rfl := lenq_n h53 hl51 hl31
        refine callM_by hP (s103 hl31 hy42 ho43 hl51 h47) [(0, 0)] false hJ rfl rfl rfl rfl rfl (.inl rfl) ?_
        cbv
        revert h
        refine st_bin hJ fun v52 ev52 h => ?_
        cbv
        cases h
        exact ⟨⟨(M25, v52, l48, c49, n30), hl51, hr23⟩, [(0, 0)], 1, [], rfl, Nat.lt_succ_self _⟩
      | false =>
        replace h := cnd_f h
        cbv
        revert h
        refine st_bin hJ fun v40 ev40 h => ?_
        cbv
        cases h
        exact ⟨⟨(M25, v40, l28, c29, n30), hl31, hr23⟩, [(0, 0)], 1, [], rfl, Nat.lt_succ_self _⟩
    | false =>
      replace h := cnd_f h
      cbv
      cases h
      have h := hq21
      obtain rfl := hr23
      try dsimp only at h
      cases h
      obtain ⟨rfl, rfl⟩ := IsL.uniq hl8 hl31
      exact ⟨_, .refl _, [], _, _, [(0, 0)], _, rfl, rfl, rfl, rfl, rfl, rfl⟩
theorem s76 {v1 : Int} {v2 : Int} {v3 : Int} {v4 : Int} {v5 : Int}  {v6 : Int}  (h : m_ref03_Pages (TGeom.mk v1 v2 v3 v4 v5) = some v6) : Spec Try.prog 76 [.agg [.d (.int .i64 v1), .d (.int .i64 v2), .d (.int .i64 v3), .d (.int .i64 v4), .d (.int .i64 v5)]] ⟨.d (.int .i64 v6), [], 0, True⟩ := by
  refine spec_b [] Try.func76 rfl rfl rfl fun J P hJ hP => ?_
  dsimp only [m_ref03_Pages] at h
  cbv
  obtain ⟨p9, q8, hp10, hf11, hq12⟩ := bnd_loop h
  clear h
  refine LoopB.mk ({x : Nat × Int // loopN p9 x.1 (x.2) = some q8}) (fun x => ⟨[(1, .ptr 0 0), (3, .d (.int .i64 x.1.2))], [(0, .box [.d (.int .i64 v1), .d (.int .i64 v2), .d (.int .i64 v3), .d (.int .i64 v4), .d (.int .i64 v5)])], 1, 12⟩) (fun x => x.1.1) [1, 3] 1 ⟨(FUEL, 0), hf11⟩ ⟨[(0, 0)], [], ?_⟩ ?_
  · rfl
  · rintro ⟨⟨N15, v18⟩, hr14⟩
    obtain ⟨M16, o13, eN17, h, hr14⟩ := loopN_step hr14
    subst eN17
    rw [hp10] at h
    try dsimp only at h ⊢
    cbv
    revert h
    refine st_bin hJ fun v19 ev19 h => ?_
    cbv
    obtain ⟨v22, h21, h⟩ := bnd h
    refine call_by hP (s97 h21) hJ rfl rfl ?_
    cbv
    revert h
    refine st_cmp hJ fun b23 eb23 h => ?_
    cbv
    cases b23 with
    | true =>
      replace h := cnd_t h
      cbv
      revert h
      refine st_bin hJ fun v24 ev24 h => ?_
      cbv
      cases h
      exact ⟨⟨(M16, v24), hr14⟩, [(0, 0)], 1, [], rfl, Nat.lt_succ_self _⟩
    | false =>
      replace h := cnd_f h
      cbv
      cases h
      have h := hq12
      obtain rfl := hr14
      try dsimp only at h
      cases h
      exact ⟨_, .refl _, [], _, _, [], _, rfl, rfl, rfl, rfl, rfl, rfl⟩
theorem s14 {v1 : Int} {v2 : Int} {v3 : Int} {v4 : Int} {v5 : Int}  {v6 : Int} {v7 : Int} {v8 : Int} {v9 : Int} {v10 : Int} {l11 : List TZone} {c12 : List D} {n13 : Nat} {l15 : List Int} {c16 : List D} {n17 : Nat} {l19 : List TRef05_Cell} {c20 : List D} {n21 : Nat} {l23 : List TRef05_Cell} {c24 : List D} {n25 : Nat} {b27 : Bool} {v28 : Int} {b29 : Bool} {v30 : Int} (hl14 : IsL eZone c12 n13 l11) (hl18 : IsL (eI .i64) c16 n17 l15) (hl22 : IsL eRef05_Cell c20 n21 l19) (hl26 : IsL eRef05_Cell c24 n25 l23) (h : m_ref05_New (TGeom.mk v1 v2 v3 v4 v5) = some (TRef05_Disk.mk (TGeom.mk v6 v7 v8 v9 v10) l11 l15 l19 l23 b27 v28 b29 v30)) : Spec Try.prog 14 [.agg [.d (.int .i64 v1), .d (.int .i64 v2), .d (.int .i64 v3), .d (.int .i64 v4), .d (.int .i64 v5)]] ⟨.agg [.d (.int .i64 v6), .d (.int .i64 v7), .d (.int .i64 v8), .d (.int .i64 v9), .d (.int .i64 v10), .own 0 n13 2, .d .nils, .d .nils, .d .nils, .d (.bool b27), .d (.int .i64 v28), .d (.bool b29), .d (.int .i64 v30)], [(0, .row c12 2 53)], 1, True⟩ := by
  refine spec_b [] Try.func14 rfl rfl rfl fun J P hJ hP => ?_
  dsimp only [m_ref05_New] at h
  cbv
  obtain ⟨l34, h33, h⟩ := bnd h
  obtain ⟨c35, n36, hl37⟩ := nameL eZone l34
  refine call_by hP (s45 hl37 h33) hJ rfl rfl ?_
  cbv
  refine ⟨fun _ => by kernel_rfl, ?_⟩
  cbv
  cases h
  obtain ⟨rfl, rfl⟩ := IsL.uniq hl14 hl37
  obtain ⟨rfl, rfl⟩ := IsL.nil hl18
  obtain ⟨rfl, rfl⟩ := IsL.nil hl22
  obtain ⟨rfl, rfl⟩ := IsL.nil hl26
  exact ⟨_, .refl _, [], _, _, [(6, 0)], _, rfl, rfl, rfl, rfl, rfl, rfl⟩
end Go.AX
