/- What functions of the program compute: each is what its Lean function says. -/
import Derived.Test.YtjpajfgdbmeiiaaQS2
import Derived.Test.YtjpajfgdbmeiiaaQS21
namespace Go.AX
open Go.Proofs
set_option autoImplicit false
set_option linter.unusedVariables false
set_option maxRecDepth 100000
set_option maxHeartbeats 4000000
set_option linter.unusedSimpArgs false

theorem s37 {v1 : Int} {v2 : Int} {v3 : Int} {v4 : Int} {v5 : Int} {l6 : List Int} {c7 : List D} {n8 : Nat} {v10 : Int} {v11 : Int} {v12 : Int} {l13 : List Int} {c14 : List D} {n15 : Nat} (hl9 : IsL (eI .i64) c7 n8 l6) (hl16 : IsL (eI .i64) c14 n15 l13) {l17 : List TAt} {c18 : List D} {n19 : Nat} {l21 : List Int} {c22 : List D} {n23 : Nat} {v25 : Int} {v26 : Int} {v27 : Int} {b28 : Bool} (hl20 : IsL eAt c18 n19 l17) (hl24 : IsL (eI .i64) c22 n23 l21) (h : m_lane_Plan (TGeom.mk v1 v2 v3 v4 v5) (TPool.mk l6 (A3.mk v10 v11 v12)) l13 = some (l17, (TPool.mk l21 (A3.mk v25 v26 v27)), b28)) : Spec Try.prog 37 [.agg [.d (.int .i64 v1), .d (.int .i64 v2), .d (.int .i64 v3), .d (.int .i64 v4), .d (.int .i64 v5)], .agg [.d (.lst c7 n8), .d (.int .i64 v10), .d (.int .i64 v11), .d (.int .i64 v12)], .d (.lst c14 n15)] ⟨.tup [.own 0 n19 2, .agg [.own 1 n23 1, .d (.int .i64 v25), .d (.int .i64 v26), .d (.int .i64 v27)], .d (.bool b28)], [(0, .row c18 2 34), (1, .row c22 1 3)], 2, True⟩ := by
  refine spec_b [] Try.func37 rfl rfl rfl fun J P hJ hP => ?_
  dsimp only [m_lane_Plan] at h
  cbv
  obtain ⟨l32, h31, h⟩ := bnd h
  obtain ⟨c33, n34, hl35⟩ := nameL (eI .i64) l32
  refine call_by hP (s57 hl9 hl35 h31) hJ rfl rfl ?_
  cbv
  revert h
  refine st_len hJ hl16 fun v36 ev36 h => ?_
  cbv
  obtain ⟨p38, q37, hp39, hf40, hq41⟩ := bnd_loop h
  clear h
  refine LoopB.mk ({x : Nat × Int × (List TAt) × (List D) × Nat × Int × Int × Int × (List Int) × (List D) × Nat // IsL eAt x.2.2.2.1 x.2.2.2.2.1 x.2.2.1 ∧ IsL (eI .i64) x.2.2.2.2.2.2.2.2.2.1 x.2.2.2.2.2.2.2.2.2.2 x.2.2.2.2.2.2.2.2.1 ∧ loopN p38 x.1 (x.2.1, x.2.2.1, x.2.2.2.2.2.1, x.2.2.2.2.2.2.1, x.2.2.2.2.2.2.2.1, x.2.2.2.2.2.2.2.2.1) = some q37}) (fun x => ⟨[(3, .ptr 0 0), (4, .ptr 1 0), (7, .ptr 2 0), (9, .own 5 x.1.2.2.2.2.1 2), (10, .ptr 3 0), (22, .d (.lst c14 n15)), (23, .d (.int .i64 v36)), (24, .d (.int .i64 x.1.2.1))], [(0, .box [.d (.int .i64 v1), .d (.int .i64 v2), .d (.int .i64 v3), .d (.int .i64 v4), .d (.int .i64 v5)]), (1, .box [.d (.lst c7 n8), .d (.int .i64 v10), .d (.int .i64 v11), .d (.int .i64 v12)]), (2, .box [.d .nils, .d (.int .i64 0), .d (.int .i64 0), .d (.int .i64 0)]), (3, .box [.own 4 x.1.2.2.2.2.2.2.2.2.2.2 1, .d (.int .i64 x.1.2.2.2.2.2.1), .d (.int .i64 x.1.2.2.2.2.2.2.1), .d (.int .i64 x.1.2.2.2.2.2.2.2.1)]), (4, .row x.1.2.2.2.2.2.2.2.2.2.1 1 3), (5, .row x.1.2.2.2.1 2 34)], 6, 52⟩) (fun x => x.1.1) [3, 4, 7, 9, 10, 22, 23, 24] 5 ⟨(FUEL, 0, ([] : List TAt), [], 0, v10, v11, v12, l32, c33, n34), IsL.nil', hl35, hf40⟩ ⟨[(0, 0), (2, 1), (5, 2), (10, 3), (15, 4)], [.slot 9 5 2 34], ?_⟩ ?_
  · rfl
  · rintro ⟨⟨N44, v47, l48, c49, n50, v52, v53, v54, l55, c56, n57⟩, hl51, hl58, hr43⟩
    obtain ⟨M45, o42, eN46, h, hr43⟩ := loopN_step hr43
    subst eN46
    rw [hp39] at h
    try dsimp only at h ⊢
    cbv
    revert h
    refine st_cmp hJ fun b59 eb59 h => ?_
    cbv
    cases b59 with
    | true =>
      replace h := cnd_t h
      cbv
      revert h
      refine st_idx_lp hJ hl16 fun y60 k61 hy62 ho63 h => ?_
      cbv
      refine st_ld hJ (eI_len .i64) hl16 hy62 ho63 0 (fun hJ => by subst hJ; rfl) ([.int .i64 y60]) (Nat.le_of_ble_eq_true rfl) rfl (.int .nil) rfl ?_
      cbv
      obtain ⟨⟨⟨v67, v68⟩, ⟨l69, ⟨v73, v74, v75⟩⟩, b76⟩, h66, h⟩ := bnd h
      obtain ⟨c70, n71, hl72⟩ := nameL (eI .i64) l69
      try dsimp only at h
      refine snap_by hP (s19 hl58 hl72 h66) hJ (by cbv) rfl ⟨by simp [V.noL, noLs, D.noL], ⟨noL_enc hl72 (eI_noL .i64), trivial⟩⟩ ?_
      cbv
      revert h
      refine st_not hJ fun b77 eb77 h => ?_
      cbv
      cases b77 with
      | true =>
        replace h := cnd_t h
        cbv
        obtain ⟨l80, h79, h⟩ := bnd h
        obtain ⟨c81, n82, hl83⟩ := nameL (eI .i64) l80
        refine call_by hP (s57 hl9 hl83 h79) hJ rfl rfl ?_
        cbv
        refine ⟨fun _ => by kernel_rfl, ?_⟩
        cbv
        cases h
        have h := hq41
        obtain rfl := hr43
        try dsimp only at h
        cases h
        obtain ⟨rfl, rfl⟩ := IsL.nil hl20
        obtain ⟨rfl, rfl⟩ := IsL.uniq hl24 hl83
        exact ⟨[.slot 6 1000000 2 34], _, _, [(1000000, 0), (34, 1)], rfl, rfl, rfl, rfl⟩
      | false =>
        replace h := cnd_f h
        cbv
        have hl78 : IsL eAt [.int .i64 v67, .int .i64 v68] 1 [(TAt.mk v67 v68)] := ⟨rfl, rfl⟩
        refine st_any hJ rfl rfl (by subst hJ; exact (by decide : 2 ≤ 16777216)) ?_
        cbv
        revert h
        refine st_app hJ eAt_len hl51 hl78 fun c80 n81 l79 hl82 h => ?_
        cbv
        refine ⟨fun _ => by kernel_rfl, ?_⟩
        cbv
        revert h
        refine st_bin hJ fun v83 ev83 h => ?_
        cbv
        cases h
        exact ⟨⟨(M45, v83, l79, c80, n81, v73, v74, v75, l69, c70, n71), hl82, hl72, hr43⟩, [(0, 0), (1, 1), (2, 2), (3, 3), (13, 4), (32, 5)], 6, [], rfl, Nat.lt_succ_self _⟩
    | false =>
      replace h := cnd_f h
      cbv
      cases h
      have h := hq41
      obtain rfl := hr43
      try dsimp only at h
      refine ⟨fun _ => by kernel_rfl, ?_⟩
      cbv
      cases h
      obtain ⟨rfl, rfl⟩ := IsL.uniq hl20 hl51
      obtain ⟨rfl, rfl⟩ := IsL.uniq hl24 hl58
      exact ⟨[], _, _, [(5, 0), (4, 1)], rfl, rfl, rfl, rfl⟩
end Go.AX
