/- What functions of the program compute: each is what its Lean function says. -/
import Derived.Test.YtjpajfgdbmeiiaaQS14
import Derived.Test.YtjpajfgdbmeiiaaQS15
import Derived.Test.YtjpajfgdbmeiiaaQS16
namespace Go.AX
open Go.Proofs
set_option autoImplicit false
set_option linter.unusedVariables false
set_option maxRecDepth 100000
set_option maxHeartbeats 4000000
set_option linter.unusedSimpArgs false

theorem s34 {v1 : Int} {v2 : Int} {v3 : Int} {v4 : Int} {v5 : Int} {l6 : List Int} {c7 : List D} {n8 : Nat} {v10 : Int} {v11 : Int} {v12 : Int} (hl9 : IsL (eI .i64) c7 n8 l6) {b13 : Bool}  (h : m_law12_right (TGeom.mk v1 v2 v3 v4 v5) (TPool.mk l6 (A3.mk v10 v11 v12)) = some b13) : Spec Try.prog 34 [.agg [.d (.int .i64 v1), .d (.int .i64 v2), .d (.int .i64 v3), .d (.int .i64 v4), .d (.int .i64 v5)], .agg [.d (.lst c7 n8), .d (.int .i64 v10), .d (.int .i64 v11), .d (.int .i64 v12)]] ⟨.d (.bool b13), [], 0, True⟩ := by
  refine spec_b [] Try.func34 rfl rfl rfl fun J P hJ hP => ?_
  dsimp only [m_law12_right] at h
  cbv
  obtain ⟨b17, h16, h⟩ := bnd h
  refine call_by hP (s15 h16) hJ rfl rfl ?_
  cbv
  cases b17 with
  | true =>
    replace h := cnd_t h
    cbv
    obtain ⟨b20, h19, h⟩ := bnd h
    refine call_by hP (s56 hl9 h19) hJ rfl rfl ?_
    cbv
    cases h
    exact ⟨[], _, _, [], rfl, rfl, rfl, rfl⟩
  | false =>
    replace h := cnd_f h
    cbv
    cases h
    exact ⟨[], _, _, [], rfl, rfl, rfl, rfl⟩
theorem s38 {v1 : Int} {v2 : Int} {v3 : Int} {v4 : Int} {v5 : Int} {l6 : List Int} {c7 : List D} {n8 : Nat} {v10 : Int} {v11 : Int} {v12 : Int} {l13 : List Int} {c14 : List D} {n15 : Nat} (hl9 : IsL (eI .i64) c7 n8 l6) (hl16 : IsL (eI .i64) c14 n15 l13) {l17 : List TAt} {c18 : List D} {n19 : Nat} {l21 : List Int} {c22 : List D} {n23 : Nat} {v25 : Int} {v26 : Int} {v27 : Int} {b28 : Bool} (hl20 : IsL eAt c18 n19 l17) (hl24 : IsL (eI .i64) c22 n23 l21) (h : m_ref12_Plan (TGeom.mk v1 v2 v3 v4 v5) (TPool.mk l6 (A3.mk v10 v11 v12)) l13 = some (l17, (TPool.mk l21 (A3.mk v25 v26 v27)), b28)) : Spec Try.prog 38 [.agg [.d (.int .i64 v1), .d (.int .i64 v2), .d (.int .i64 v3), .d (.int .i64 v4), .d (.int .i64 v5)], .agg [.d (.lst c7 n8), .d (.int .i64 v10), .d (.int .i64 v11), .d (.int .i64 v12)], .d (.lst c14 n15)] ⟨.tup [.own 0 n19 2, .agg [.d (.lst c22 n23), .d (.int .i64 v25), .d (.int .i64 v26), .d (.int .i64 v27)], .d (.bool b28)], [(0, .row c18 2 34)], 1, True⟩ := by
  refine spec_b [] Try.func38 rfl rfl rfl fun J P hJ hP => ?_
  dsimp only [m_ref12_Plan] at h
  cbv
  obtain ⟨p31, q30, hp32, hf33, hq34⟩ := bnd_loop h
  clear h
  refine LoopB.mk ({x : Nat × Int × (List TAt) × (List D) × Nat × (List Int) × (List D) × Nat × Int × Int × Int // IsL eAt x.2.2.2.1 x.2.2.2.2.1 x.2.2.1 ∧ IsL (eI .i64) x.2.2.2.2.2.2.1 x.2.2.2.2.2.2.2.1 x.2.2.2.2.2.1 ∧ loopN p31 x.1 (x.2.1, x.2.2.1, x.2.2.2.2.2.1, x.2.2.2.2.2.2.2.2.1, x.2.2.2.2.2.2.2.2.2.1, x.2.2.2.2.2.2.2.2.2.2) = some q30}) (fun x => ⟨[(2, .d (.lst c14 n15)), (3, .ptr 0 0), (4, .ptr 1 0), (7, .ptr 2 0), (9, .own 4 x.1.2.2.2.2.1 2), (10, .ptr 3 0), (11, .d (.int .i64 x.1.2.1))], [(0, .box [.d (.int .i64 v1), .d (.int .i64 v2), .d (.int .i64 v3), .d (.int .i64 v4), .d (.int .i64 v5)]), (1, .box [.d (.lst c7 n8), .d (.int .i64 v10), .d (.int .i64 v11), .d (.int .i64 v12)]), (2, .box [.d .nils, .d (.int .i64 0), .d (.int .i64 0), .d (.int .i64 0)]), (3, .box [.d (.lst x.1.2.2.2.2.2.2.1 x.1.2.2.2.2.2.2.2.1), .d (.int .i64 x.1.2.2.2.2.2.2.2.2.1), .d (.int .i64 x.1.2.2.2.2.2.2.2.2.2.1), .d (.int .i64 x.1.2.2.2.2.2.2.2.2.2.2)]), (4, .row x.1.2.2.2.1 2 34)], 5, 43⟩) (fun x => x.1.1) [2, 3, 4, 7, 9, 10, 11] 4 ⟨(FUEL, 0, ([] : List TAt), [], 0, l6, c7, n8, v10, v11, v12), IsL.nil', hl9, hf33⟩ ⟨[(0, 0), (2, 1), (5, 2), (10, 3)], [.slot 9 4 2 34], ?_⟩ ?_
  · rfl
  · rintro ⟨⟨N37, v40, l41, c42, n43, l45, c46, n47, v49, v50, v51⟩, hl44, hl48, hr36⟩
    obtain ⟨M38, o35, eN39, h, hr36⟩ := loopN_step hr36
    subst eN39
    rw [hp32] at h
    try dsimp only at h ⊢
    cbv
    revert h
    refine st_len hJ hl16 fun v52 ev52 h => ?_
    cbv
    revert h
    refine st_cmp hJ fun b53 eb53 h => ?_
    cbv
    cases b53 with
    | true =>
      replace h := cnd_t h
      cbv
      revert h
      refine st_idx_lp hJ hl16 fun y54 k55 hy56 ho57 h => ?_
      cbv
      refine st_ld hJ (eI_len .i64) hl16 hy56 ho57 0 (fun hJ => by subst hJ; rfl) ([.int .i64 y54]) (Nat.le_of_ble_eq_true rfl) rfl (.int .nil) rfl ?_
      cbv
      obtain ⟨⟨⟨v61, v62⟩, ⟨l63, ⟨v67, v68, v69⟩⟩, b70⟩, h60, h⟩ := bnd h
      obtain ⟨c64, n65, hl66⟩ := nameL (eI .i64) l63
      try dsimp only at h
      refine call_by hP (s26 hl48 hl66 h60) hJ rfl rfl ?_
      cbv
      refine ⟨fun _ => by kernel_rfl, ?_⟩
      cbv
      revert h
      refine st_not hJ fun b71 eb71 h => ?_
      cbv
      cases b71 with
      | true =>
        replace h := cnd_t h
        cbv
        refine ⟨fun _ => by kernel_rfl, ?_⟩
        cbv
        cases h
        have h := hq34
        obtain rfl := hr36
        try dsimp only at h
        cases h
        obtain ⟨rfl, rfl⟩ := IsL.nil hl20
        obtain ⟨rfl, rfl⟩ := IsL.uniq hl24 hl9
        exact ⟨[.slot 6 1000000 2 34], _, _, [(1000000, 0)], rfl, rfl, rfl, rfl⟩
      | false =>
        replace h := cnd_f h
        cbv
        have hl72 : IsL eAt [.int .i64 v61, .int .i64 v62] 1 [(TAt.mk v61 v62)] := ⟨rfl, rfl⟩
        refine st_any hJ rfl rfl (by subst hJ; exact (by decide : 2 ≤ 16777216)) ?_
        cbv
        revert h
        refine st_app hJ eAt_len hl44 hl72 fun c74 n75 l73 hl76 h => ?_
        cbv
        revert h
        refine st_bin hJ fun v77 ev77 h => ?_
        cbv
        cases h
        exact ⟨⟨(M38, v77, l73, c74, n75, l63, c64, n65, v67, v68, v69), hl76, hl66, hr36⟩, [(0, 0), (1, 1), (2, 2), (3, 3), (33, 4)], 5, [], rfl, Nat.lt_succ_self _⟩
    | false =>
      replace h := cnd_f h
      cbv
      cases h
      have h := hq34
      obtain rfl := hr36
      try dsimp only at h
      refine ⟨fun _ => by kernel_rfl, ?_⟩
      cbv
      cases h
      obtain ⟨rfl, rfl⟩ := IsL.uniq hl20 hl44
      obtain ⟨rfl, rfl⟩ := IsL.uniq hl24 hl48
      exact ⟨[], _, _, [(4, 0)], rfl, rfl, rfl, rfl⟩
end Go.AX
