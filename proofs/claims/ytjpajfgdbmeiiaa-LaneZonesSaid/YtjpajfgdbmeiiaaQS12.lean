/- What functions of the program compute: each is what its Lean function says. -/
import Derived.Test.YtjpajfgdbmeiiaaQS3
import Derived.Test.YtjpajfgdbmeiiaaQS6
namespace Go.AX
open Go.Proofs
set_option autoImplicit false
set_option linter.unusedVariables false
set_option maxRecDepth 100000
set_option maxHeartbeats 4000000
set_option linter.unusedSimpArgs false

theorem s29 {v1 : Int} {v2 : Int} {v3 : Int} {v4 : Int} {v5 : Int} {l6 : List Int} {c7 : List D} {n8 : Nat} {v10 : Int} {v11 : Int} {v12 : Int} {v13 : Int} (hl9 : IsL (eI .i64) c7 n8 l6) {l14 : List Int} {c15 : List D} {n16 : Nat} (hl17 : IsL (eI .i64) c15 n16 l14) (h : m_ref11_Zones (TGeom.mk v1 v2 v3 v4 v5) (TPool.mk l6 (A3.mk v10 v11 v12)) v13 = some l14) : Spec Try.prog 29 [.agg [.d (.int .i64 v1), .d (.int .i64 v2), .d (.int .i64 v3), .d (.int .i64 v4), .d (.int .i64 v5)], .agg [.d (.lst c7 n8), .d (.int .i64 v10), .d (.int .i64 v11), .d (.int .i64 v12)], .d (.int .i64 v13)] ⟨.own 0 n16 1, [(0, .row c15 1 3)], 1, True⟩ := by
  refine spec_b [12] Try.func29 rfl rfl rfl fun J P hJ hP => ?_
  dsimp only [m_ref11_Zones] at h
  cbv
  obtain ⟨p20, q19, hp21, hf22, hq23⟩ := bnd_loop h
  clear h
  refine LoopB.mk ({x : Nat × Int × (List Int) × (List D) × Nat // IsL (eI .i64) x.2.2.2.1 x.2.2.2.2 x.2.2.1 ∧ loopN p20 x.1 (x.2.1, x.2.2.1) = some q19}) (fun x => ⟨[(2, .d (.int .i64 v13)), (3, .ptr 0 0), (4, .ptr 1 0), (7, .own 2 x.1.2.2.2.2 1), (8, .d (.int .i64 x.1.2.1))], [(0, .box [.d (.int .i64 v1), .d (.int .i64 v2), .d (.int .i64 v3), .d (.int .i64 v4), .d (.int .i64 v5)]), (1, .box [.d (.lst c7 n8), .d (.int .i64 v10), .d (.int .i64 v11), .d (.int .i64 v12)]), (2, .row x.1.2.2.2.1 1 3)], 3, 40⟩) (fun x => x.1.1) [2, 3, 4, 7, 8] 2 ⟨(FUEL, 0, ([] : List Int), [], 0), IsL.nil', hf22⟩ ⟨[(0, 0), (2, 1)], [.slot 7 2 1 3], ?_⟩ ?_
  · rfl
  · rintro ⟨⟨N26, v29, l30, c31, n32⟩, hl33, hr25⟩
    obtain ⟨M27, o24, eN28, h, hr25⟩ := loopN_step hr25
    subst eN28
    rw [hp21] at h
    try dsimp only at h ⊢
    cbv
    revert h
    refine st_len hJ hl9 fun v34 ev34 h => ?_
    cbv
    revert h
    refine st_cmp hJ fun b35 eb35 h => ?_
    cbv
    cases b35 with
    | true =>
      replace h := cnd_t h
      cbv
      obtain ⟨j37, hj38, h⟩ := jn h
      refine JoinP.mk ({x : Bool // j37 (x) = some o24}) (fun x => ⟨[(2, .d (.int .i64 v13)), (3, .ptr 0 0), (4, .ptr 1 0), (7, .own 2 n32 1), (8, .d (.int .i64 v29)), (31, .d (.bool x.1))], [(0, .box [.d (.int .i64 v1), .d (.int .i64 v2), .d (.int .i64 v3), .d (.int .i64 v4), .d (.int .i64 v5)]), (1, .box [.d (.lst c7 n8), .d (.int .i64 v10), .d (.int .i64 v11), .d (.int .i64 v12)]), (2, .row c31 1 3)], 3, 40⟩) (fun _ => True) [2, 3, 4, 7, 8, 31] ?_ ?_
      · cbv
        revert h
        refine st_idx_lp hJ hl9 fun y39 k40 hy41 ho42 h => ?_
        cbv
        refine st_ld hJ (eI_len .i64) hl9 hy41 ho42 0 (fun hJ => by subst hJ; rfl) ([.int .i64 y39]) (Nat.le_of_ble_eq_true rfl) rfl (.int .nil) rfl ?_
        cbv
        revert h
        refine st_cmp hJ fun b44 eb44 h => ?_
        cbv
        cases b44 with
        | true =>
          replace h := cnd_t h
          cbv
          revert h
          refine st_bin hJ fun v45 ev45 h => ?_
          cbv
          obtain ⟨b48, h47, h⟩ := bnd h
          refine call_by hP (s49 hl9 h47) hJ rfl rfl ?_
          cbv
          revert h
          refine st_not hJ fun b49 eb49 h => ?_
          cbv
          exact ⟨⟨(b49), h⟩, [(0, 0), (1, 1), (2, 2)], 3, [], rfl, trivial⟩
        | false =>
          replace h := cnd_f h
          cbv
          exact ⟨⟨(false), h⟩, [(0, 0), (1, 1), (2, 2)], 3, [], rfl, trivial⟩
      · rintro ⟨b39, h⟩ -
        rw [hj38] at h
        try dsimp only at h ⊢
        cbv
        cases b39 with
        | true =>
          replace h := cnd_t h
          cbv
          revert h
          refine st_bin hJ fun v40 ev40 h => ?_
          cbv
          have hl41 : IsL (eI .i64) [.int .i64 v40] 1 [v40] := ⟨rfl, rfl⟩
          refine st_any hJ rfl rfl (by subst hJ; exact (by decide : 1 ≤ 16777216)) ?_
          cbv
          revert h
          refine st_app hJ (eI_len .i64) hl33 hl41 fun c43 n44 l42 hl45 h => ?_
          cbv
          revert h
          refine st_bin hJ fun v46 ev46 h => ?_
          cbv
          cases h
          exact ⟨⟨(M27, v46, l42, c43, n44), hl45, hr25⟩, [(0, 0), (1, 1), (10, 2)], 3, [], rfl, Nat.lt_succ_self _⟩
        | false =>
          replace h := cnd_f h
          cbv
          revert h
          refine st_bin hJ fun v40 ev40 h => ?_
          cbv
          cases h
          exact ⟨⟨(M27, v40, l30, c31, n32), hl33, hr25⟩, [(0, 0), (1, 1), (2, 2)], 3, [], rfl, Nat.lt_succ_self _⟩
    | false =>
      replace h := cnd_f h
      cbv
      cases h
      have h := hq23
      obtain rfl := hr25
      try dsimp only at h
      cases h
      obtain ⟨rfl, rfl⟩ := IsL.uniq hl17 hl33
      exact ⟨[], _, _, [(2, 0)], rfl, rfl, rfl, rfl⟩
theorem s27 {v1 : Int} {v2 : Int} {v3 : Int} {v4 : Int} {v5 : Int} {l6 : List Int} {c7 : List D} {n8 : Nat} {v10 : Int} {v11 : Int} {v12 : Int} {v13 : Int} (hl9 : IsL (eI .i64) c7 n8 l6) {l14 : List Int} {c15 : List D} {n16 : Nat} {v18 : Int} {v19 : Int} {v20 : Int} {b21 : Bool} (hl17 : IsL (eI .i64) c15 n16 l14) (h : m_ref11_Reset (TGeom.mk v1 v2 v3 v4 v5) (TPool.mk l6 (A3.mk v10 v11 v12)) v13 = some ((TPool.mk l14 (A3.mk v18 v19 v20)), b21)) : Spec Try.prog 27 [.agg [.d (.int .i64 v1), .d (.int .i64 v2), .d (.int .i64 v3), .d (.int .i64 v4), .d (.int .i64 v5)], .agg [.d (.lst c7 n8), .d (.int .i64 v10), .d (.int .i64 v11), .d (.int .i64 v12)], .d (.int .i64 v13)] ⟨.tup [.agg [.d (.lst c15 n16), .d (.int .i64 v18), .d (.int .i64 v19), .d (.int .i64 v20)], .d (.bool b21)], [], 0, True⟩ := by
  refine spec_b [6] Try.func27 rfl rfl rfl fun J P hJ hP => ?_
  dsimp only [m_ref11_Reset] at h
  cbv
  obtain ⟨j24, hj25, h⟩ := jn h
  refine JoinP.mk ({x : Unit // j24 () = some ((TPool.mk l14 (A3.mk v18 v19 v20)), b21)}) (fun x => ⟨[(2, .d (.int .i64 v13)), (3, .ptr 0 0), (4, .ptr 1 0), (6, .ptr 2 0)], [(0, .box [.d (.int .i64 v1), .d (.int .i64 v2), .d (.int .i64 v3), .d (.int .i64 v4), .d (.int .i64 v5)]), (1, .box [.d (.lst c7 n8), .d (.int .i64 v10), .d (.int .i64 v11), .d (.int .i64 v12)]), (2, .box [.d .nils, .d (.int .i64 0), .d (.int .i64 0), .d (.int .i64 0)])], 3, 39⟩) (fun _ => True) [2, 3, 4, 6] ?_ ?_
  · cbv
    revert h
    refine st_cmp hJ fun b26 eb26 h => ?_
    cbv
    cases b26 with
    | true =>
      replace h := cnd_t h
      cbv
      refine ⟨fun _ => by kernel_rfl, ?_⟩
      cbv
      cases h
      obtain ⟨rfl, rfl⟩ := IsL.uniq hl17 hl9
      exact ⟨[], _, _, [], rfl, rfl, rfl, rfl⟩
    | false =>
      replace h := cnd_f h
      cbv
      revert h
      refine st_bin hJ fun v27 ev27 h => ?_
      cbv
      revert h
      refine st_cmp hJ fun b28 eb28 h => ?_
      cbv
      cases b28 with
      | true =>
        replace h := cnd_t h
        cbv
        refine ⟨fun _ => by kernel_rfl, ?_⟩
        cbv
        cases h
        obtain ⟨rfl, rfl⟩ := IsL.uniq hl17 hl9
        exact ⟨[], _, _, [], rfl, rfl, rfl, rfl⟩
      | false =>
        replace h := cnd_f h
        cbv
        revert h
        refine st_bin hJ fun v29 ev29 h => ?_
        cbv
        revert h
        refine st_idx_lp hJ hl9 fun y30 k31 hy32 ho33 h => ?_
        cbv
        refine st_ld hJ (eI_len .i64) hl9 hy32 ho33 0 (fun hJ => by subst hJ; rfl) ([.int .i64 y30]) (Nat.le_of_ble_eq_true rfl) rfl (.int .nil) rfl ?_
        cbv
        revert h
        refine st_cmp hJ fun b35 eb35 h => ?_
        cbv
        refine ⟨fun _ => by kernel_rfl, ?_⟩
        cbv
        cases b35 with
        | true =>
          replace h := cnd_t h
          cbv
          cases h
          obtain ⟨rfl, rfl⟩ := IsL.uniq hl17 hl9
          exact ⟨[], _, _, [], rfl, rfl, rfl, rfl⟩
        | false =>
          replace h := cnd_f h
          cbv
          exact ⟨⟨(), h⟩, [(0, 0), (2, 1), (4, 2)], 3, [], rfl, trivial⟩
  · rintro ⟨_, h⟩ -
    rw [hj25] at h
    try dsimp only at h ⊢
    cbv
    obtain ⟨⟨l28, ⟨v32, v33, v34⟩⟩, h27, h⟩ := bnd h
    obtain ⟨c29, n30, hl31⟩ := nameL (eI .i64) l28
    try dsimp only at h
    refine call_by hP (s55 hl9 hl31 h27) hJ rfl rfl ?_
    cbv
    cases h
    obtain ⟨rfl, rfl⟩ := IsL.uniq hl17 hl31
    exact ⟨[], _, _, [], rfl, rfl, rfl, rfl⟩
end Go.AX
