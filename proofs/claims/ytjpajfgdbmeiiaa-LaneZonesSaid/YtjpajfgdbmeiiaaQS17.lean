/- What functions of the program compute: each is what its Lean function says. -/
import Derived.Test.YtjpajfgdbmeiiaaQS14
namespace Go.AX
open Go.Proofs
set_option autoImplicit false
set_option linter.unusedVariables false
set_option maxRecDepth 100000
set_option maxHeartbeats 4000000
set_option linter.unusedSimpArgs false

theorem s50 {v1 : Int} {v2 : Int} {v3 : Int} {v4 : Int} {v5 : Int} {l6 : List Int} {c7 : List D} {n8 : Nat} {v10 : Int} {v11 : Int} {v12 : Int} {v13 : Int} (hl9 : IsL (eI .i64) c7 n8 l6) {l14 : List Int} {c15 : List D} {n16 : Nat} (hl17 : IsL (eI .i64) c15 n16 l14) (h : m_pool_zones (TGeom.mk v1 v2 v3 v4 v5) (TPool.mk l6 (A3.mk v10 v11 v12)) v13 = some l14) : Spec Try.prog 50 [.agg [.d (.int .i64 v1), .d (.int .i64 v2), .d (.int .i64 v3), .d (.int .i64 v4), .d (.int .i64 v5)], .agg [.d (.lst c7 n8), .d (.int .i64 v10), .d (.int .i64 v11), .d (.int .i64 v12)], .d (.int .i64 v13)] ⟨.own 0 n16 1, [(0, .row c15 1 3)], 1, True⟩ := by
  refine spec_b [12] Try.func50 rfl rfl rfl fun J P hJ hP => ?_
  dsimp only [m_pool_zones] at h
  cbv
  revert h
  refine st_len hJ hl9 fun v19 ev19 h => ?_
  cbv
  obtain ⟨p21, q20, hp22, hf23, hq24⟩ := bnd_loop h
  clear h
  refine LoopB.mk ({x : Nat × Int × (List Int) × (List D) × Nat // IsL (eI .i64) x.2.2.2.1 x.2.2.2.2 x.2.2.1 ∧ loopN p21 x.1 (x.2.1, x.2.2.1) = some q20}) (fun x => ⟨[(2, .d (.int .i64 v13)), (3, .ptr 0 0), (4, .ptr 1 0), (7, .own 2 x.1.2.2.2.2 1), (11, .d (.lst c7 n8)), (12, .d (.int .i64 v19)), (13, .d (.int .i64 x.1.2.1))], [(0, .box [.d (.int .i64 v1), .d (.int .i64 v2), .d (.int .i64 v3), .d (.int .i64 v4), .d (.int .i64 v5)]), (1, .box [.d (.lst c7 n8), .d (.int .i64 v10), .d (.int .i64 v11), .d (.int .i64 v12)]), (2, .row x.1.2.2.2.1 1 3)], 3, 39⟩) (fun x => x.1.1) [2, 3, 4, 7, 11, 12, 13] 2 ⟨(FUEL, 0, ([] : List Int), [], 0), IsL.nil', hf23⟩ ⟨[(0, 0), (2, 1)], [.slot 7 2 1 3], ?_⟩ ?_
  · rfl
  · rintro ⟨⟨N27, v30, l31, c32, n33⟩, hl34, hr26⟩
    obtain ⟨M28, o25, eN29, h, hr26⟩ := loopN_step hr26
    subst eN29
    rw [hp22] at h
    try dsimp only at h ⊢
    cbv
    revert h
    refine st_cmp hJ fun b35 eb35 h => ?_
    cbv
    cases b35 with
    | true =>
      replace h := cnd_t h
      cbv
      revert h
      refine st_idx_lp hJ hl9 fun y36 k37 hy38 ho39 h => ?_
      cbv
      refine st_ld hJ (eI_len .i64) hl9 hy38 ho39 0 (fun hJ => by subst hJ; rfl) ([.int .i64 y36]) (Nat.le_of_ble_eq_true rfl) rfl (.int .nil) rfl ?_
      cbv
      obtain ⟨j42, hj43, h⟩ := jn h
      refine JoinP.mk ({x : Bool // j42 (x) = some o25}) (fun x => ⟨[(2, .d (.int .i64 v13)), (3, .ptr 0 0), (4, .ptr 1 0), (7, .own 2 n33 1), (8, .d (.int .i64 v30)), (11, .d (.lst c7 n8)), (12, .d (.int .i64 v19)), (13, .d (.int .i64 v30)), (29, .d (.bool x.1))], [(0, .box [.d (.int .i64 v1), .d (.int .i64 v2), .d (.int .i64 v3), .d (.int .i64 v4), .d (.int .i64 v5)]), (1, .box [.d (.lst c7 n8), .d (.int .i64 v10), .d (.int .i64 v11), .d (.int .i64 v12)]), (2, .row c32 1 3)], 3, 39⟩) (fun _ => True) [2, 3, 4, 7, 8, 11, 12, 13, 29] ?_ ?_
      · cbv
        revert h
        refine st_cmp hJ fun b44 eb44 h => ?_
        cbv
        cases b44 with
        | true =>
          replace h := cnd_t h
          cbv
          revert h
          refine st_bin hJ fun v45 ev45 h => ?_
          cbv
          obtain ⟨b48, h47, h⟩ := bnd h
          refine call_by hP (s54 hl9 h47) hJ rfl rfl ?_
          cbv
          revert h
          refine st_not hJ fun b49 eb49 h => ?_
          cbv
          exact ⟨⟨(b49), h⟩, [(0, 0), (1, 1), (2, 2)], 3, [], rfl, trivial⟩
        | false =>
          replace h := cnd_f h
          cbv
          exact ⟨⟨(false), h⟩, [(0, 0), (1, 1), (2, 2)], 3, [], rfl, trivial⟩
      · rintro ⟨b44, h⟩ -
        rw [hj43] at h
        try dsimp only at h ⊢
        cbv
        cases b44 with
        | true =>
          replace h := cnd_t h
          cbv
          revert h
          refine st_bin hJ fun v45 ev45 h => ?_
          cbv
          have hl46 : IsL (eI .i64) [.int .i64 v45] 1 [v45] := ⟨rfl, rfl⟩
          refine st_any hJ rfl rfl (by subst hJ; exact (by decide : 1 ≤ 16777216)) ?_
          cbv
          revert h
          refine st_app hJ (eI_len .i64) hl34 hl46 fun c48 n49 l47 hl50 h => ?_
          cbv
          revert h
          refine st_bin hJ fun v51 ev51 h => ?_
          cbv
          cases h
          exact ⟨⟨(M28, v51, l47, c48, n49), hl50, hr26⟩, [(0, 0), (1, 1), (10, 2)], 3, [], rfl, Nat.lt_succ_self _⟩
        | false =>
          replace h := cnd_f h
          cbv
          revert h
          refine st_bin hJ fun v45 ev45 h => ?_
          cbv
          cases h
          exact ⟨⟨(M28, v45, l31, c32, n33), hl34, hr26⟩, [(0, 0), (1, 1), (2, 2)], 3, [], rfl, Nat.lt_succ_self _⟩
    | false =>
      replace h := cnd_f h
      cbv
      cases h
      have h := hq24
      obtain rfl := hr26
      try dsimp only at h
      cases h
      obtain ⟨rfl, rfl⟩ := IsL.uniq hl17 hl34
      exact ⟨[], _, _, [(2, 0)], rfl, rfl, rfl, rfl⟩
end Go.AX
