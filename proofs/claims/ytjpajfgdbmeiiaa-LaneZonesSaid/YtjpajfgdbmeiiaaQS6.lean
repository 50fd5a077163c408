/- What functions of the program compute: each is what its Lean function says. -/
import Derived.Test.YtjpajfgdbmeiiaaQM
namespace Go.AX
open Go.Proofs
set_option autoImplicit false
set_option linter.unusedVariables false
set_option maxRecDepth 100000
set_option maxHeartbeats 4000000
set_option linter.unusedSimpArgs false

theorem s55 {v1 : Int} {v2 : Int} {v3 : Int} {v4 : Int} {v5 : Int} {l6 : List Int} {c7 : List D} {n8 : Nat} {v10 : Int} {v11 : Int} {v12 : Int} {v13 : Int} {v14 : Int} (hl9 : IsL (eI .i64) c7 n8 l6) {l15 : List Int} {c16 : List D} {n17 : Nat} {v19 : Int} {v20 : Int} {v21 : Int} (hl18 : IsL (eI .i64) c16 n17 l15) (h : m_ref11_with (TGeom.mk v1 v2 v3 v4 v5) (TPool.mk l6 (A3.mk v10 v11 v12)) v13 v14 = some (TPool.mk l15 (A3.mk v19 v20 v21))) : Spec Try.prog 55 [.agg [.d (.int .i64 v1), .d (.int .i64 v2), .d (.int .i64 v3), .d (.int .i64 v4), .d (.int .i64 v5)], .agg [.d (.lst c7 n8), .d (.int .i64 v10), .d (.int .i64 v11), .d (.int .i64 v12)], .d (.int .i64 v13), .d (.int .i64 v14)] ⟨.agg [.own 0 n17 1, .d (.int .i64 v19), .d (.int .i64 v20), .d (.int .i64 v21)], [(0, .row c16 1 3)], 1, True⟩ := by
  refine spec_b [] Try.func55 rfl rfl rfl fun J P hJ hP => ?_
  dsimp only [m_ref11_with] at h
  cbv
  obtain ⟨p24, q23, hp25, hf26, hq27⟩ := bnd_loop h
  clear h
  refine LoopB.mk ({x : Nat × Int × (List Int) × (List D) × Nat // IsL (eI .i64) x.2.2.2.1 x.2.2.2.2 x.2.2.1 ∧ loopN p24 x.1 (x.2.1, x.2.2.1) = some q23}) (fun x => ⟨[(2, .d (.int .i64 v13)), (3, .d (.int .i64 v14)), (4, .ptr 0 0), (5, .ptr 1 0), (8, .ptr 2 0), (9, .ptr 3 0), (10, .d (.int .i64 x.1.2.1))], [(0, .box [.d (.int .i64 v1), .d (.int .i64 v2), .d (.int .i64 v3), .d (.int .i64 v4), .d (.int .i64 v5)]), (1, .box [.d (.lst c7 n8), .d (.int .i64 v10), .d (.int .i64 v11), .d (.int .i64 v12)]), (2, .box [.d .nils, .d (.int .i64 0), .d (.int .i64 0), .d (.int .i64 0)]), (3, .box [.own 4 x.1.2.2.2.2 1, .d (.int .i64 v10), .d (.int .i64 v11), .d (.int .i64 v12)]), (4, .row x.1.2.2.2.1 1 3)], 5, 44⟩) (fun x => x.1.1) [2, 3, 4, 5, 8, 9, 10] 4 ⟨(FUEL, 0, ([] : List Int), [], 0), IsL.nil', hf26⟩ ⟨[(0, 0), (2, 1), (4, 2), (9, 3)], [.cell 3 0 4 1 3], ?_⟩ ?_
  · rfl
  · rintro ⟨⟨N30, v33, l34, c35, n36⟩, hl37, hr29⟩
    obtain ⟨M31, o28, eN32, h, hr29⟩ := loopN_step hr29
    subst eN32
    rw [hp25] at h
    try dsimp only at h ⊢
    cbv
    revert h
    refine st_len hJ hl9 fun v38 ev38 h => ?_
    cbv
    revert h
    refine st_cmp hJ fun b39 eb39 h => ?_
    cbv
    cases b39 with
    | true =>
      replace h := cnd_t h
      cbv
      revert h
      refine st_bin hJ fun v40 ev40 h => ?_
      cbv
      revert h
      refine st_cmp hJ fun b41 eb41 h => ?_
      cbv
      cases b41 with
      | true =>
        replace h := cnd_t h
        cbv
        have hl42 : IsL (eI .i64) [.int .i64 v14] 1 [v14] := ⟨rfl, rfl⟩
        refine st_any hJ rfl rfl (by subst hJ; exact (by decide : 1 ≤ 16777216)) ?_
        cbv
        revert h
        refine st_app hJ (eI_len .i64) hl37 hl42 fun c44 n45 l43 hl46 h => ?_
        cbv
        revert h
        refine st_bin hJ fun v47 ev47 h => ?_
        cbv
        cases h
        exact ⟨⟨(M31, v47, l43, c44, n45), hl46, hr29⟩, [(0, 0), (1, 1), (2, 2), (3, 3), (21, 4)], 5, [], rfl, Nat.lt_succ_self _⟩
      | false =>
        replace h := cnd_f h
        cbv
        revert h
        refine st_idx_lp hJ hl9 fun y42 k43 hy44 ho45 h => ?_
        cbv
        refine st_ld hJ (eI_len .i64) hl9 hy44 ho45 0 (fun hJ => by subst hJ; rfl) ([.int .i64 y42]) (Nat.le_of_ble_eq_true rfl) rfl (.int .nil) rfl ?_
        cbv
        have hl47 : IsL (eI .i64) [.int .i64 y42] 1 [y42] := ⟨rfl, rfl⟩
        refine st_any hJ rfl rfl (by subst hJ; exact (by decide : 1 ≤ 16777216)) ?_
        cbv
        revert h
        refine st_app hJ (eI_len .i64) hl37 hl47 fun c49 n50 l48 hl51 h => ?_
        cbv
        refine ⟨fun _ => by kernel_rfl, ?_⟩
        cbv
        revert h
        refine st_bin hJ fun v52 ev52 h => ?_
        cbv
        cases h
        exact ⟨⟨(M31, v52, l48, c49, n50), hl51, hr29⟩, [(0, 0), (1, 1), (2, 2), (3, 3), (25, 4)], 5, [], rfl, Nat.lt_succ_self _⟩
    | false =>
      replace h := cnd_f h
      cbv
      cases h
      have h := hq27
      obtain rfl := hr29
      try dsimp only at h
      cases h
      obtain ⟨rfl, rfl⟩ := IsL.uniq hl18 hl37
      exact ⟨[], _, _, [(4, 0)], rfl, rfl, rfl, rfl⟩
theorem s28 {l1 : List Int} {c2 : List D} {n3 : Nat} {l5 : List Int} {c6 : List D} {n7 : Nat} (hl4 : IsL (eI .i64) c2 n3 l1) (hl8 : IsL (eI .i64) c6 n7 l5) {b9 : Bool}  (h : m_ref09_Same l1 l5 = some b9) : Spec Try.prog 28 [.d (.lst c2 n3), .d (.lst c6 n7)] ⟨.d (.bool b9), [], 0, True⟩ := by
  refine spec_b [] Try.func28 rfl rfl rfl fun J P hJ hP => ?_
  dsimp only [m_ref09_Same] at h
  cbv
  revert h
  refine st_len hJ hl4 fun v11 ev11 h => ?_
  cbv
  revert h
  refine st_len hJ hl8 fun v12 ev12 h => ?_
  cbv
  revert h
  refine st_cmp hJ fun b13 eb13 h => ?_
  cbv
  cases b13 with
  | true =>
    replace h := cnd_t h
    cbv
    cases h
    exact ⟨[], _, _, [], rfl, rfl, rfl, rfl⟩
  | false =>
    replace h := cnd_f h
    cbv
    obtain ⟨p15, q14, hp16, hf17, hq18⟩ := bnd_loop h
    clear h
    refine LoopB.mk ({x : Nat × Int // loopN p15 x.1 (x.2) = some q14}) (fun x => ⟨[(0, .d (.lst c2 n3)), (1, .d (.lst c6 n7)), (5, .d (.int .i64 x.1.2))], [], 0, 26⟩) (fun x => x.1.1) [0, 1, 5] 0 ⟨(FUEL, 0), hf17⟩ ⟨[], [], ?_⟩ ?_
    · rfl
    · rintro ⟨⟨N21, v24⟩, hr20⟩
      obtain ⟨M22, o19, eN23, h, hr20⟩ := loopN_step hr20
      subst eN23
      rw [hp16] at h
      try dsimp only at h ⊢
      cbv
      revert h
      refine st_len hJ hl4 fun v25 ev25 h => ?_
      cbv
      revert h
      refine st_cmp hJ fun b26 eb26 h => ?_
      cbv
      cases b26 with
      | true =>
        replace h := cnd_t h
        cbv
        revert h
        refine st_idx_lp hJ hl4 fun y27 k28 hy29 ho30 h => ?_
        cbv
        refine st_ld hJ (eI_len .i64) hl4 hy29 ho30 0 (fun hJ => by subst hJ; rfl) ([.int .i64 y27]) (Nat.le_of_ble_eq_true rfl) rfl (.int .nil) rfl ?_
        cbv
        revert h
        refine st_idx_lp hJ hl8 fun y32 k33 hy34 ho35 h => ?_
        cbv
        refine st_ld hJ (eI_len .i64) hl8 hy34 ho35 0 (fun hJ => by subst hJ; rfl) ([.int .i64 y32]) (Nat.le_of_ble_eq_true rfl) rfl (.int .nil) rfl ?_
        cbv
        revert h
        refine st_cmp hJ fun b37 eb37 h => ?_
        cbv
        refine ⟨fun _ => by kernel_rfl, ?_⟩
        cbv
        cases b37 with
        | true =>
          replace h := cnd_t h
          cbv
          cases h
          have h := hq18
          obtain rfl := hr20
          try dsimp only at h
          cases h
          exact ⟨[], _, _, [], rfl, rfl, rfl, rfl⟩
        | false =>
          replace h := cnd_f h
          cbv
          revert h
          refine st_bin hJ fun v38 ev38 h => ?_
          cbv
          cases h
          exact ⟨⟨(M22, v38), hr20⟩, [], 0, [], rfl, Nat.lt_succ_self _⟩
      | false =>
        replace h := cnd_f h
        cbv
        cases h
        have h := hq18
        obtain rfl := hr20
        try dsimp only at h
        cases h
        exact ⟨[], _, _, [], rfl, rfl, rfl, rfl⟩
theorem s31 {v1 : Int} {v2 : Int} {v3 : Int} {v4 : Int} {v5 : Int} {l6 : List Int} {c7 : List D} {n8 : Nat} {v10 : Int} {v11 : Int} {v12 : Int} {v13 : Int} (hl9 : IsL (eI .i64) c7 n8 l6) {v14 : Int}  (h : m_ref11_Room (TGeom.mk v1 v2 v3 v4 v5) (TPool.mk l6 (A3.mk v10 v11 v12)) v13 = some v14) : Spec Try.prog 31 [.agg [.d (.int .i64 v1), .d (.int .i64 v2), .d (.int .i64 v3), .d (.int .i64 v4), .d (.int .i64 v5)], .agg [.d (.lst c7 n8), .d (.int .i64 v10), .d (.int .i64 v11), .d (.int .i64 v12)], .d (.int .i64 v13)] ⟨.d (.int .i64 v14), [], 0, True⟩ := by
  refine spec_b [] Try.func31 rfl rfl rfl fun J P hJ hP => ?_
  dsimp only [m_ref11_Room] at h
  cbv
  revert h
  refine st_idx_px hJ (L := A3.l (A3.mk v10 v11 v12)) rfl fun v16 k17 hy18 ho19 h => ?_
  cbv
  refine st_ldA hJ rfl hy18 ho19 (fun hJ => by subst hJ; simp [stdJ, std]) ?_
  cbv
  revert h
  refine st_cmp hJ fun b20 eb20 h => ?_
  cbv
  cases b20 with
  | true =>
    replace h := cnd_t h
    cbv
    cases h
    exact ⟨[], _, _, [], rfl, rfl, rfl, rfl⟩
  | false =>
    replace h := cnd_f h
    cbv
    revert h
    refine st_idx_px hJ (L := A3.l (A3.mk v10 v11 v12)) rfl fun v21 k22 hy23 ho24 h => ?_
    cbv
    refine st_ldA hJ rfl hy23 ho24 (fun hJ => by subst hJ; simp [stdJ, std]) ?_
    cbv
    revert h
    refine st_bin hJ fun v25 ev25 h => ?_
    cbv
    revert h
    refine st_idx_lp hJ hl9 fun y26 k27 hy28 ho29 h => ?_
    cbv
    refine st_ld hJ (eI_len .i64) hl9 hy28 ho29 0 (fun hJ => by subst hJ; rfl) ([.int .i64 y26]) (Nat.le_of_ble_eq_true rfl) rfl (.int .nil) rfl ?_
    cbv
    revert h
    refine st_bin hJ fun v31 ev31 h => ?_
    cbv
    refine ⟨fun _ => by kernel_rfl, ?_⟩
    cbv
    cases h
    exact ⟨[], _, _, [], rfl, rfl, rfl, rfl⟩
end Go.AX
