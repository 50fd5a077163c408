/- What functions of the program compute: each is what its Lean function says. -/
import Derived.Test.YthecmjmlkoomiaaRM
namespace Go.AX
open Go.Proofs
set_option autoImplicit false
set_option linter.unusedVariables false
set_option maxRecDepth 100000
set_option maxHeartbeats 100000000
set_option linter.unusedSimpArgs false

theorem s64 {l1 : List TZone} {c2 : List D} {n3 : Nat} (hl4 : IsL eZone c2 n3 l1) {v5 : Int}  (h : m_ref04_opened l1 = some v5) : Spec Try.prog 64 [.d (.lst c2 n3)] ⟨.d (.int .i64 v5), [], 0, True⟩ := by
  refine spec_b [] Try.func64 rfl rfl rfl fun J P hJ hP => ?_
  dsimp only [m_ref04_opened] at h
  cbv
  obtain ⟨p8, q7, hp9, hf10, hq11⟩ := bnd_loop h
  clear h
  refine LoopB.mk ({x : Nat × Int × Int // loopN p8 x.1 (x.2.1, x.2.2) = some q7}) (fun x => ⟨[(0, .d (.lst c2 n3)), (3, .d (.int .i64 x.1.2.1)), (4, .d (.int .i64 x.1.2.2))], [], 0, 20⟩) (fun x => x.1.1) [0, 3, 4] 0 ⟨(FUEL, 0, 0), hf10⟩ ⟨[], [], ?_⟩ ?_
  · rfl
  · rintro ⟨⟨N14, v17, v18⟩, hr13⟩
    obtain ⟨M15, o12, eN16, h, hr13⟩ := loopN_step hr13
    subst eN16
    rw [hp9] at h
    try dsimp only at h ⊢
    cbv
    revert h
    refine st_len hJ hl4 fun v19 ev19 h => ?_
    cbv
    revert h
    refine st_cmp hJ fun b20 eb20 h => ?_
    cbv
    cases b20 with
    | true =>
      replace h := cnd_t h
      cbv
      revert h
      refine st_idx_lp hJ hl4 fun y21 k22 hy23 ho24 h => ?_
      obtain ⟨v25, v26⟩ := y21
      try dsimp only at h
      cbv
      refine st_ld hJ eZone_len hl4 hy23 ho24 0 (fun hJ => by subst hJ; rfl) ([.int .i64 v25]) (Nat.le_of_ble_eq_true rfl) rfl (.int .nil) rfl ?_
      cbv
      revert h
      refine st_cmp hJ fun b27 eb27 h => ?_
      cbv
      cases b27 with
      | true =>
        replace h := cnd_t h
        cbv
        revert h
        refine st_bin hJ fun v28 ev28 h => ?_
        cbv
        revert h
        refine st_bin hJ fun v29 ev29 h => ?_
        cbv
        cases h
        exact ⟨⟨(M15, v28, v29), hr13⟩, [], 0, [], rfl, Nat.lt_succ_self _⟩
      | false =>
        replace h := cnd_f h
        cbv
        revert h
        refine st_bin hJ fun v28 ev28 h => ?_
        cbv
        cases h
        exact ⟨⟨(M15, v17, v28), hr13⟩, [], 0, [], rfl, Nat.lt_succ_self _⟩
    | false =>
      replace h := cnd_f h
      cbv
      cases h
      have h := hq11
      obtain rfl := hr13
      try dsimp only at h
      cases h
      exact ⟨_, .refl _, [], _, _, [], _, rfl, rfl, rfl, rfl, rfl, rfl⟩
theorem s50 {l1 : List TRef05_Cell} {c2 : List D} {n3 : Nat} {l5 : List TRef05_Cell} {c6 : List D} {n7 : Nat} (hl4 : IsL eRef05_Cell c2 n3 l1) (hl8 : IsL eRef05_Cell c6 n7 l5) {l9 : List TRef05_Cell} {c10 : List D} {n11 : Nat} (hl12 : IsL eRef05_Cell c10 n11 l9) (h : m_ref05_cat l1 l5 = some l9) : Spec Try.prog 50 [.d (.lst c2 n3), .d (.lst c6 n7)] ⟨.own 0 n11 66, [(0, .row c10 66 104)], 1, True⟩ := by
  refine spec_b [] Try.func50 rfl rfl rfl fun J P hJ hP => ?_
  dsimp only [m_ref05_cat] at h
  cbv
  have hl14 : IsL eRef05_Cell [] 0 [] := ⟨rfl, rfl⟩
  refine st_any hJ rfl rfl (by subst hJ; exact (by decide : 0 ≤ 16777216)) ?_
  cbv
  revert h
  refine st_app hJ eRef05_Cell_len hl14 hl4 fun c16 n17 l15 hl18 h => ?_
  cbv
  revert h
  refine st_app hJ eRef05_Cell_len hl18 hl8 fun c20 n21 l19 hl22 h => ?_
  cbv
  cases h
  obtain ⟨rfl, rfl⟩ := IsL.uniq hl12 hl22
  exact ⟨_, .refl _, [], _, _, [(7, 0)], _, rfl, rfl, rfl, rfl, rfl, rfl⟩
theorem s51 {l1 : List TRef05_Cell} {c2 : List D} {n3 : Nat} {v5 : Int} (hl4 : IsL eRef05_Cell c2 n3 l1) {l6 : List TRef05_Cell} {c7 : List D} {n8 : Nat} (hl9 : IsL eRef05_Cell c7 n8 l6) (h : m_ref05_out l1 v5 = some l6) : Spec Try.prog 51 [.d (.lst c2 n3), .d (.int .i64 v5)] ⟨.own 0 n8 66, [(0, .row c7 66 104)], 1, True⟩ := by
  refine spec_b [] Try.func51 rfl rfl rfl fun J P hJ hP => ?_
  dsimp only [m_ref05_out] at h
  cbv
  obtain ⟨p12, q11, hp13, hf14, hq15⟩ := bnd_loop h
  clear h
  refine LoopB.mk ({x : Nat × Int × (List TRef05_Cell) × (List D) × Nat // IsL eRef05_Cell x.2.2.2.1 x.2.2.2.2 x.2.2.1 ∧ loopN p12 x.1 (x.2.1, x.2.2.1) = some q11}) (fun x => ⟨[(0, .d (.lst c2 n3)), (1, .d (.int .i64 v5)), (5, .own 0 x.1.2.2.2.2 66), (6, .d (.int .i64 x.1.2.1))], [(0, .row x.1.2.2.2.1 66 104)], 1, 29⟩) (fun x => x.1.1) [0, 1, 5, 6] 0 ⟨(FUEL, 0, ([] : List TRef05_Cell), [], 0), (IsL.nil' (g := eRef05_Cell)), hf14⟩ ⟨[], [.slot 5 0 66 104], ?_⟩ ?_
  · rfl
  · rintro ⟨⟨N18, v21, l22, c23, n24⟩, hl25, hr17⟩
    obtain ⟨M19, o16, eN20, h, hr17⟩ := loopN_step hr17
    subst eN20
    rw [hp13] at h
    try dsimp only at h ⊢
    cbv
    revert h
    refine st_len hJ hl4 fun v26 ev26 h => ?_
    cbv
    revert h
    refine st_cmp hJ fun b27 eb27 h => ?_
    cbv
    cases b27 with
    | true =>
      replace h := cnd_t h
      cbv
      revert h
      refine st_idx_lp hJ hl4 fun y28 k29 hy30 ho31 h => ?_
      obtain ⟨⟨v32, v33⟩, a34⟩ := y28
      obtain ⟨d35, ha36⟩ := nameA .u8 a34
      try dsimp only at h
      cbv
      refine st_ld hJ eRef05_Cell_len hl4 hy30 ho31 0 (fun hJ => by subst hJ; rfl) ([.int .i64 v32]) (by simp [encL_len (k := 1) (eI_len _), Ar.h]) (by first | done | rfl | simp [eRef05_Cell, encL_len (k := 1) (eI_len _), Ar.h, takeA]) (.int .nil) rfl ?_
      cbv
      revert h
      refine st_cmp hJ fun b37 eb37 h => ?_
      cbv
      cases b37 with
      | true =>
        replace h := cnd_t h
        cbv
        revert h
        refine st_idx_lp hJ hl4 fun y38 k39 hy40 ho41 h => ?_
        obtain ⟨⟨v42, v43⟩, a44⟩ := y38
        obtain ⟨d45, ha46⟩ := nameA .u8 a44
        try dsimp only at h
        cbv
        refine st_ldW hJ eRef05_Cell_len hl4 hy40 ho41 (fun hJ => by subst hJ; rfl) ([.int .i64 v42, .int .i64 v43] ++ (d45 ++ [])) (by rw [(show d45 = encL (eI .u8) a44.l from ha46)]; first | done | rfl | simp [eRef05_Cell, encL_len (k := 1) (eI_len _), Ar.h]) (.int (.int (.big ⟨by rw [(show d45 = encL (eI .u8) a44.l from ha46)]; exact eA_len _ _, by decide⟩ .nil))) rfl ?_
        cbv
        have hl47 : IsL eRef05_Cell ((D.int .i64 v42) :: ((D.int .i64 v43) :: (J .app d45 []))) 1 [(TRef05_Cell.mk (TAt.mk v42 v43) a44)] := ⟨by rw [(show d45 = encL (eI .u8) a44.l from ha46)]; subst hJ; simp [stdJ, std, encL, eRef05_Cell, eI], rfl⟩
        refine st_any hJ rfl rfl (by subst hJ; exact (by decide : 66 ≤ 16777216)) ?_
        cbv
        revert h
        refine st_app hJ eRef05_Cell_len hl25 hl47 fun c49 n50 l48 hl51 h => ?_
        cbv
        revert h
        refine st_bin hJ fun v52 ev52 h => ?_
        cbv
        cases h
        exact ⟨⟨(M19, v52, l48, c49, n50), hl51, hr17⟩, [(20, 0)], 1, [], rfl, Nat.lt_succ_self _⟩
      | false =>
        replace h := cnd_f h
        cbv
        revert h
        refine st_bin hJ fun v38 ev38 h => ?_
        cbv
        cases h
        exact ⟨⟨(M19, v38, l22, c23, n24), hl25, hr17⟩, [(0, 0)], 1, [], rfl, Nat.lt_succ_self _⟩
    | false =>
      replace h := cnd_f h
      cbv
      cases h
      have h := hq15
      obtain rfl := hr17
      try dsimp only at h
      cases h
      obtain ⟨rfl, rfl⟩ := IsL.uniq hl9 hl25
      exact ⟨_, .refl _, [], _, _, [(0, 0)], _, rfl, rfl, rfl, rfl, rfl, rfl⟩
end Go.AX
