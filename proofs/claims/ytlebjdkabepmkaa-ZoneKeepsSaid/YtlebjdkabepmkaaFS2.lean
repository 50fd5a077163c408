/- What functions of the program compute: each is what its Lean function says. -/
import Derived.Test.YtlebjdkabepmkaaFM
namespace Go.AX
open Go.Proofs
set_option autoImplicit false
set_option linter.unusedVariables false
set_option maxRecDepth 100000
set_option maxHeartbeats 4000000
set_option linter.unusedSimpArgs false

theorem s36 {v1 : Int} {v2 : Int} {v3 : Int} {v4 : Int} {v5 : Int}  {v6 : Int}  (h : m_ref03_Blocks (TGeom.mk v1 v2 v3 v4 v5) = some v6) : Spec Try.prog 36 [.agg [.d (.int .i64 v1), .d (.int .i64 v2), .d (.int .i64 v3), .d (.int .i64 v4), .d (.int .i64 v5)]] ⟨.d (.int .i64 v6), [], 0, True⟩ := by
  refine spec_b [] Try.func36 rfl rfl rfl fun J P hJ hP => ?_
  dsimp only [m_ref03_Blocks] at h
  cbv
  obtain ⟨p9, q8, hp10, hf11, hq12⟩ := bnd_loop h
  clear h
  refine LoopB.mk ({x : Nat × Int × Int // loopN p9 x.1 (x.2.1, x.2.2) = some q8}) (fun x => ⟨[(1, .ptr 0 0), (3, .d (.int .i64 x.1.2.1)), (4, .d (.int .i64 x.1.2.2))], [(0, .box [.d (.int .i64 v1), .d (.int .i64 v2), .d (.int .i64 v3), .d (.int .i64 v4), .d (.int .i64 v5)])], 1, 19⟩) (fun x => x.1.1) [1, 3, 4] 1 ⟨(FUEL, 0, 5), hf11⟩ ⟨[(0, 0)], [], ?_⟩ ?_
  · rfl
  · rintro ⟨⟨N15, v18, v19⟩, hr14⟩
    obtain ⟨M16, o13, eN17, h, hr14⟩ := loopN_step hr14
    subst eN17
    rw [hp10] at h
    try dsimp only at h ⊢
    cbv
    revert h
    refine st_cmp hJ fun b20 eb20 h => ?_
    cbv
    cases b20 with
    | true =>
      replace h := cnd_t h
      cbv
      revert h
      refine st_div hJ fun v21 zv21 ev21 h => ?_
      cbv
      revert h
      refine st_bin hJ fun v22 ev22 h => ?_
      cbv
      revert h
      refine st_bin hJ fun v23 ev23 h => ?_
      cbv
      cases h
      exact ⟨⟨(M16, v22, v23), hr14⟩, [(0, 0)], 1, [], rfl, Nat.lt_succ_self _⟩
    | false =>
      replace h := cnd_f h
      cbv
      cases h
      have h := hq12
      obtain rfl := hr14
      try dsimp only at h
      revert h
      refine st_cmp hJ fun b21 eb21 h => ?_
      cbv
      cases b21 with
      | true =>
        replace h := cnd_t h
        cbv
        cases h
        exact ⟨_, .refl _, [], _, _, [], _, rfl, rfl, rfl, rfl, rfl, rfl⟩
      | false =>
        replace h := cnd_f h
        cbv
        cases h
        exact ⟨_, .refl _, [], _, _, [], _, rfl, rfl, rfl, rfl, rfl, rfl⟩
theorem s29 {l1 : List TZone} {c2 : List D} {n3 : Nat} (hl4 : IsL eZone c2 n3 l1) {v5 : Int}  (h : m_ref04_opened l1 = some v5) : Spec Try.prog 29 [.d (.lst c2 n3)] ⟨.d (.int .i64 v5), [], 0, True⟩ := by
  refine spec_b [] Try.func29 rfl rfl rfl fun J P hJ hP => ?_
  dsimp only [m_ref04_opened] at h
  cbv
  obtain ⟨p8, q7, hp9, hf10, hq11⟩ := bnd_loop h
  clear h
  refine LoopB.mk ({x : Nat × Int × Int // loopN p8 x.1 (x.2.1, x.2.2) = some q7}) (fun x => ⟨[(0, .d (.lst c2 n3)), (3, .d (.int .i64 x.1.2.1)), (4, .d (.int .i64 x.1.2.2))], [], 0, 20⟩) (fun x => x.1.1) [0, 3, 4] 0 ⟨(FUEL, 0, 0), hf10⟩ ⟨[], [], ?_⟩ ?_
  · rfl
  · rintro ⟨⟨N14, v17, v18⟩, hr13⟩
    obtain ⟨M15, o12, eN16, h, hr13⟩ := loopN_step hr13
    subst eN16
    rw [hp9] at h
    try dsimp only at h ⊢
    cbv
    revert h
    refine st_len hJ hl4 fun v19 ev19 h => ?_
    cbv
    revert h
    refine st_cmp hJ fun b20 eb20 h => ?_
    cbv
    cases b20 with
    | true =>
      replace h := cnd_t h
      cbv
      revert h
      refine st_idx_lp hJ hl4 fun y21 k22 hy23 ho24 h => ?_
      obtain ⟨v25, v26⟩ := y21
      try dsimp only at h
      cbv
      refine st_ld hJ eZone_len hl4 hy23 ho24 0 (fun hJ => by subst hJ; rfl) ([.int .i64 v25]) (Nat.le_of_ble_eq_true rfl) rfl (.int .nil) rfl ?_
      cbv
      revert h
      refine st_cmp hJ fun b27 eb27 h => ?_
      cbv
      cases b27 with
      | true =>
        replace h := cnd_t h
        cbv
        revert h
        refine st_bin hJ fun v28 ev28 h => ?_
        cbv
        revert h
        refine st_bin hJ fun v29 ev29 h => ?_
        cbv
        cases h
        exact ⟨⟨(M15, v28, v29), hr13⟩, [], 0, [], rfl, Nat.lt_succ_self _⟩
      | false =>
        replace h := cnd_f h
        cbv
        revert h
        refine st_bin hJ fun v28 ev28 h => ?_
        cbv
        cases h
        exact ⟨⟨(M15, v17, v28), hr13⟩, [], 0, [], rfl, Nat.lt_succ_self _⟩
    | false =>
      replace h := cnd_f h
      cbv
      cases h
      have h := hq11
      obtain rfl := hr13
      try dsimp only at h
      cases h
      exact ⟨_, .refl _, [], _, _, [], _, rfl, rfl, rfl, rfl, rfl, rfl⟩
theorem s17 {v1 : Int} {v2 : Int} {v3 : Int} {v4 : Int} {v5 : Int}  {l6 : List TZone} {c7 : List D} {n8 : Nat} (hl9 : IsL eZone c7 n8 l6) (h : m_ref04_New (TGeom.mk v1 v2 v3 v4 v5) = some l6) : Spec Try.prog 17 [.agg [.d (.int .i64 v1), .d (.int .i64 v2), .d (.int .i64 v3), .d (.int .i64 v4), .d (.int .i64 v5)]] ⟨.own 0 n8 2, [(0, .row c7 2 36)], 1, True⟩ := by
  refine spec_b [] Try.func17 rfl rfl rfl fun J P hJ hP => ?_
  dsimp only [m_ref04_New] at h
  cbv
  obtain ⟨p12, q11, hp13, hf14, hq15⟩ := bnd_loop h
  clear h
  refine LoopB.mk ({x : Nat × Int × (List TZone) × (List D) × Nat // IsL eZone x.2.2.2.1 x.2.2.2.2 x.2.2.1 ∧ loopN p12 x.1 (x.2.1, x.2.2.1) = some q11}) (fun x => ⟨[(1, .ptr 0 0), (3, .own 1 x.1.2.2.2.2 2), (4, .d (.int .i64 x.1.2.1))], [(0, .box [.d (.int .i64 v1), .d (.int .i64 v2), .d (.int .i64 v3), .d (.int .i64 v4), .d (.int .i64 v5)]), (1, .row x.1.2.2.2.1 2 36)], 2, 27⟩) (fun x => x.1.1) [1, 3, 4] 1 ⟨(FUEL, 0, ([] : List TZone), [], 0), (IsL.nil' (g := eZone)), hf14⟩ ⟨[(0, 0)], [.slot 3 1 2 36], ?_⟩ ?_
  · rfl
  · rintro ⟨⟨N18, v21, l22, c23, n24⟩, hl25, hr17⟩
    obtain ⟨M19, o16, eN20, h, hr17⟩ := loopN_step hr17
    subst eN20
    rw [hp13] at h
    try dsimp only at h ⊢
    cbv
    revert h
    refine st_bin hJ fun v26 ev26 h => ?_
    cbv
    revert h
    refine st_cmp hJ fun b27 eb27 h => ?_
    cbv
    cases b27 with
    | true =>
      replace h := cnd_t h
      cbv
      revert h
      refine st_cmp hJ fun b28 eb28 h => ?_
      cbv
      cases b28 with
      | true =>
        replace h := cnd_t h
        cbv
        have hl29 : IsL eZone [.int .i64 4, .int .i64 0] 1 [(TZone.mk 4 0)] := ⟨rfl, rfl⟩
        refine st_any hJ rfl rfl (by subst hJ; exact (by decide : 2 ≤ 16777216)) ?_
        cbv
        revert h
        refine st_app hJ eZone_len hl25 hl29 fun c31 n32 l30 hl33 h => ?_
        cbv
        revert h
        refine st_bin hJ fun v34 ev34 h => ?_
        cbv
        cases h
        exact ⟨⟨(M19, v34, l30, c31, n32), hl33, hr17⟩, [(0, 0), (17, 1)], 2, [], rfl, Nat.lt_succ_self _⟩
      | false =>
        replace h := cnd_f h
        cbv
        have hl29 : IsL eZone [.int .i64 0, .int .i64 0] 1 [(TZone.mk 0 0)] := ⟨rfl, rfl⟩
        refine st_any hJ rfl rfl (by subst hJ; exact (by decide : 2 ≤ 16777216)) ?_
        cbv
        revert h
        refine st_app hJ eZone_len hl25 hl29 fun c31 n32 l30 hl33 h => ?_
        cbv
        revert h
        refine st_bin hJ fun v34 ev34 h => ?_
        cbv
        cases h
        exact ⟨⟨(M19, v34, l30, c31, n32), hl33, hr17⟩, [(0, 0), (17, 1)], 2, [], rfl, Nat.lt_succ_self _⟩
    | false =>
      replace h := cnd_f h
      cbv
      cases h
      have h := hq15
      obtain rfl := hr17
      try dsimp only at h
      cases h
      obtain ⟨rfl, rfl⟩ := IsL.uniq hl9 hl25
      exact ⟨_, .refl _, [], _, _, [(1, 0)], _, rfl, rfl, rfl, rfl, rfl, rfl⟩
end Go.AX
