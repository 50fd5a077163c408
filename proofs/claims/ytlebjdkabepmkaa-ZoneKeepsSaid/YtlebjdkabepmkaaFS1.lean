/- What functions of the program compute: each is what its Lean function says. -/
import Derived.Test.YtlebjdkabepmkaaFM
namespace Go.AX
open Go.Proofs
set_option autoImplicit false
set_option linter.unusedVariables false
set_option maxRecDepth 100000
set_option maxHeartbeats 4000000
set_option linter.unusedSimpArgs false

theorem s21   {v1 : Int} {v2 : Int} {v3 : Int} {v4 : Int} {v5 : Int}  (h : m_law04_measure  = some (TGeom.mk v1 v2 v3 v4 v5)) : Spec Try.prog 21 [] ⟨.agg [.d (.int .i64 v1), .d (.int .i64 v2), .d (.int .i64 v3), .d (.int .i64 v4), .d (.int .i64 v5)], [], 0, True⟩ := by
  refine spec_b [] Try.func21 rfl rfl rfl fun J P hJ hP => ?_
  dsimp only [m_law04_measure] at h
  cbv
  cases h
  exact ⟨_, .refl _, [], _, _, [], _, rfl, rfl, rfl, rfl, rfl, rfl⟩
theorem s23 {v1 : Int} {v2 : Int} {v3 : Int} {v4 : Int} {v5 : Int}  {v6 : Int}  (h : m_geom_Zones (TGeom.mk v1 v2 v3 v4 v5) = some v6) : Spec Try.prog 23 [.agg [.d (.int .i64 v1), .d (.int .i64 v2), .d (.int .i64 v3), .d (.int .i64 v4), .d (.int .i64 v5)]] ⟨.d (.int .i64 v6), [], 0, True⟩ := by
  refine spec_b [] Try.func23 rfl rfl rfl fun J P hJ hP => ?_
  dsimp only [m_geom_Zones] at h
  cbv
  revert h
  refine st_bin hJ fun v8 ev8 h => ?_
  cbv
  cases h
  exact ⟨_, .refl _, [], _, _, [], _, rfl, rfl, rfl, rfl, rfl, rfl⟩
theorem s24 {l1 : List TZone} {c2 : List D} {n3 : Nat} (hl4 : IsL eZone c2 n3 l1) {l5 : List TZone} {c6 : List D} {n7 : Nat} (hl8 : IsL eZone c6 n7 l5) (h : m_slices_Clone l1 = some l5) : Spec Try.prog 24 [.d (.lst c2 n3)] ⟨.own 0 n7 2, [(0, .row c6 2 36)], 1, True⟩ := by
  refine spec_b [] Try.func24 rfl rfl rfl fun J P hJ hP => ?_
  dsimp only [m_slices_Clone] at h
  cbv
  intro b hb
  cases b with
  | true =>
    cbv
    have hn : n3 = 0 := hb rfl
    have h0 : l1 = [] := List.eq_nil_of_length_eq_zero (by rw [← hl4.n]; exact hn)
    subst h0
    have h1 : l5 = [] := (Option.some.inj h).symm
    subst h1
    obtain ⟨rfl, rfl⟩ := IsL.nil hl8
    exact ⟨_, .refl _, [.slot 2 1000000 2 36], _, _, [(1000000, 0)], _, rfl, rfl, rfl, rfl, rfl, rfl⟩
  | false =>
    cbv
    refine st_any hJ rfl rfl (by subst hJ; exact (by decide : 0 ≤ 16777216)) ?_
    cbv
    revert h
    refine st_app hJ eZone_len IsL.nil' hl4 fun c'' n'' l'' hl'' h => ?_
    cbv
    cases h
    obtain ⟨rfl, rfl⟩ := IsL.uniq hl8 hl''
    exact ⟨_, .refl _, [], _, _, [(6, 0)], _, rfl, rfl, rfl, rfl, rfl, rfl⟩
theorem s26 {l1 : List TZone} {c2 : List D} {n3 : Nat} (hl4 : IsL eZone c2 n3 l1) {v5 : Int}  (h : m_zone_open l1 = some v5) : Spec Try.prog 26 [.d (.lst c2 n3)] ⟨.d (.int .i64 v5), [], 0, True⟩ := by
  refine spec_b [] Try.func26 rfl rfl rfl fun J P hJ hP => ?_
  dsimp only [m_zone_open] at h
  cbv
  revert h
  refine st_len hJ hl4 fun v7 ev7 h => ?_
  cbv
  obtain ⟨p9, q8, hp10, hf11, hq12⟩ := bnd_loop h
  clear h
  refine LoopB.mk ({x : Nat × Int × Int // loopN p9 x.1 (x.2.1, x.2.2) = some q8}) (fun x => ⟨[(3, .d (.int .i64 x.1.2.1)), (6, .d (.lst c2 n3)), (7, .d (.int .i64 v7)), (8, .d (.int .i64 x.1.2.2))], [], 0, 19⟩) (fun x => x.1.1) [3, 6, 7, 8] 0 ⟨(FUEL, 0, 0), hf11⟩ ⟨[], [], ?_⟩ ?_
  · rfl
  · rintro ⟨⟨N15, v18, v19⟩, hr14⟩
    obtain ⟨M16, o13, eN17, h, hr14⟩ := loopN_step hr14
    subst eN17
    rw [hp10] at h
    try dsimp only at h ⊢
    cbv
    revert h
    refine st_cmp hJ fun b20 eb20 h => ?_
    cbv
    cases b20 with
    | true =>
      replace h := cnd_t h
      cbv
      revert h
      refine st_idx_lp hJ hl4 fun y21 k22 hy23 ho24 h => ?_
      obtain ⟨v25, v26⟩ := y21
      try dsimp only at h
      cbv
      refine st_ld hJ eZone_len hl4 hy23 ho24 0 (fun hJ => by subst hJ; rfl) ([.int .i64 v25, .int .i64 v26]) (Nat.le_of_ble_eq_true rfl) rfl (.int (.int .nil)) rfl ?_
      cbv
      revert h
      refine st_cmp hJ fun b27 eb27 h => ?_
      cbv
      cases b27 with
      | true =>
        replace h := cnd_t h
        cbv
        revert h
        refine st_bin hJ fun v28 ev28 h => ?_
        cbv
        revert h
        refine st_bin hJ fun v29 ev29 h => ?_
        cbv
        cases h
        exact ⟨⟨(M16, v28, v29), hr14⟩, [], 0, [], rfl, Nat.lt_succ_self _⟩
      | false =>
        replace h := cnd_f h
        cbv
        revert h
        refine st_bin hJ fun v28 ev28 h => ?_
        cbv
        cases h
        exact ⟨⟨(M16, v18, v28), hr14⟩, [], 0, [], rfl, Nat.lt_succ_self _⟩
    | false =>
      replace h := cnd_f h
      cbv
      cases h
      have h := hq12
      obtain rfl := hr14
      try dsimp only at h
      cases h
      exact ⟨_, .refl _, [], _, _, [], _, rfl, rfl, rfl, rfl, rfl, rfl⟩
theorem s28 {v1 : Int} {v2 : Int} {v3 : Int} {v4 : Int} {v5 : Int} {v6 : Int} {v7 : Int}  {b8 : Bool}  (h : m_zone_one (TGeom.mk v1 v2 v3 v4 v5) (TZone.mk v6 v7) = some b8) : Spec Try.prog 28 [.agg [.d (.int .i64 v1), .d (.int .i64 v2), .d (.int .i64 v3), .d (.int .i64 v4), .d (.int .i64 v5)], .agg [.d (.int .i64 v6), .d (.int .i64 v7)]] ⟨.d (.bool b8), [], 0, True⟩ := by
  refine spec_b [] Try.func28 rfl rfl rfl fun J P hJ hP => ?_
  dsimp only [m_zone_one] at h
  cbv
  revert h
  refine st_cmp hJ fun b10 eb10 h => ?_
  cbv
  cases b10 with
  | true =>
    replace h := cnd_t h
    cbv
    revert h
    refine st_cmp hJ fun b11 eb11 h => ?_
    cbv
    cases h
    exact ⟨_, .refl _, [], _, _, [], _, rfl, rfl, rfl, rfl, rfl, rfl⟩
  | false =>
    replace h := cnd_f h
    cbv
    revert h
    refine st_cmp hJ fun b11 eb11 h => ?_
    cbv
    cases b11 with
    | true =>
      replace h := cnd_t h
      cbv
      revert h
      refine st_cmp hJ fun b12 eb12 h => ?_
      cbv
      cases b12 with
      | true =>
        replace h := cnd_t h
        cbv
        revert h
        refine st_cmp hJ fun b13 eb13 h => ?_
        cbv
        cases h
        exact ⟨_, .refl _, [], _, _, [], _, rfl, rfl, rfl, rfl, rfl, rfl⟩
      | false =>
        replace h := cnd_f h
        cbv
        cases h
        exact ⟨_, .refl _, [], _, _, [], _, rfl, rfl, rfl, rfl, rfl, rfl⟩
    | false =>
      replace h := cnd_f h
      cbv
      revert h
      refine st_cmp hJ fun b12 eb12 h => ?_
      cbv
      cases b12 with
      | true =>
        replace h := cnd_t h
        cbv
        revert h
        refine st_cmp hJ fun b13 eb13 h => ?_
        cbv
        cases b13 with
        | true =>
          replace h := cnd_t h
          cbv
          revert h
          refine st_cmp hJ fun b14 eb14 h => ?_
          cbv
          cases h
          exact ⟨_, .refl _, [], _, _, [], _, rfl, rfl, rfl, rfl, rfl, rfl⟩
        | false =>
          replace h := cnd_f h
          cbv
          cases h
          exact ⟨_, .refl _, [], _, _, [], _, rfl, rfl, rfl, rfl, rfl, rfl⟩
      | false =>
        replace h := cnd_f h
        cbv
        revert h
        refine st_cmp hJ fun b13 eb13 h => ?_
        cbv
        cases b13 with
        | true =>
          replace h := cnd_t h
          cbv
          revert h
          refine st_cmp hJ fun b14 eb14 h => ?_
          cbv
          cases b14 with
          | true =>
            replace h := cnd_t h
            cbv
            revert h
            refine st_cmp hJ fun b15 eb15 h => ?_
            cbv
            cases h
            exact ⟨_, .refl _, [], _, _, [], _, rfl, rfl, rfl, rfl, rfl, rfl⟩
          | false =>
            replace h := cnd_f h
            cbv
            cases h
            exact ⟨_, .refl _, [], _, _, [], _, rfl, rfl, rfl, rfl, rfl, rfl⟩
        | false =>
          replace h := cnd_f h
          cbv
          cases h
          exact ⟨_, .refl _, [], _, _, [], _, rfl, rfl, rfl, rfl, rfl, rfl⟩
end Go.AX
