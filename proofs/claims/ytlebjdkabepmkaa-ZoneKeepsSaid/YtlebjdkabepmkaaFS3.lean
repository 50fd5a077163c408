/- What functions of the program compute: each is what its Lean function says. -/
import Derived.Test.YtlebjdkabepmkaaFM
namespace Go.AX
open Go.Proofs
set_option autoImplicit false
set_option linter.unusedVariables false
set_option maxRecDepth 100000
set_option maxHeartbeats 4000000
set_option linter.unusedSimpArgs false

theorem s14 {l1 : List TZone} {c2 : List D} {n3 : Nat} {l5 : List TZone} {c6 : List D} {n7 : Nat} (hl4 : IsL eZone c2 n3 l1) (hl8 : IsL eZone c6 n7 l5) {b9 : Bool}  (h : m_ref04_Same l1 l5 = some b9) : Spec Try.prog 14 [.d (.lst c2 n3), .d (.lst c6 n7)] ⟨.d (.bool b9), [], 0, True⟩ := by
  refine spec_b [] Try.func14 rfl rfl rfl fun J P hJ hP => ?_
  dsimp only [m_ref04_Same] at h
  cbv
  revert h
  refine st_len hJ hl4 fun v11 ev11 h => ?_
  cbv
  revert h
  refine st_len hJ hl8 fun v12 ev12 h => ?_
  cbv
  revert h
  refine st_cmp hJ fun b13 eb13 h => ?_
  cbv
  cases b13 with
  | true =>
    replace h := cnd_t h
    cbv
    cases h
    exact ⟨_, .refl _, [], _, _, [], _, rfl, rfl, rfl, rfl, rfl, rfl⟩
  | false =>
    replace h := cnd_f h
    cbv
    obtain ⟨p15, q14, hp16, hf17, hq18⟩ := bnd_loop h
    clear h
    refine LoopB.mk ({x : Nat × Int // loopN p15 x.1 (x.2) = some q14}) (fun x => ⟨[(0, .d (.lst c2 n3)), (1, .d (.lst c6 n7)), (5, .d (.int .i64 x.1.2))], [], 0, 26⟩) (fun x => x.1.1) [0, 1, 5] 0 ⟨(FUEL, 0), hf17⟩ ⟨[], [], ?_⟩ ?_
    · rfl
    · rintro ⟨⟨N21, v24⟩, hr20⟩
      obtain ⟨M22, o19, eN23, h, hr20⟩ := loopN_step hr20
      subst eN23
      rw [hp16] at h
      try dsimp only at h ⊢
      cbv
      revert h
      refine st_len hJ hl4 fun v25 ev25 h => ?_
      cbv
      revert h
      refine st_cmp hJ fun b26 eb26 h => ?_
      cbv
      cases b26 with
      | true =>
        replace h := cnd_t h
        cbv
        revert h
        refine st_idx_lp hJ hl4 fun y27 k28 hy29 ho30 h => ?_
        obtain ⟨v31, v32⟩ := y27
        try dsimp only at h
        cbv
        refine st_ld hJ eZone_len hl4 hy29 ho30 0 (fun hJ => by subst hJ; rfl) ([.int .i64 v31, .int .i64 v32]) (Nat.le_of_ble_eq_true rfl) rfl (.int (.int .nil)) rfl ?_
        cbv
        revert h
        refine st_idx_lp hJ hl8 fun y33 k34 hy35 ho36 h => ?_
        obtain ⟨v37, v38⟩ := y33
        try dsimp only at h
        cbv
        refine st_ld hJ eZone_len hl8 hy35 ho36 0 (fun hJ => by subst hJ; rfl) ([.int .i64 v37, .int .i64 v38]) (Nat.le_of_ble_eq_true rfl) rfl (.int (.int .nil)) rfl ?_
        cbv
        revert h
        refine st_bool hJ (fun hJ => by subst hJ; rfl) fun b39 eb39 h => ?_
        cbv
        refine ⟨fun _ => by kernel_rfl, ?_⟩
        cbv
        cases b39 with
        | true =>
          replace h := cnd_t h
          cbv
          cases h
          have h := hq18
          obtain rfl := hr20
          try dsimp only at h
          cases h
          exact ⟨_, .refl _, [], _, _, [], _, rfl, rfl, rfl, rfl, rfl, rfl⟩
        | false =>
          replace h := cnd_f h
          cbv
          revert h
          refine st_bin hJ fun v40 ev40 h => ?_
          cbv
          cases h
          exact ⟨⟨(M22, v40), hr20⟩, [], 0, [], rfl, Nat.lt_succ_self _⟩
      | false =>
        replace h := cnd_f h
        cbv
        cases h
        have h := hq18
        obtain rfl := hr20
        try dsimp only at h
        cases h
        exact ⟨_, .refl _, [], _, _, [], _, rfl, rfl, rfl, rfl, rfl, rfl⟩
theorem s35 {l1 : List TZone} {c2 : List D} {n3 : Nat} {i5 : Int} {k8 : Nat} {v6 : Int} {v7 : Int} (hl4 : IsL eZone c2 n3 l1) (hy9 : at? l1 i5 = some (TZone.mk v6 v7)) (ho10 : k8 = i5.toNat * 2) {l11 : List TZone} {c12 : List D} {n13 : Nat} (hl14 : IsL eZone c12 n13 l11) (h : m_zone_shut l1 i5 (TZone.mk v6 v7) = some l11) : SpecM Try.prog 35 1 [(0, .row c2 2 36)] [.pr 0 k8] ⟨.tup [], [(0, .row c12 2 36)], 0, True⟩ := by
  refine specM_b [] 1 1 Try.func35 rfl rfl rfl rfl rfl rfl fun J P hJ hP => ?_
  dsimp only [m_zone_shut] at h
  cbv
  revert h
  refine st_st hJ eZone_len hl4 hy9 ho10 0 (fun hJ => by subst hJ; rfl) rfl (Nat.le_of_ble_eq_true rfl) (TZone.mk 2 v7) rfl fun c17 l16 hl18 h => ?_
  cbv
  obtain ⟨y19, hy20, h⟩ := bnd h
  obtain ⟨v21, v22⟩ := y19
  try dsimp only at h
  refine st_ld hJ eZone_len hl18 hy20 ho10 1 (fun hJ => by subst hJ; rfl) ([.int .i64 v22]) (Nat.le_of_ble_eq_true rfl) rfl (.int .nil) rfl ?_
  cbv
  revert h
  refine st_cmp hJ fun b23 eb23 h => ?_
  cbv
  cases b23 with
  | true =>
    replace h := cnd_t h
    cbv
    obtain ⟨y24, hy25, h⟩ := bnd h
    obtain ⟨v26, v27⟩ := y24
    try dsimp only at h
    revert h
    refine st_st hJ eZone_len hl18 hy25 ho10 0 (fun hJ => by subst hJ; rfl) rfl (Nat.le_of_ble_eq_true rfl) (TZone.mk 0 v27) rfl fun c29 l28 hl30 h => ?_
    cbv
    cases h
    obtain ⟨rfl, rfl⟩ := IsL.uniq hl14 hl30
    exact ⟨_, .refl _, [], _, _, [(0, 0)], _, rfl, rfl, rfl, rfl, rfl, rfl⟩
  | false =>
    replace h := cnd_f h
    cbv
    cases h
    obtain ⟨rfl, rfl⟩ := IsL.uniq hl14 hl18
    exact ⟨_, .refl _, [], _, _, [(0, 0)], _, rfl, rfl, rfl, rfl, rfl, rfl⟩
theorem s33 {v1 : Int} {v2 : Int} {v3 : Int} {v4 : Int} {v5 : Int} {v6 : Int}  {v7 : Int}  (h : m_ref03_Sectors (TGeom.mk v1 v2 v3 v4 v5) v6 = some v7) : Spec Try.prog 33 [.agg [.d (.int .i64 v1), .d (.int .i64 v2), .d (.int .i64 v3), .d (.int .i64 v4), .d (.int .i64 v5)], .d (.int .i64 v6)] ⟨.d (.int .i64 v7), [], 0, True⟩ := by
  refine spec_b [6] Try.func33 rfl rfl rfl fun J P hJ hP => ?_
  dsimp only [m_ref03_Sectors] at h
  cbv
  obtain ⟨j10, hj11, h⟩ := jn h
  refine JoinP.mk ({x : Unit // j10 () = some v7}) (fun x => ⟨[(1, .d (.int .i64 v6)), (2, .ptr 0 0)], [(0, .box [.d (.int .i64 v1), .d (.int .i64 v2), .d (.int .i64 v3), .d (.int .i64 v4), .d (.int .i64 v5)])], 1, 24⟩) (fun _ => True) [1, 2] ?_ ?_
  · cbv
    revert h
    refine st_cmp hJ fun b12 eb12 h => ?_
    cbv
    cases b12 with
    | true =>
      replace h := cnd_t h
      cbv
      cases h
      exact ⟨_, .refl _, [], _, _, [], _, rfl, rfl, rfl, rfl, rfl, rfl⟩
    | false =>
      replace h := cnd_f h
      cbv
      revert h
      refine st_bin hJ fun v13 ev13 h => ?_
      cbv
      revert h
      refine st_cmp hJ fun b14 eb14 h => ?_
      cbv
      cases b14 with
      | true =>
        replace h := cnd_t h
        cbv
        cases h
        exact ⟨_, .refl _, [], _, _, [], _, rfl, rfl, rfl, rfl, rfl, rfl⟩
      | false =>
        replace h := cnd_f h
        cbv
        exact ⟨⟨(), h⟩, [(0, 0)], 1, [], rfl, trivial⟩
  · rintro ⟨_, h⟩ -
    rw [hj11] at h
    try dsimp only at h ⊢
    cbv
    revert h
    refine st_cmp hJ fun b12 eb12 h => ?_
    cbv
    cases b12 with
    | true =>
      replace h := cnd_t h
      cbv
      cases h
      exact ⟨_, .refl _, [], _, _, [], _, rfl, rfl, rfl, rfl, rfl, rfl⟩
    | false =>
      replace h := cnd_f h
      cbv
      cases h
      exact ⟨_, .refl _, [], _, _, [], _, rfl, rfl, rfl, rfl, rfl, rfl⟩
theorem s34 {l1 : List TZone} {c2 : List D} {n3 : Nat} {v5 : Int} {v6 : Int} {v7 : Int} (hl4 : IsL eZone c2 n3 l1) {l8 : List TZone} {c9 : List D} {n10 : Nat} (hl11 : IsL eZone c9 n10 l8) (h : m_ref04_with l1 v5 (TZone.mk v6 v7) = some l8) : Spec Try.prog 34 [.d (.lst c2 n3), .d (.int .i64 v5), .agg [.d (.int .i64 v6), .d (.int .i64 v7)]] ⟨.own 0 n10 2, [(0, .row c9 2 36)], 1, True⟩ := by
  refine spec_b [] Try.func34 rfl rfl rfl fun J P hJ hP => ?_
  dsimp only [m_ref04_with] at h
  cbv
  have hl13 : IsL eZone [] 0 [] := ⟨rfl, rfl⟩
  refine st_any hJ rfl rfl (by subst hJ; exact (by decide : 0 ≤ 16777216)) ?_
  cbv
  revert h
  refine st_app hJ eZone_len hl13 hl4 fun c15 n16 l14 hl17 h => ?_
  cbv
  revert h
  refine st_idx_pr hJ hl17 fun y18 k19 hy20 ho21 h => ?_
  obtain ⟨v22, v23⟩ := y18
  try dsimp only at h
  cbv
  revert h
  refine st_st hJ eZone_len hl17 hy20 ho21 0 (fun hJ => by subst hJ; rfl) rfl (Nat.le_of_ble_eq_true rfl) (TZone.mk v6 v7) rfl fun c25 l24 hl26 h => ?_
  cbv
  cases h
  obtain ⟨rfl, rfl⟩ := IsL.uniq hl11 hl26
  exact ⟨_, .refl _, [], _, _, [(6, 0)], _, rfl, rfl, rfl, rfl, rfl, rfl⟩
end Go.AX
