/- What functions of the program compute: each is what its Lean function says. -/
import Derived.Test.YthecmjmlkoomiaaRS1
namespace Go.AX
open Go.Proofs
set_option autoImplicit false
set_option linter.unusedVariables false
set_option maxRecDepth 100000
set_option maxHeartbeats 100000000
set_option linter.unusedSimpArgs false

theorem s44 {v1 : Int} {v2 : Int} {v3 : Int} {v4 : Int} {v5 : Int}  {l6 : List TZone} {c7 : List D} {n8 : Nat} (hl9 : IsL eZone c7 n8 l6) (h : m_zone_New (TGeom.mk v1 v2 v3 v4 v5) = some l6) : Spec Try.prog 44 [.agg [.d (.int .i64 v1), .d (.int .i64 v2), .d (.int .i64 v3), .d (.int .i64 v4), .d (.int .i64 v5)]] ⟨.own 0 n8 2, [(0, .row c7 2 53)], 1, True⟩ := by
  refine spec_b [] Try.func44 rfl rfl rfl fun J P hJ hP => ?_
  dsimp only [m_zone_New] at h
  cbv
  obtain ⟨v13, h12, h⟩ := bnd h
  refine call_by hP (s77 h12) hJ rfl rfl ?_
  cbv
  revert h
  refine st_mk hJ (g := eZone) (z := (TZone.mk 0 0)) rfl fun c15 n16 l14 hl17 h => ?_
  cbv
  obtain ⟨p19, q18, hp20, hf21, hq22⟩ := bnd_loop h
  clear h
  refine LoopB.mk ({x : Nat × Int × (List TZone) × (List D) × Nat // IsL eZone x.2.2.2.1 x.2.2.2.2 x.2.2.1 ∧ loopN p19 x.1 (x.2.1, x.2.2.1) = some q18}) (fun x => ⟨[(3, .own 0 x.1.2.2.2.2 2), (9, .d (.int .i64 v1)), (10, .d (.int .i64 x.1.2.1))], [(0, .row x.1.2.2.2.1 2 53)], 1, 19⟩) (fun x => x.1.1) [3, 9, 10] 1 ⟨(FUEL, 0, l14, c15, n16), hl17, hf21⟩ ⟨[(5, 0)], [], ?_⟩ ?_
  · rfl
  · rintro ⟨⟨N25, v28, l29, c30, n31⟩, hl32, hr24⟩
    obtain ⟨M26, o23, eN27, h, hr24⟩ := loopN_step hr24
    subst eN27
    rw [hp20] at h
    try dsimp only at h ⊢
    cbv
    revert h
    refine st_cmp hJ fun b33 eb33 h => ?_
    cbv
    cases b33 with
    | true =>
      replace h := cnd_t h
      cbv
      revert h
      refine st_idx_pr hJ hl32 fun y34 k35 hy36 ho37 h => ?_
      obtain ⟨v38, v39⟩ := y34
      try dsimp only at h
      cbv
      revert h
      refine st_st hJ eZone_len hl32 hy36 ho37 0 (fun hJ => by subst hJ; rfl) rfl (Nat.le_of_ble_eq_true rfl) (TZone.mk 4 v39) rfl fun c41 l40 hl42 h => ?_
      cbv
      revert h
      refine st_bin hJ fun v43 ev43 h => ?_
      cbv
      cases h
      exact ⟨⟨(M26, v43, l40, c41, n31), hl42, hr24⟩, [(0, 0)], 1, [], rfl, Nat.lt_succ_self _⟩
    | false =>
      replace h := cnd_f h
      cbv
      cases h
      have h := hq22
      obtain rfl := hr24
      try dsimp only at h
      cases h
      obtain ⟨rfl, rfl⟩ := IsL.uniq hl9 hl32
      exact ⟨_, .refl _, [], _, _, [(0, 0)], _, rfl, rfl, rfl, rfl, rfl, rfl⟩
theorem s104 {v1 : Int} {v2 : Int} {v3 : Int} {v4 : Int} {v5 : Int} {v6 : Int}  {v7 : Int}  (h : m_geom_Sectors (TGeom.mk v1 v2 v3 v4 v5) v6 = some v7) : Spec Try.prog 104 [.agg [.d (.int .i64 v1), .d (.int .i64 v2), .d (.int .i64 v3), .d (.int .i64 v4), .d (.int .i64 v5)], .d (.int .i64 v6)] ⟨.d (.int .i64 v7), [], 0, True⟩ := by
  refine spec_b [4] Try.func104 rfl rfl rfl fun J P hJ hP => ?_
  dsimp only [m_geom_Sectors] at h
  cbv
  obtain ⟨j10, hj11, h⟩ := jn h
  refine JoinP.mk ({x : Bool // j10 (x) = some v7}) (fun x => ⟨[(1, .d (.int .i64 v6)), (2, .ptr 0 0), (5, .d (.bool x.1))], [(0, .box [.d (.int .i64 v1), .d (.int .i64 v2), .d (.int .i64 v3), .d (.int .i64 v4), .d (.int .i64 v5)])], 1, 23⟩) (fun _ => True) [1, 2, 5] ?_ ?_
  · cbv
    revert h
    refine st_cmp hJ fun b12 eb12 h => ?_
    cbv
    cases b12 with
    | true =>
      replace h := cnd_t h
      cbv
      exact ⟨⟨(true), h⟩, [(0, 0)], 1, [], rfl, trivial⟩
    | false =>
      replace h := cnd_f h
      cbv
      obtain ⟨v15, h14, h⟩ := bnd h
      refine call_by hP (s77 h14) hJ rfl rfl ?_
      cbv
      revert h
      refine st_cmp hJ fun b16 eb16 h => ?_
      cbv
      exact ⟨⟨(b16), h⟩, [(0, 0)], 1, [], rfl, trivial⟩
  · rintro ⟨b12, h⟩ -
    rw [hj11] at h
    try dsimp only at h ⊢
    cbv
    cases b12 with
    | true =>
      replace h := cnd_t h
      cbv
      cases h
      exact ⟨_, .refl _, [], _, _, [], _, rfl, rfl, rfl, rfl, rfl, rfl⟩
    | false =>
      replace h := cnd_f h
      cbv
      revert h
      refine st_cmp hJ fun b13 eb13 h => ?_
      cbv
      cases b13 with
      | true =>
        replace h := cnd_t h
        cbv
        cases h
        exact ⟨_, .refl _, [], _, _, [], _, rfl, rfl, rfl, rfl, rfl, rfl⟩
      | false =>
        replace h := cnd_f h
        cbv
        cases h
        exact ⟨_, .refl _, [], _, _, [], _, rfl, rfl, rfl, rfl, rfl, rfl⟩
end Go.AX
