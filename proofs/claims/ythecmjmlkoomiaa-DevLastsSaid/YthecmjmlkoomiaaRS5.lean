/- What functions of the program compute: each is what its Lean function says. -/
import Derived.Test.YthecmjmlkoomiaaRM
namespace Go.AX
open Go.Proofs
set_option autoImplicit false
set_option linter.unusedVariables false
set_option maxRecDepth 100000
set_option maxHeartbeats 100000000
set_option linter.unusedSimpArgs false

theorem s45 {v1 : Int} {v2 : Int} {v3 : Int} {v4 : Int} {v5 : Int}  {l6 : List TZone} {c7 : List D} {n8 : Nat} (hl9 : IsL eZone c7 n8 l6) (h : m_ref04_New (TGeom.mk v1 v2 v3 v4 v5) = some l6) : Spec Try.prog 45 [.agg [.d (.int .i64 v1), .d (.int .i64 v2), .d (.int .i64 v3), .d (.int .i64 v4), .d (.int .i64 v5)]] ⟨.own 0 n8 2, [(0, .row c7 2 53)], 1, True⟩ := by
  refine spec_b [] Try.func45 rfl rfl rfl fun J P hJ hP => ?_
  dsimp only [m_ref04_New] at h
  cbv
  obtain ⟨p12, q11, hp13, hf14, hq15⟩ := bnd_loop h
  clear h
  refine LoopB.mk ({x : Nat × Int × (List TZone) × (List D) × Nat // IsL eZone x.2.2.2.1 x.2.2.2.2 x.2.2.1 ∧ loopN p12 x.1 (x.2.1, x.2.2.1) = some q11}) (fun x => ⟨[(1, .ptr 0 0), (3, .own 1 x.1.2.2.2.2 2), (4, .d (.int .i64 x.1.2.1))], [(0, .box [.d (.int .i64 v1), .d (.int .i64 v2), .d (.int .i64 v3), .d (.int .i64 v4), .d (.int .i64 v5)]), (1, .row x.1.2.2.2.1 2 53)], 2, 27⟩) (fun x => x.1.1) [1, 3, 4] 1 ⟨(FUEL, 0, ([] : List TZone), [], 0), (IsL.nil' (g := eZone)), hf14⟩ ⟨[(0, 0)], [.slot 3 1 2 53], ?_⟩ ?_
  · rfl
  · rintro ⟨⟨N18, v21, l22, c23, n24⟩, hl25, hr17⟩
    obtain ⟨M19, o16, eN20, h, hr17⟩ := loopN_step hr17
    subst eN20
    rw [hp13] at h
    try dsimp only at h ⊢
    cbv
    revert h
    refine st_bin hJ fun v26 ev26 h => ?_
    cbv
    revert h
    refine st_cmp hJ fun b27 eb27 h => ?_
    cbv
    cases b27 with
    | true =>
      replace h := cnd_t h
      cbv
      revert h
      refine st_cmp hJ fun b28 eb28 h => ?_
      cbv
      cases b28 with
      | true =>
        replace h := cnd_t h
        cbv
        have hl29 : IsL eZone [.int .i64 4, .int .i64 0] 1 [(TZone.mk 4 0)] := ⟨rfl, rfl⟩
        refine st_any hJ rfl rfl (by subst hJ; exact (by decide : 2 ≤ 16777216)) ?_
        cbv
        revert h
        refine st_app hJ eZone_len hl25 hl29 fun c31 n32 l30 hl33 h => ?_
        cbv
        revert h
        refine st_bin hJ fun v34 ev34 h => ?_
        cbv
        cases h
        exact ⟨⟨(M19, v34, l30, c31, n32), hl33, hr17⟩, [(0, 0), (17, 1)], 2, [], rfl, Nat.lt_succ_self _⟩
      | false =>
        replace h := cnd_f h
        cbv
        have hl29 : IsL eZone [.int .i64 0, .int .i64 0] 1 [(TZone.mk 0 0)] := ⟨rfl, rfl⟩
        refine st_any hJ rfl rfl (by subst hJ; exact (by decide : 2 ≤ 16777216)) ?_
        cbv
        revert h
        refine st_app hJ eZone_len hl25 hl29 fun c31 n32 l30 hl33 h => ?_
        cbv
        revert h
        refine st_bin hJ fun v34 ev34 h => ?_
        cbv
        cases h
        exact ⟨⟨(M19, v34, l30, c31, n32), hl33, hr17⟩, [(0, 0), (17, 1)], 2, [], rfl, Nat.lt_succ_self _⟩
    | false =>
      replace h := cnd_f h
      cbv
      cases h
      have h := hq15
      obtain rfl := hr17
      try dsimp only at h
      cases h
      obtain ⟨rfl, rfl⟩ := IsL.uniq hl9 hl25
      exact ⟨_, .refl _, [], _, _, [(1, 0)], _, rfl, rfl, rfl, rfl, rfl, rfl⟩
theorem s99 {v1 : Int} {v2 : Int} {a3 : Ar 64} {d4 : List D} {v6 : Int} (ha5 : d4 = encL (eI .u8) a3.l) {b7 : Bool}  (h : m___dev_Device__forget_1 (TAt.mk v1 v2) a3 v6 = some b7) : SpecM Try.prog 99 1 [(0, .box [.d (.int .i64 v6)])] [.agg [.d (.int .i64 v1), .d (.int .i64 v2)], .agg [.big 64 d4], .ptr 0 0] ⟨.d (.bool b7), [(0, .box [.d (.int .i64 v6)])], 0, True⟩ := by
  refine specM_b [] 1 1 Try.func99 rfl rfl rfl rfl rfl rfl fun J P hJ hP => ?_
  dsimp only [m___dev_Device__forget_1] at h
  cbv
  revert h
  refine st_cmp hJ fun b9 eb9 h => ?_
  cbv
  cases h
  exact ⟨_, .refl _, [], _, _, [(0, 0)], _, rfl, rfl, rfl, rfl, rfl, rfl⟩
theorem s101 {v1 : Int} {v2 : Int} {a3 : Ar 64} {d4 : List D} {v6 : Int} (ha5 : d4 = encL (eI .u8) a3.l) {b7 : Bool}  (h : m___dev_Device__forget_2 (TDev_write.mk (TAt.mk v1 v2) a3) v6 = some b7) : SpecM Try.prog 101 1 [(0, .box [.d (.int .i64 v6)])] [.agg [.d (.int .i64 v1), .d (.int .i64 v2), .big 64 d4], .ptr 0 0] ⟨.d (.bool b7), [(0, .box [.d (.int .i64 v6)])], 0, True⟩ := by
  refine specM_b [] 1 1 Try.func101 rfl rfl rfl rfl rfl rfl fun J P hJ hP => ?_
  dsimp only [m___dev_Device__forget_2] at h
  cbv
  revert h
  refine st_cmp hJ fun b9 eb9 h => ?_
  cbv
  cases h
  exact ⟨_, .refl _, [], _, _, [(0, 0)], _, rfl, rfl, rfl, rfl, rfl, rfl⟩
theorem s83 {v1 : Int} {v2 : Int} {a3 : Ar 64} {d4 : List D} {v6 : Int} (ha5 : d4 = encL (eI .u8) a3.l) {b7 : Bool}  (h : m___dev_Device__Finish_1_1 (TDev_write.mk (TAt.mk v1 v2) a3) v6 = some b7) : SpecM Try.prog 83 1 [(0, .box [.d (.int .i64 v6)])] [.agg [.d (.int .i64 v1), .d (.int .i64 v2), .big 64 d4], .ptr 0 0] ⟨.d (.bool b7), [(0, .box [.d (.int .i64 v6)])], 0, True⟩ := by
  refine specM_b [] 1 1 Try.func83 rfl rfl rfl rfl rfl rfl fun J P hJ hP => ?_
  dsimp only [m___dev_Device__Finish_1_1] at h
  cbv
  revert h
  refine st_cmp hJ fun b9 eb9 h => ?_
  cbv
  cases h
  exact ⟨_, .refl _, [], _, _, [(0, 0)], _, rfl, rfl, rfl, rfl, rfl, rfl⟩
theorem s17 {v1 : Int} {v2 : Int} {v3 : Int} {v4 : Int} {v5 : Int} {v6 : Int} {l7 : List TZone} {c8 : List D} {n9 : Nat} {m11 : List (Int × Bool)} {c12 : List (List D × List D)} {m14 : List (TAt × (Ar 64))} {c15 : List (List D × List D)} {m17 : List (TAt × (Ar 64))} {c18 : List (List D × List D)} {l20 : List TDev_write} {c21 : List D} {n22 : Nat} {v24 : Int} {b25 : Bool} {v26 : Int} (hl10 : IsL eZone c8 n9 l7) (hm13 : c12 = encM (eI .i64) eB m11) (hm16 : c15 = encM eAt (eA .u8) m14) (hm19 : c18 = encM eAt (eA .u8) m17) (hl23 : IsL eDev_write c21 n22 l20) {v27 : Int} {v28 : Int} {v29 : Int} {v30 : Int} {v31 : Int} {l32 : List TZone} {c33 : List D} {n34 : Nat} {m36 : List (Int × Bool)} {c37 : List (List D × List D)} {m39 : List (TAt × (Ar 64))} {c40 : List (List D × List D)} {m42 : List (TAt × (Ar 64))} {c43 : List (List D × List D)} {l45 : List TDev_write} {c46 : List D} {n47 : Nat} {v49 : Int} {b50 : Bool} {v51 : Int} (hl35 : IsL eZone c33 n34 l32) (hm38 : c37 = encM (eI .i64) eB m36) (hm41 : c40 = encM eAt (eA .u8) m39) (hm44 : c43 = encM eAt (eA .u8) m42) (hl48 : IsL eDev_write c46 n47 l45) (h : m___dev_Device__Arm v1 (TDev_Device.mk (TGeom.mk v2 v3 v4 v5 v6) l7 m11 m14 m17 l20 v24 b25 v26) = some (TDev_Device.mk (TGeom.mk v27 v28 v29 v30 v31) l32 m36 m39 m42 l45 v49 b50 v51)) : SpecM Try.prog 17 6 [(0, .box [.d (.int .i64 v2), .d (.int .i64 v3), .d (.int .i64 v4), .d (.int .i64 v5), .d (.int .i64 v6), .own 1 n9 2, .map 2, .map 3, .map 4, .own 5 n22 66, .d (.int .i64 v24), .d (.bool b25), .d (.int .i64 v26)]), (1, .row c8 2 53), (2, .mp false false c12), (3, .mp true true c15), (4, .mp true true c18), (5, .row c21 66 109)] [.ptr 0 0, .d (.int .i64 v1)] ⟨.tup [], [(0, .box [.d (.int .i64 v27), .d (.int .i64 v28), .d (.int .i64 v29), .d (.int .i64 v30), .d (.int .i64 v31), .own 1 n34 2, .map 2, .map 3, .map 4, .own 5 n47 66, .d (.int .i64 v49), .d (.bool b50), .d (.int .i64 v51)]), (1, .row c33 2 53), (2, .mp false false c37), (3, .mp true true c40), (4, .mp true true c43), (5, .row c46 66 109)], 0, True⟩ := by
  refine specM_b [] 6 6 Try.func17 rfl rfl rfl rfl rfl rfl fun J P hJ hP => ?_
  dsimp only [m___dev_Device__Arm] at h
  cbv
  cases b25 with
  | true =>
    replace h := cnd_t h
    cbv
    cases h
    obtain ⟨rfl, rfl⟩ := IsL.uniq hl35 hl10
    obtain rfl := hm38.trans (hm13).symm
    obtain rfl := hm41.trans (hm16).symm
    obtain rfl := hm44.trans (hm19).symm
    obtain ⟨rfl, rfl⟩ := IsL.uniq hl48 hl23
    exact ⟨_, .refl _, [], _, _, [(0, 0), (1, 1), (2, 2), (3, 3), (4, 4), (5, 5)], _, rfl, rfl, rfl, rfl, rfl, rfl⟩
  | false =>
    replace h := cnd_f h
    cbv
    revert h
    refine st_cmp hJ fun b53 eb53 h => ?_
    cbv
    cases h
    obtain ⟨rfl, rfl⟩ := IsL.uniq hl35 hl10
    obtain rfl := hm38.trans (hm13).symm
    obtain rfl := hm41.trans (hm16).symm
    obtain rfl := hm44.trans (hm19).symm
    obtain ⟨rfl, rfl⟩ := IsL.uniq hl48 hl23
    exact ⟨_, .refl _, [], _, _, [(0, 0), (1, 1), (2, 2), (3, 3), (4, 4), (5, 5)], _, rfl, rfl, rfl, rfl, rfl, rfl⟩
end Go.AX
