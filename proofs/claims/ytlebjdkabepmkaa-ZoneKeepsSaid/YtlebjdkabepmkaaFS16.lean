/- What functions of the program compute: each is what its Lean function says. -/
import Derived.Test.YtlebjdkabepmkaaFS13
import Derived.Test.YtlebjdkabepmkaaFS14
import Derived.Test.YtlebjdkabepmkaaFS3
import Derived.Test.YtlebjdkabepmkaaFS6
import Derived.Test.YtlebjdkabepmkaaFS9
namespace Go.AX
open Go.Proofs
set_option autoImplicit false
set_option linter.unusedVariables false
set_option maxRecDepth 100000
set_option maxHeartbeats 4000000
set_option linter.unusedSimpArgs false

theorem s6 {v1 : Int} {v2 : Int} {v3 : Int} {v4 : Int} {v5 : Int} {l6 : List TZone} {c7 : List D} {n8 : Nat} {v10 : Int} {v11 : Int} {v12 : Int} (hl9 : IsL eZone c7 n8 l6) {b13 : Bool}  (h : m_law04_ZoneKeeps (TGeom.mk v1 v2 v3 v4 v5) l6 v10 (TAt.mk v11 v12) = some b13) : Spec Try.prog 6 [.agg [.d (.int .i64 v1), .d (.int .i64 v2), .d (.int .i64 v3), .d (.int .i64 v4), .d (.int .i64 v5)], .d (.lst c7 n8), .d (.int .u8 v10), .agg [.d (.int .i64 v11), .d (.int .i64 v12)]] ⟨.d (.bool b13), [], 0, True⟩ := by
  refine spec_b [6, 4] Try.func6 rfl rfl rfl fun J P hJ hP => ?_
  dsimp only [m_law04_ZoneKeeps] at h
  cbv
  obtain ⟨j16, hj17, h⟩ := jn h
  refine JoinP.mk ({x : Unit // j16 () = some b13}) (fun x => ⟨[(1, .d (.lst c7 n8)), (2, .d (.int .u8 v10)), (4, .ptr 0 0), (7, .ptr 1 0)], [(0, .box [.d (.int .i64 v1), .d (.int .i64 v2), .d (.int .i64 v3), .d (.int .i64 v4), .d (.int .i64 v5)]), (1, .box [.d (.int .i64 v11), .d (.int .i64 v12)])], 2, 57⟩) (fun _ => True) [1, 2, 4, 7] ?_ ?_
  · cbv
    obtain ⟨j19, hj20, h⟩ := jn h
    refine JoinP.mk ({x : Bool // j19 (x) = some b13}) (fun x => ⟨[(1, .d (.lst c7 n8)), (2, .d (.int .u8 v10)), (4, .ptr 0 0), (7, .ptr 1 0), (26, .d (.bool x.1))], [(0, .box [.d (.int .i64 v1), .d (.int .i64 v2), .d (.int .i64 v3), .d (.int .i64 v4), .d (.int .i64 v5)]), (1, .box [.d (.int .i64 v11), .d (.int .i64 v12)])], 2, 57⟩) (fun _ => True) [1, 2, 4, 7, 26] ?_ ?_
    · cbv
      obtain ⟨b23, h22, h⟩ := bnd h
      refine call_by hP (s8 h22) hJ rfl rfl ?_
      cbv
      revert h
      refine st_not hJ fun b24 eb24 h => ?_
      cbv
      cases b24 with
      | true =>
        replace h := cnd_t h
        cbv
        exact ⟨⟨(true), h⟩, [(0, 0), (2, 1)], 2, [], rfl, trivial⟩
      | false =>
        replace h := cnd_f h
        cbv
        obtain ⟨b27, h26, h⟩ := bnd h
        refine call_by hP (s9 h26) hJ rfl rfl ?_
        cbv
        revert h
        refine st_not hJ fun b28 eb28 h => ?_
        cbv
        cases b28 with
        | true =>
          replace h := cnd_t h
          cbv
          exact ⟨⟨(true), h⟩, [(0, 0), (2, 1)], 2, [], rfl, trivial⟩
        | false =>
          replace h := cnd_f h
          cbv
          obtain ⟨b31, h30, h⟩ := bnd h
          refine call_by hP (s16 hl9 h30) hJ rfl rfl ?_
          cbv
          revert h
          refine st_not hJ fun b32 eb32 h => ?_
          cbv
          exact ⟨⟨(b32), h⟩, [(0, 0), (2, 1)], 2, [], rfl, trivial⟩
    · rintro ⟨b21, h⟩ -
      rw [hj20] at h
      try dsimp only at h ⊢
      cbv
      cases b21 with
      | true =>
        replace h := cnd_t h
        cbv
        obtain ⟨b24, h23, h⟩ := bnd h
        refine call_by hP (s8 h23) hJ rfl rfl ?_
        cbv
        cases h
        exact ⟨_, .refl _, [], _, _, [], _, rfl, rfl, rfl, rfl, rfl, rfl⟩
      | false =>
        replace h := cnd_f h
        cbv
        exact ⟨⟨(), h⟩, [(0, 0), (1, 1)], 2, [], rfl, trivial⟩
  · rintro ⟨_, h⟩ -
    rw [hj17] at h
    try dsimp only at h ⊢
    cbv
    revert h
    refine st_div hJ fun v18 zv18 ev18 h => ?_
    cbv
    revert h
    refine st_conv hJ fun v19 ev19 h => ?_
    cbv
    revert h
    refine st_cmp hJ fun b20 eb20 h => ?_
    cbv
    cases b20 with
    | true =>
      replace h := cnd_t h
      cbv
      cases h
      exact ⟨_, .refl _, [], _, _, [], _, rfl, rfl, rfl, rfl, rfl, rfl⟩
    | false =>
      replace h := cnd_f h
      cbv
      have hl21 : IsL eZone [] 0 [] := ⟨rfl, rfl⟩
      refine st_any hJ rfl rfl (by subst hJ; exact (by decide : 0 ≤ 16777216)) ?_
      cbv
      revert h
      refine st_app hJ eZone_len hl21 hl9 fun c23 n24 l22 hl25 h => ?_
      cbv
      obtain ⟨⟨l28, v32⟩, h27, h⟩ := bnd h
      obtain ⟨c29, n30, hl31⟩ := nameL eZone l28
      try dsimp only at h
      refine call_by hP (s18_1 hl9 hl31 h27) hJ rfl rfl ?_
      cbv
      obtain ⟨p34, q33, hp35, hf36, hq37⟩ := bnd_loop h
      clear h
      refine LoopB.mk ({x : Nat × Int × (List TZone) × (List D) × Nat // IsL eZone x.2.2.2.1 x.2.2.2.2 x.2.2.1 ∧ loopN p34 x.1 (x.2.1, x.2.2.1) = some q33}) (fun x => ⟨[(1, .d (.lst c7 n8)), (10, .own 0 n24 2), (11, .own 1 x.1.2.2.2.2 2), (13, .d (.int .i64 x.1.2.1))], [(0, .row c23 2 36), (1, .row x.1.2.2.2.1 2 36)], 2, 57⟩) (fun x => x.1.1) [1, 10, 11, 13] 2 ⟨(FUEL, 0, l28, c29, n30), hl31, hf36⟩ ⟨[(11, 0), (18, 1)], [], ?_⟩ ?_
      · rfl
      · rintro ⟨⟨N40, v43, l44, c45, n46⟩, hl47, hr39⟩
        obtain ⟨M41, o38, eN42, h, hr39⟩ := loopN_step hr39
        subst eN42
        rw [hp35] at h
        try dsimp only at h ⊢
        cbv
        revert h
        refine st_len hJ hl47 fun v48 ev48 h => ?_
        cbv
        revert h
        refine st_cmp hJ fun b49 eb49 h => ?_
        cbv
        cases b49 with
        | true =>
          replace h := cnd_t h
          cbv
          revert h
          refine st_idx_pr hJ hl47 fun y50 k51 hy52 ho53 h => ?_
          obtain ⟨v54, v55⟩ := y50
          try dsimp only at h
          cbv
          revert h
          refine st_st hJ eZone_len hl47 hy52 ho53 1 (fun hJ => by subst hJ; rfl) rfl (Nat.le_of_ble_eq_true rfl) (TZone.mk v54 (-7)) rfl fun c57 l56 hl58 h => ?_
          cbv
          revert h
          refine st_bin hJ fun v59 ev59 h => ?_
          cbv
          cases h
          exact ⟨⟨(M41, v59, l56, c57, n46), hl58, hr39⟩, [(0, 0), (1, 1)], 2, [], rfl, Nat.lt_succ_self _⟩
        | false =>
          replace h := cnd_f h
          cbv
          cases h
          have h := hq37
          obtain rfl := hr39
          try dsimp only at h
          obtain ⟨b52, h51, h⟩ := bnd h
          refine snap_by hP (s14 hl9 hl25 h51) hJ (by cbv) rfl ⟨trivial, trivial⟩ ?_
          cbv
          cases h
          exact ⟨_, .refl _, [], _, _, [], _, rfl, rfl, rfl, rfl, rfl, rfl⟩
end Go.AX
