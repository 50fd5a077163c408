/- What functions of the program compute: each is what its Lean function says. -/
import Derived.Test.YtlebjdkabepmkaaFS1
import Derived.Test.YtlebjdkabepmkaaFS2
namespace Go.AX
open Go.Proofs
set_option autoImplicit false
set_option linter.unusedVariables false
set_option maxRecDepth 100000
set_option maxHeartbeats 4000000
set_option linter.unusedSimpArgs false

theorem s15 {v1 : Int} {v2 : Int} {v3 : Int} {v4 : Int} {v5 : Int} {l6 : List TZone} {c7 : List D} {n8 : Nat} (hl9 : IsL eZone c7 n8 l6) {b10 : Bool}  (h : m_zone_Right (TGeom.mk v1 v2 v3 v4 v5) l6 = some b10) : Spec Try.prog 15 [.agg [.d (.int .i64 v1), .d (.int .i64 v2), .d (.int .i64 v3), .d (.int .i64 v4), .d (.int .i64 v5)], .d (.lst c7 n8)] ⟨.d (.bool b10), [], 0, True⟩ := by
  refine spec_b [6] Try.func15 rfl rfl rfl fun J P hJ hP => ?_
  dsimp only [m_zone_Right] at h
  cbv
  obtain ⟨j13, hj14, h⟩ := jn h
  refine JoinP.mk ({x : Unit // j13 () = some b10}) (fun x => ⟨[(1, .d (.lst c7 n8)), (2, .ptr 0 0)], [(0, .box [.d (.int .i64 v1), .d (.int .i64 v2), .d (.int .i64 v3), .d (.int .i64 v4), .d (.int .i64 v5)])], 1, 48⟩) (fun _ => True) [1, 2] ?_ ?_
  · cbv
    revert h
    refine st_len hJ hl9 fun v15 ev15 h => ?_
    cbv
    obtain ⟨v18, h17, h⟩ := bnd h
    refine call_by hP (s23 h17) hJ rfl rfl ?_
    cbv
    revert h
    refine st_cmp hJ fun b19 eb19 h => ?_
    cbv
    cases b19 with
    | true =>
      replace h := cnd_t h
      cbv
      refine ⟨fun _ => by kernel_rfl, ?_⟩
      cbv
      cases h
      exact ⟨_, .refl _, [], _, _, [], _, rfl, rfl, rfl, rfl, rfl, rfl⟩
    | false =>
      replace h := cnd_f h
      cbv
      obtain ⟨v22, h21, h⟩ := bnd h
      refine call_by hP (s26 hl9 h21) hJ rfl rfl ?_
      cbv
      revert h
      refine st_cmp hJ fun b23 eb23 h => ?_
      cbv
      refine ⟨fun _ => by kernel_rfl, ?_⟩
      cbv
      cases b23 with
      | true =>
        replace h := cnd_t h
        cbv
        cases h
        exact ⟨_, .refl _, [], _, _, [], _, rfl, rfl, rfl, rfl, rfl, rfl⟩
      | false =>
        replace h := cnd_f h
        cbv
        exact ⟨⟨(), h⟩, [(0, 0)], 1, [], rfl, trivial⟩
  · rintro ⟨_, h⟩ -
    rw [hj14] at h
    try dsimp only at h ⊢
    cbv
    revert h
    refine st_len hJ hl9 fun v15 ev15 h => ?_
    cbv
    obtain ⟨p17, q16, hp18, hf19, hq20⟩ := bnd_loop h
    clear h
    refine LoopB.mk ({x : Nat × Int // loopN p17 x.1 (x.2) = some q16}) (fun x => ⟨[(2, .ptr 0 0), (19, .d (.lst c7 n8)), (20, .d (.int .i64 v15)), (21, .d (.int .i64 x.1.2))], [(0, .box [.d (.int .i64 v1), .d (.int .i64 v2), .d (.int .i64 v3), .d (.int .i64 v4), .d (.int .i64 v5)])], 1, 48⟩) (fun x => x.1.1) [2, 19, 20, 21] 1 ⟨(FUEL, 0), hf19⟩ ⟨[(0, 0)], [], ?_⟩ ?_
    · rfl
    · rintro ⟨⟨N23, v26⟩, hr22⟩
      obtain ⟨M24, o21, eN25, h, hr22⟩ := loopN_step hr22
      subst eN25
      rw [hp18] at h
      try dsimp only at h ⊢
      cbv
      revert h
      refine st_cmp hJ fun b27 eb27 h => ?_
      cbv
      cases b27 with
      | true =>
        replace h := cnd_t h
        cbv
        revert h
        refine st_idx_lp hJ hl9 fun y28 k29 hy30 ho31 h => ?_
        obtain ⟨v32, v33⟩ := y28
        try dsimp only at h
        cbv
        refine st_ld hJ eZone_len hl9 hy30 ho31 0 (fun hJ => by subst hJ; rfl) ([.int .i64 v32, .int .i64 v33]) (Nat.le_of_ble_eq_true rfl) rfl (.int (.int .nil)) rfl ?_
        cbv
        revert h
        refine st_cmp hJ fun b34 eb34 h => ?_
        cbv
        cases b34 with
        | true =>
          replace h := cnd_t h
          cbv
          revert h
          refine st_bool hJ (fun hJ => by subst hJ; rfl) fun b35 eb35 h => ?_
          cbv
          cases b35 with
          | true =>
            replace h := cnd_t h
            cbv
            cases h
            have h := hq20
            obtain rfl := hr22
            try dsimp only at h
            cases h
            exact ⟨_, .refl _, [], _, _, [], _, rfl, rfl, rfl, rfl, rfl, rfl⟩
          | false =>
            replace h := cnd_f h
            cbv
            revert h
            refine st_cmp hJ fun b36 eb36 h => ?_
            cbv
            cases b36 with
            | true =>
              replace h := cnd_t h
              cbv
              obtain ⟨b39, h38, h⟩ := bnd h
              refine call_by hP (s28 h38) hJ rfl rfl ?_
              cbv
              revert h
              refine st_not hJ fun b40 eb40 h => ?_
              cbv
              cases b40 with
              | true =>
                replace h := cnd_t h
                cbv
                cases h
                have h := hq20
                obtain rfl := hr22
                try dsimp only at h
                cases h
                exact ⟨_, .refl _, [], _, _, [], _, rfl, rfl, rfl, rfl, rfl, rfl⟩
              | false =>
                replace h := cnd_f h
                cbv
                revert h
                refine st_bin hJ fun v41 ev41 h => ?_
                cbv
                cases h
                exact ⟨⟨(M24, v41), hr22⟩, [(0, 0)], 1, [], rfl, Nat.lt_succ_self _⟩
            | false =>
              replace h := cnd_f h
              cbv
              revert h
              refine st_bin hJ fun v37 ev37 h => ?_
              cbv
              cases h
              exact ⟨⟨(M24, v37), hr22⟩, [(0, 0)], 1, [], rfl, Nat.lt_succ_self _⟩
        | false =>
          replace h := cnd_f h
          cbv
          revert h
          refine st_cmp hJ fun b35 eb35 h => ?_
          cbv
          cases b35 with
          | true =>
            replace h := cnd_t h
            cbv
            obtain ⟨b38, h37, h⟩ := bnd h
            refine call_by hP (s28 h37) hJ rfl rfl ?_
            cbv
            revert h
            refine st_not hJ fun b39 eb39 h => ?_
            cbv
            cases b39 with
            | true =>
              replace h := cnd_t h
              cbv
              cases h
              have h := hq20
              obtain rfl := hr22
              try dsimp only at h
              cases h
              exact ⟨_, .refl _, [], _, _, [], _, rfl, rfl, rfl, rfl, rfl, rfl⟩
            | false =>
              replace h := cnd_f h
              cbv
              revert h
              refine st_bin hJ fun v40 ev40 h => ?_
              cbv
              cases h
              exact ⟨⟨(M24, v40), hr22⟩, [(0, 0)], 1, [], rfl, Nat.lt_succ_self _⟩
          | false =>
            replace h := cnd_f h
            cbv
            revert h
            refine st_bin hJ fun v36 ev36 h => ?_
            cbv
            cases h
            exact ⟨⟨(M24, v36), hr22⟩, [(0, 0)], 1, [], rfl, Nat.lt_succ_self _⟩
      | false =>
        replace h := cnd_f h
        cbv
        cases h
        have h := hq20
        obtain rfl := hr22
        try dsimp only at h
        cases h
        exact ⟨_, .refl _, [], _, _, [], _, rfl, rfl, rfl, rfl, rfl, rfl⟩
theorem s22 {v1 : Int} {v2 : Int} {v3 : Int} {v4 : Int} {v5 : Int}  {v6 : Int}  (h : m_ref03_Pages (TGeom.mk v1 v2 v3 v4 v5) = some v6) : Spec Try.prog 22 [.agg [.d (.int .i64 v1), .d (.int .i64 v2), .d (.int .i64 v3), .d (.int .i64 v4), .d (.int .i64 v5)]] ⟨.d (.int .i64 v6), [], 0, True⟩ := by
  refine spec_b [] Try.func22 rfl rfl rfl fun J P hJ hP => ?_
  dsimp only [m_ref03_Pages] at h
  cbv
  obtain ⟨p9, q8, hp10, hf11, hq12⟩ := bnd_loop h
  clear h
  refine LoopB.mk ({x : Nat × Int // loopN p9 x.1 (x.2) = some q8}) (fun x => ⟨[(1, .ptr 0 0), (3, .d (.int .i64 x.1.2))], [(0, .box [.d (.int .i64 v1), .d (.int .i64 v2), .d (.int .i64 v3), .d (.int .i64 v4), .d (.int .i64 v5)])], 1, 12⟩) (fun x => x.1.1) [1, 3] 1 ⟨(FUEL, 0), hf11⟩ ⟨[(0, 0)], [], ?_⟩ ?_
  · rfl
  · rintro ⟨⟨N15, v18⟩, hr14⟩
    obtain ⟨M16, o13, eN17, h, hr14⟩ := loopN_step hr14
    subst eN17
    rw [hp10] at h
    try dsimp only at h ⊢
    cbv
    revert h
    refine st_bin hJ fun v19 ev19 h => ?_
    cbv
    obtain ⟨v22, h21, h⟩ := bnd h
    refine call_by hP (s36 h21) hJ rfl rfl ?_
    cbv
    revert h
    refine st_cmp hJ fun b23 eb23 h => ?_
    cbv
    cases b23 with
    | true =>
      replace h := cnd_t h
      cbv
      revert h
      refine st_bin hJ fun v24 ev24 h => ?_
      cbv
      cases h
      exact ⟨⟨(M16, v24), hr14⟩, [(0, 0)], 1, [], rfl, Nat.lt_succ_self _⟩
    | false =>
      replace h := cnd_f h
      cbv
      cases h
      have h := hq12
      obtain rfl := hr14
      try dsimp only at h
      cases h
      exact ⟨_, .refl _, [], _, _, [], _, rfl, rfl, rfl, rfl, rfl, rfl⟩
end Go.AX
