/- What functions of the program compute: each is what its Lean function says. -/
import Derived.Test.YthecmjmlkoomiaaLM
namespace Go.AX
open Go.Proofs
set_option autoImplicit false
set_option linter.unusedVariables false
set_option maxRecDepth 100000
set_option maxHeartbeats 100000000
set_option linter.unusedSimpArgs false

theorem s39 {v1 : Int} {v2 : Int} {v3 : Int} {v4 : Int} {v5 : Int} {v6 : Int}  {v7 : Int} {v8 : Int} {b9 : Bool}  (h : m_ref03_At (TGeom.mk v1 v2 v3 v4 v5) v6 = some ((TAt.mk v7 v8), b9)) : Spec Try.prog 39 [.agg [.d (.int .i64 v1), .d (.int .i64 v2), .d (.int .i64 v3), .d (.int .i64 v4), .d (.int .i64 v5)], .d (.int .i64 v6)] ⟨.tup [.agg [.d (.int .i64 v7), .d (.int .i64 v8)], .d (.bool b9)], [], 0, True⟩ := by
  refine spec_b [12, 10] Try.func39 rfl rfl rfl fun J P hJ hP => ?_
  dsimp only [m_ref03_At] at h
  cbv
  obtain ⟨p12, q11, hp13, hf14, hq15⟩ := bnd_loop h
  clear h
  refine LoopB.mk ({x : Nat × Int × Int // loopN p12 x.1 (x.2.1, x.2.2) = some q11}) (fun x => ⟨[(1, .d (.int .i64 x.1.2.1)), (2, .ptr 0 0), (4, .ptr 1 0), (6, .d (.int .i64 x.1.2.2))], [(0, .box [.d (.int .i64 v1), .d (.int .i64 v2), .d (.int .i64 v3), .d (.int .i64 v4), .d (.int .i64 v5)]), (1, .box [.d (.int .i64 0), .d (.int .i64 0)])], 2, 38⟩) (fun x => x.1.1) [1, 2, 4, 6] 2 ⟨(FUEL, v6, v1), hf14⟩ ⟨[(0, 0), (2, 1)], [], ?_⟩ ?_
  · rfl
  · rintro ⟨⟨N18, v21, v22⟩, hr17⟩
    obtain ⟨M19, o16, eN20, h, hr17⟩ := loopN_step hr17
    subst eN20
    rw [hp13] at h
    try dsimp only at h ⊢
    cbv
    revert h
    refine st_bin hJ fun v23 ev23 h => ?_
    cbv
    revert h
    refine st_cmp hJ fun b24 eb24 h => ?_
    cbv
    cases b24 with
    | true =>
      replace h := cnd_t h
      cbv
      obtain ⟨j26, hj27, h⟩ := jn h
      refine JoinP.mk ({x : Unit // j26 () = some o16}) (fun x => ⟨[(1, .d (.int .i64 v21)), (2, .ptr 0 0), (4, .ptr 1 0), (6, .d (.int .i64 v22))], [(0, .box [.d (.int .i64 v1), .d (.int .i64 v2), .d (.int .i64 v3), .d (.int .i64 v4), .d (.int .i64 v5)]), (1, .box [.d (.int .i64 0), .d (.int .i64 0)])], 2, 38⟩) (fun _ => True) [1, 2, 4, 6] ?_ ?_
      · cbv
        obtain ⟨j29, hj30, h⟩ := jn h
        refine JoinP.mk ({x : Bool // j29 (x) = some o16}) (fun x => ⟨[(1, .d (.int .i64 v21)), (2, .ptr 0 0), (4, .ptr 1 0), (6, .d (.int .i64 v22)), (25, .d (.bool x.1))], [(0, .box [.d (.int .i64 v1), .d (.int .i64 v2), .d (.int .i64 v3), .d (.int .i64 v4), .d (.int .i64 v5)]), (1, .box [.d (.int .i64 0), .d (.int .i64 0)])], 2, 38⟩) (fun _ => True) [1, 2, 4, 6, 25] ?_ ?_
        · cbv
          revert h
          refine st_cmp hJ fun b31 eb31 h => ?_
          cbv
          cases b31 with
          | true =>
            replace h := cnd_t h
            cbv
            revert h
            refine st_cmp hJ fun b32 eb32 h => ?_
            cbv
            exact ⟨⟨(b32), h⟩, [(0, 0), (1, 1)], 2, [], rfl, trivial⟩
          | false =>
            replace h := cnd_f h
            cbv
            exact ⟨⟨(false), h⟩, [(0, 0), (1, 1)], 2, [], rfl, trivial⟩
        · rintro ⟨b31, h⟩ -
          rw [hj30] at h
          try dsimp only at h ⊢
          cbv
          cases b31 with
          | true =>
            replace h := cnd_t h
            cbv
            revert h
            refine st_bin hJ fun v32 ev32 h => ?_
            cbv
            cases h
            have h := hq15
            obtain rfl := hr17
            try dsimp only at h
            cases h
            exact ⟨_, .refl _, [], _, _, [], _, rfl, rfl, rfl, rfl, rfl, rfl⟩
          | false =>
            replace h := cnd_f h
            cbv
            exact ⟨⟨(), h⟩, [(0, 0), (1, 1)], 2, [], rfl, trivial⟩
      · rintro ⟨_, h⟩ -
        rw [hj27] at h
        try dsimp only at h ⊢
        cbv
        revert h
        refine st_cmp hJ fun b28 eb28 h => ?_
        cbv
        cases b28 with
        | true =>
          replace h := cnd_t h
          cbv
          cases h
          have h := hq15
          obtain rfl := hr17
          try dsimp only at h
          cases h
          exact ⟨_, .refl _, [], _, _, [], _, rfl, rfl, rfl, rfl, rfl, rfl⟩
        | false =>
          replace h := cnd_f h
          cbv
          revert h
          refine st_bin hJ fun v29 ev29 h => ?_
          cbv
          revert h
          refine st_bin hJ fun v30 ev30 h => ?_
          cbv
          cases h
          exact ⟨⟨(M19, v29, v30), hr17⟩, [(0, 0), (1, 1)], 2, [], rfl, Nat.lt_succ_self _⟩
    | false =>
      replace h := cnd_f h
      cbv
      cases h
      have h := hq15
      obtain rfl := hr17
      try dsimp only at h
      cases h
      exact ⟨_, .refl _, [], _, _, [], _, rfl, rfl, rfl, rfl, rfl, rfl⟩
theorem s70 {l1 : List TRef10_Cell} {c2 : List D} {n3 : Nat} {v5 : Int} (hl4 : IsL eRef10_Cell c2 n3 l1) {v6 : Int}  (h : m_ref10_Find l1 v5 = some v6) : Spec Try.prog 70 [.d (.lst c2 n3), .d (.int .i64 v5)] ⟨.d (.int .i64 v6), [], 0, True⟩ := by
  refine spec_b [] Try.func70 rfl rfl rfl fun J P hJ hP => ?_
  dsimp only [m_ref10_Find] at h
  cbv
  obtain ⟨p9, q8, hp10, hf11, hq12⟩ := bnd_loop h
  clear h
  refine LoopB.mk ({x : Nat × Int // loopN p9 x.1 (x.2) = some q8}) (fun x => ⟨[(0, .d (.lst c2 n3)), (1, .d (.int .i64 v5)), (5, .d (.int .i64 x.1.2))], [], 0, 20⟩) (fun x => x.1.1) [0, 1, 5] 0 ⟨(FUEL, 0), hf11⟩ ⟨[], [], ?_⟩ ?_
  · rfl
  · rintro ⟨⟨N15, v18⟩, hr14⟩
    obtain ⟨M16, o13, eN17, h, hr14⟩ := loopN_step hr14
    subst eN17
    rw [hp10] at h
    try dsimp only at h ⊢
    cbv
    revert h
    refine st_len hJ hl4 fun v19 ev19 h => ?_
    cbv
    revert h
    refine st_cmp hJ fun b20 eb20 h => ?_
    cbv
    cases b20 with
    | true =>
      replace h := cnd_t h
      cbv
      revert h
      refine st_idx_lp hJ hl4 fun y21 k22 hy23 ho24 h => ?_
      obtain ⟨v25, v26⟩ := y21
      try dsimp only at h
      cbv
      refine st_ld hJ eRef10_Cell_len hl4 hy23 ho24 0 (fun hJ => by subst hJ; rfl) ([.int .i64 v25]) (Nat.le_of_ble_eq_true rfl) rfl (.int .nil) rfl ?_
      cbv
      revert h
      refine st_cmp hJ fun b27 eb27 h => ?_
      cbv
      cases b27 with
      | true =>
        replace h := cnd_t h
        cbv
        cases h
        have h := hq12
        obtain rfl := hr14
        try dsimp only at h
        cases h
        exact ⟨_, .refl _, [], _, _, [], _, rfl, rfl, rfl, rfl, rfl, rfl⟩
      | false =>
        replace h := cnd_f h
        cbv
        revert h
        refine st_bin hJ fun v28 ev28 h => ?_
        cbv
        cases h
        exact ⟨⟨(M16, v28), hr14⟩, [], 0, [], rfl, Nat.lt_succ_self _⟩
    | false =>
      replace h := cnd_f h
      cbv
      cases h
      have h := hq12
      obtain rfl := hr14
      try dsimp only at h
      cases h
      exact ⟨_, .refl _, [], _, _, [], _, rfl, rfl, rfl, rfl, rfl, rfl⟩
theorem s84 {v1 : Int} {v2 : Int} {v3 : Int} {v4 : Int} {v5 : Int} {v6 : Int}  {v7 : Int}  (h : m_ref03_Sectors (TGeom.mk v1 v2 v3 v4 v5) v6 = some v7) : Spec Try.prog 84 [.agg [.d (.int .i64 v1), .d (.int .i64 v2), .d (.int .i64 v3), .d (.int .i64 v4), .d (.int .i64 v5)], .d (.int .i64 v6)] ⟨.d (.int .i64 v7), [], 0, True⟩ := by
  refine spec_b [6] Try.func84 rfl rfl rfl fun J P hJ hP => ?_
  dsimp only [m_ref03_Sectors] at h
  cbv
  obtain ⟨j10, hj11, h⟩ := jn h
  refine JoinP.mk ({x : Unit // j10 () = some v7}) (fun x => ⟨[(1, .d (.int .i64 v6)), (2, .ptr 0 0)], [(0, .box [.d (.int .i64 v1), .d (.int .i64 v2), .d (.int .i64 v3), .d (.int .i64 v4), .d (.int .i64 v5)])], 1, 24⟩) (fun _ => True) [1, 2] ?_ ?_
  · cbv
    revert h
    refine st_cmp hJ fun b12 eb12 h => ?_
    cbv
    cases b12 with
    | true =>
      replace h := cnd_t h
      cbv
      cases h
      exact ⟨_, .refl _, [], _, _, [], _, rfl, rfl, rfl, rfl, rfl, rfl⟩
    | false =>
      replace h := cnd_f h
      cbv
      revert h
      refine st_bin hJ fun v13 ev13 h => ?_
      cbv
      revert h
      refine st_cmp hJ fun b14 eb14 h => ?_
      cbv
      cases b14 with
      | true =>
        replace h := cnd_t h
        cbv
        cases h
        exact ⟨_, .refl _, [], _, _, [], _, rfl, rfl, rfl, rfl, rfl, rfl⟩
      | false =>
        replace h := cnd_f h
        cbv
        exact ⟨⟨(), h⟩, [(0, 0)], 1, [], rfl, trivial⟩
  · rintro ⟨_, h⟩ -
    rw [hj11] at h
    try dsimp only at h ⊢
    cbv
    revert h
    refine st_cmp hJ fun b12 eb12 h => ?_
    cbv
    cases b12 with
    | true =>
      replace h := cnd_t h
      cbv
      cases h
      exact ⟨_, .refl _, [], _, _, [], _, rfl, rfl, rfl, rfl, rfl, rfl⟩
    | false =>
      replace h := cnd_f h
      cbv
      cases h
      exact ⟨_, .refl _, [], _, _, [], _, rfl, rfl, rfl, rfl, rfl, rfl⟩
end Go.AX
