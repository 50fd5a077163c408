/- What functions of the program compute: each is what its Lean function says. -/
import Derived.Test.YthecmjmlkoomiaaLS3
import Derived.Test.YthecmjmlkoomiaaLS4
namespace Go.AX
open Go.Proofs
set_option autoImplicit false
set_option linter.unusedVariables false
set_option maxRecDepth 100000
set_option maxHeartbeats 100000000
set_option linter.unusedSimpArgs false

theorem s72 {v1 : Int} {v2 : Int} {v3 : Int} {v4 : Int} {v5 : Int} {l6 : List TRef10_Cell} {c7 : List D} {n8 : Nat} {v10 : Int} (hl9 : IsL eRef10_Cell c7 n8 l6) {l11 : List TAt} {c12 : List D} {n13 : Nat} (hl14 : IsL eAt c12 n13 l11) (h : m_ref10_Zone (TGeom.mk v1 v2 v3 v4 v5) l6 v10 = some l11) : Spec Try.prog 72 [.agg [.d (.int .i64 v1), .d (.int .i64 v2), .d (.int .i64 v3), .d (.int .i64 v4), .d (.int .i64 v5)], .d (.lst c7 n8), .d (.int .i64 v10)] ⟨.own 0 n13 2, [(0, .row c12 2 40)], 1, True⟩ := by
  refine spec_b [18] Try.func72 rfl rfl rfl fun J P hJ hP => ?_
  dsimp only [m_ref10_Zone] at h
  cbv
  obtain ⟨p17, q16, hp18, hf19, hq20⟩ := bnd_loop h
  clear h
  refine LoopB.mk ({x : Nat × Int × (List TAt) × (List D) × Nat // IsL eAt x.2.2.2.1 x.2.2.2.2 x.2.2.1 ∧ loopN p17 x.1 (x.2.1, x.2.2.1) = some q16}) (fun x => ⟨[(1, .d (.lst c7 n8)), (2, .d (.int .i64 v10)), (3, .ptr 0 0), (7, .own 1 x.1.2.2.2.2 2), (8, .d (.int .i64 x.1.2.1))], [(0, .box [.d (.int .i64 v1), .d (.int .i64 v2), .d (.int .i64 v3), .d (.int .i64 v4), .d (.int .i64 v5)]), (1, .row x.1.2.2.2.1 2 40)], 2, 41⟩) (fun x => x.1.1) [1, 2, 3, 7, 8] 1 ⟨(FUEL, 0, ([] : List TAt), [], 0), (IsL.nil' (g := eAt)), hf19⟩ ⟨[(0, 0)], [.slot 7 1 2 40], ?_⟩ ?_
  · rfl
  · rintro ⟨⟨N23, v26, l27, c28, n29⟩, hl30, hr22⟩
    obtain ⟨M24, o21, eN25, h, hr22⟩ := loopN_step hr22
    subst eN25
    rw [hp18] at h
    try dsimp only at h ⊢
    cbv
    obtain ⟨v33, h32, h⟩ := bnd h
    refine call_by hP (s84 h32) hJ rfl rfl ?_
    cbv
    revert h
    refine st_cmp hJ fun b34 eb34 h => ?_
    cbv
    cases b34 with
    | true =>
      replace h := cnd_t h
      cbv
      obtain ⟨j36, hj37, h⟩ := jn h
      refine JoinP.mk ({x : Int // j36 (x) = some o21}) (fun x => ⟨[(1, .d (.lst c7 n8)), (2, .d (.int .i64 v10)), (3, .ptr 0 0), (7, .own 1 n29 2), (8, .d (.int .i64 v26)), (9, .ptr 2 0), (10, .d (.int .i64 x.1))], [(0, .box [.d (.int .i64 v1), .d (.int .i64 v2), .d (.int .i64 v3), .d (.int .i64 v4), .d (.int .i64 v5)]), (1, .row c28 2 40), (2, .box [.d (.int .i64 v10), .d (.int .i64 v26)])], 3, 41⟩) (fun _ => True) [1, 2, 3, 7, 8, 9, 10] ?_ ?_
      · cbv
        revert h
        refine st_cmp hJ fun b38 eb38 h => ?_
        cbv
        cases b38 with
        | true =>
          replace h := cnd_t h
          cbv
          obtain ⟨v41, h40, h⟩ := bnd h
          refine call_by hP (s93 h40) hJ rfl rfl ?_
          cbv
          exact ⟨⟨(v41), h⟩, [(0, 0), (1, 1), (10, 2)], 3, [], rfl, trivial⟩
        | false =>
          replace h := cnd_f h
          cbv
          exact ⟨⟨(0), h⟩, [(0, 0), (1, 1), (10, 2)], 3, [], rfl, trivial⟩
      · rintro ⟨v38, h⟩ -
        rw [hj37] at h
        try dsimp only at h ⊢
        cbv
        revert h
        refine st_cmp hJ fun b39 eb39 h => ?_
        cbv
        cases b39 with
        | true =>
          replace h := cnd_t h
          cbv
          obtain ⟨v42, h41, h⟩ := bnd h
          refine call_by hP (s70 hl9 h41) hJ rfl rfl ?_
          cbv
          revert h
          refine st_cmp hJ fun b43 eb43 h => ?_
          cbv
          cases b43 with
          | true =>
            replace h := cnd_t h
            cbv
            have hl44 : IsL eAt [.int .i64 v10, .int .i64 v26] 1 [(TAt.mk v10 v26)] := ⟨rfl, rfl⟩
            refine st_any hJ rfl rfl (by subst hJ; exact (by decide : 2 ≤ 16777216)) ?_
            cbv
            revert h
            refine st_app hJ eAt_len hl30 hl44 fun c46 n47 l45 hl48 h => ?_
            cbv
            revert h
            refine st_bin hJ fun v49 ev49 h => ?_
            cbv
            cases h
            exact ⟨⟨(M24, v49, l45, c46, n47), hl48, hr22⟩, [(0, 0), (15, 1)], 2, [], rfl, Nat.lt_succ_self _⟩
          | false =>
            replace h := cnd_f h
            cbv
            revert h
            refine st_bin hJ fun v44 ev44 h => ?_
            cbv
            cases h
            exact ⟨⟨(M24, v44, l27, c28, n29), hl30, hr22⟩, [(0, 0), (1, 1)], 2, [], rfl, Nat.lt_succ_self _⟩
        | false =>
          replace h := cnd_f h
          cbv
          revert h
          refine st_bin hJ fun v40 ev40 h => ?_
          cbv
          cases h
          exact ⟨⟨(M24, v40, l27, c28, n29), hl30, hr22⟩, [(0, 0), (1, 1)], 2, [], rfl, Nat.lt_succ_self _⟩
    | false =>
      replace h := cnd_f h
      cbv
      cases h
      have h := hq20
      obtain rfl := hr22
      try dsimp only at h
      cases h
      obtain ⟨rfl, rfl⟩ := IsL.uniq hl14 hl30
      exact ⟨_, .refl _, [], _, _, [(1, 0)], _, rfl, rfl, rfl, rfl, rfl, rfl⟩
end Go.AX
