/- What functions of the program compute: each is what its Lean function says. -/
import Derived.Test.YthecmjmlkoomiaaLS10
import Derived.Test.YthecmjmlkoomiaaLS11
import Derived.Test.YthecmjmlkoomiaaLS12
import Derived.Test.YthecmjmlkoomiaaLS3
import Derived.Test.YthecmjmlkoomiaaLS5
import Derived.Test.YthecmjmlkoomiaaLS6
import Derived.Test.YthecmjmlkoomiaaLS8
namespace Go.AX
open Go.Proofs
set_option autoImplicit false
set_option linter.unusedVariables false
set_option maxRecDepth 100000
set_option maxHeartbeats 100000000
set_option linter.unusedSimpArgs false

theorem s8 {v1 : Int} {v2 : Int} {v3 : Int} {v4 : Int} {v5 : Int} {l6 : List Int} {c7 : List D} {n8 : Nat} {v10 : Int} {v11 : Int} (hl9 : IsL (eI .i64) c7 n8 l6) {b12 : Bool}  (h : m_law10_LiveAgain (TGeom.mk v1 v2 v3 v4 v5) l6 v10 v11 = some b12) : Spec Try.prog 8 [.agg [.d (.int .i64 v1), .d (.int .i64 v2), .d (.int .i64 v3), .d (.int .i64 v4), .d (.int .i64 v5)], .d (.lst c7 n8), .d (.int .i64 v10), .d (.int .i64 v11)] ⟨.d (.bool b12), [], 0, True⟩ := by
  refine spec_b [6, 4, 28, 34] Try.func8 rfl rfl rfl fun J P hJ hP => ?_
  dsimp only [m_law10_LiveAgain] at h
  cbv
  obtain ⟨j15, hj16, h⟩ := jn h
  refine JoinP.mk ({x : Unit // j15 () = some b12}) (fun x => ⟨[(1, .d (.lst c7 n8)), (2, .d (.int .i64 v10)), (3, .d (.int .i64 v11)), (4, .ptr 0 0)], [(0, .box [.d (.int .i64 v1), .d (.int .i64 v2), .d (.int .i64 v3), .d (.int .i64 v4), .d (.int .i64 v5)])], 1, 102⟩) (fun _ => True) [1, 2, 3, 4] ?_ ?_
  · cbv
    obtain ⟨j18, hj19, h⟩ := jn h
    refine JoinP.mk ({x : Bool // j18 (x) = some b12}) (fun x => ⟨[(1, .d (.lst c7 n8)), (2, .d (.int .i64 v10)), (3, .d (.int .i64 v11)), (4, .ptr 0 0), (28, .d (.bool x.1))], [(0, .box [.d (.int .i64 v1), .d (.int .i64 v2), .d (.int .i64 v3), .d (.int .i64 v4), .d (.int .i64 v5)])], 1, 102⟩) (fun _ => True) [1, 2, 3, 4, 28] ?_ ?_
    · cbv
      obtain ⟨b22, h21, h⟩ := bnd h
      refine call_by hP (s28 h21) hJ rfl rfl ?_
      cbv
      revert h
      refine st_not hJ fun b23 eb23 h => ?_
      cbv
      cases b23 with
      | true =>
        replace h := cnd_t h
        cbv
        exact ⟨⟨(true), h⟩, [(0, 0)], 1, [], rfl, trivial⟩
      | false =>
        replace h := cnd_f h
        cbv
        obtain ⟨b26, h25, h⟩ := bnd h
        refine call_by hP (s29 h25) hJ rfl rfl ?_
        cbv
        revert h
        refine st_not hJ fun b27 eb27 h => ?_
        cbv
        cases b27 with
        | true =>
          replace h := cnd_t h
          cbv
          exact ⟨⟨(true), h⟩, [(0, 0)], 1, [], rfl, trivial⟩
        | false =>
          replace h := cnd_f h
          cbv
          revert h
          refine st_len hJ hl9 fun v28 ev28 h => ?_
          cbv
          revert h
          refine st_cmp hJ fun b29 eb29 h => ?_
          cbv
          exact ⟨⟨(b29), h⟩, [(0, 0)], 1, [], rfl, trivial⟩
    · rintro ⟨b20, h⟩ -
      rw [hj19] at h
      try dsimp only at h ⊢
      cbv
      cases b20 with
      | true =>
        replace h := cnd_t h
        cbv
        obtain ⟨b23, h22, h⟩ := bnd h
        refine call_by hP (s28 h22) hJ rfl rfl ?_
        cbv
        cases h
        exact ⟨_, .refl _, [], _, _, [], _, rfl, rfl, rfl, rfl, rfl, rfl⟩
      | false =>
        replace h := cnd_f h
        cbv
        exact ⟨⟨(), h⟩, [(0, 0)], 1, [], rfl, trivial⟩
  · rintro ⟨_, h⟩ -
    rw [hj16] at h
    try dsimp only at h ⊢
    cbv
    rcases altE h with h | h
    · obtain ⟨_, h18, h⟩ := bnd h
      refine callM_by hP (s38l hl9 h18) [] false hJ rfl rfl rfl rfl rfl (.inl rfl) ?_
      cbv
      revert h
      refine st_not hJ fun b19 eb19 h => ?_
      replace eb19 : b19 = true := eb19
      subst eb19
      cbv
      cases h
      exact ⟨_, .refl _, [], _, _, [], _, rfl, rfl, rfl, rfl, rfl, rfl⟩
    · obtain ⟨⟨⟨v19, v20, v21, v22, v23⟩, m24, m27⟩, h18, h⟩ := bnd h
      obtain ⟨c25, hm26⟩ := nameM eAt (eI .i64) m24
      obtain ⟨c28, hm29⟩ := nameM (eI .i64) (eI .i64) m27
      try dsimp only at h
      refine callM_by hP (s38r hl9 hm26 hm29 h18) [] false hJ rfl rfl rfl rfl rfl (.inl rfl) ?_
      cbv
      revert h
      refine st_not hJ fun b30 eb30 h => ?_
      replace eb30 : b30 = false := eb30
      subst eb30
      cbv
      obtain ⟨⟨⟨v33, v34⟩, b35⟩, h32, h⟩ := bnd h
      try dsimp only at h
      refine call_by hP (s39 h32) hJ rfl rfl ?_
      cbv
      obtain ⟨⟨b38, ⟨⟨v39, v40, v41, v42, v43⟩, m44, m47⟩⟩, h37, h⟩ := bnd h
      obtain ⟨c45, hm46⟩ := nameM eAt (eI .i64) m44
      obtain ⟨c48, hm49⟩ := nameM (eI .i64) (eI .i64) m47
      try dsimp only at h
      refine callM_by hP (s32 hm26 hm29 hm46 hm49 h37) [(3, 0), (4, 1), (5, 2)] false hJ rfl rfl rfl rfl rfl (.inl rfl) ?_
      cbv
      obtain ⟨⟨b52, ⟨⟨v53, v54, v55, v56, v57⟩, m58, m61⟩⟩, h51, h⟩ := bnd h
      obtain ⟨c59, hm60⟩ := nameM eAt (eI .i64) m58
      obtain ⟨c62, hm63⟩ := nameM (eI .i64) (eI .i64) m61
      try dsimp only at h
      refine callM_by hP (s33 hm46 hm49 hm60 hm63 h51) [(3, 0), (4, 1), (5, 2)] false hJ rfl rfl rfl rfl rfl (.inl rfl) ?_
      cbv
      obtain ⟨p65, q64, hp66, hf67, hq68⟩ := bnd_loop h
      clear h
      refine LoopB.mk ({x : Nat × Int × (List TRef10_Cell) × (List D) × Nat // IsL eRef10_Cell x.2.2.2.1 x.2.2.2.2 x.2.2.1 ∧ loopN p65 x.1 (x.2.1, x.2.2.1) = some q64}) (fun x => ⟨[(1, .d (.lst c7 n8)), (2, .d (.int .i64 v10)), (3, .d (.int .i64 v11)), (4, .ptr 0 0), (9, .ptr 1 0), (12, .d (.bool b35)), (13, .d (.bool b38)), (14, .d (.bool b52)), (15, .own 4 x.1.2.2.2.2 2), (16, .d (.int .i64 x.1.2.1))], [(0, .box [.d (.int .i64 v1), .d (.int .i64 v2), .d (.int .i64 v3), .d (.int .i64 v4), .d (.int .i64 v5)]), (1, .box [.d (.int .i64 v53), .d (.int .i64 v54), .d (.int .i64 v55), .d (.int .i64 v56), .d (.int .i64 v57), .map 2, .map 3]), (2, .mp true false c59), (3, .mp false false c62), (4, .row x.1.2.2.2.1 2 69)], 5, 102⟩) (fun x => x.1.1) [1, 2, 3, 4, 9, 12, 13, 14, 15, 16] 4 ⟨(FUEL, 0, ([] : List TRef10_Cell), [], 0), (IsL.nil' (g := eRef10_Cell)), hf67⟩ ⟨[(0, 0), (3, 1), (4, 2), (5, 3)], [.slot 15 4 2 69], ?_⟩ ?_
      · rfl
      · rintro ⟨⟨N71, v74, l75, c76, n77⟩, hl78, hr70⟩
        obtain ⟨M72, o69, eN73, h, hr70⟩ := loopN_step hr70
        subst eN73
        rw [hp66] at h
        try dsimp only at h ⊢
        cbv
        revert h
        refine st_len hJ hl9 fun v79 ev79 h => ?_
        cbv
        revert h
        refine st_cmp hJ fun b80 eb80 h => ?_
        cbv
        cases b80 with
        | true =>
          replace h := cnd_t h
          cbv
          obtain ⟨j82, hj83, h⟩ := jn h
          refine JoinP.mk ({x : Bool // j82 (x) = some o69}) (fun x => ⟨[(1, .d (.lst c7 n8)), (2, .d (.int .i64 v10)), (3, .d (.int .i64 v11)), (4, .ptr 0 0), (9, .ptr 1 0), (12, .d (.bool b35)), (13, .d (.bool b38)), (14, .d (.bool b52)), (15, .own 2 n77 2), (16, .d (.int .i64 v74)), (69, .d (.bool x.1))], [(0, .box [.d (.int .i64 v1), .d (.int .i64 v2), .d (.int .i64 v3), .d (.int .i64 v4), .d (.int .i64 v5)]), (1, .box [.d (.int .i64 v53), .d (.int .i64 v54), .d (.int .i64 v55), .d (.int .i64 v56), .d (.int .i64 v57), .map 3, .map 4]), (2, .row c76 2 69), (3, .mp true false c59), (4, .mp false false c62)], 5, 102⟩) (fun _ => True) [1, 2, 3, 4, 9, 12, 13, 14, 15, 16, 69] ?_ ?_
          · cbv
            revert h
            refine st_idx_lp hJ hl9 fun y84 k85 hy86 ho87 h => ?_
            cbv
            refine st_ld hJ (eI_len .i64) hl9 hy86 ho87 0 (fun hJ => by subst hJ; rfl) ([.int .i64 y84]) (Nat.le_of_ble_eq_true rfl) rfl (.int .nil) rfl ?_
            cbv
            revert h
            refine st_cmp hJ fun b89 eb89 h => ?_
            cbv
            cases b89 with
            | true =>
              replace h := cnd_t h
              cbv
              revert h
              refine st_idx_lp hJ hl9 fun y90 k91 hy92 ho93 h => ?_
              cbv
              refine st_ld hJ (eI_len .i64) hl9 hy92 ho93 0 (fun hJ => by subst hJ; rfl) ([.int .i64 y90]) (Nat.le_of_ble_eq_true rfl) rfl (.int .nil) rfl ?_
              cbv
              revert h
              refine st_cmp hJ fun b95 eb95 h => ?_
              cbv
              exact ⟨⟨(b95), h⟩, [(0, 0), (1, 1), (4, 2), (2, 3), (3, 4)], 5, [], rfl, trivial⟩
            | false =>
              replace h := cnd_f h
              cbv
              exact ⟨⟨(false), h⟩, [(0, 0), (1, 1), (4, 2), (2, 3), (3, 4)], 5, [], rfl, trivial⟩
          · rintro ⟨b84, h⟩ -
            rw [hj83] at h
            try dsimp only at h ⊢
            cbv
            cases b84 with
            | true =>
              replace h := cnd_t h
              cbv
              revert h
              refine st_idx_lp hJ hl9 fun y85 k86 hy87 ho88 h => ?_
              cbv
              refine st_ld hJ (eI_len .i64) hl9 hy87 ho88 0 (fun hJ => by subst hJ; rfl) ([.int .i64 y85]) (Nat.le_of_ble_eq_true rfl) rfl (.int .nil) rfl ?_
              cbv
              have hl90 : IsL eRef10_Cell [.int .i64 y85, .int .i64 v74] 1 [(TRef10_Cell.mk y85 v74)] := ⟨rfl, rfl⟩
              refine st_any hJ rfl rfl (by subst hJ; exact (by decide : 2 ≤ 16777216)) ?_
              cbv
              revert h
              refine st_app hJ eRef10_Cell_len hl78 hl90 fun c92 n93 l91 hl94 h => ?_
              cbv
              revert h
              refine st_bin hJ fun v95 ev95 h => ?_
              cbv
              cases h
              exact ⟨⟨(M72, v95, l91, c92, n93), hl94, hr70⟩, [(0, 0), (1, 1), (3, 2), (4, 3), (14, 4)], 5, [], rfl, Nat.lt_succ_self _⟩
            | false =>
              replace h := cnd_f h
              cbv
              revert h
              refine st_bin hJ fun v85 ev85 h => ?_
              cbv
              cases h
              exact ⟨⟨(M72, v85, l75, c76, n77), hl78, hr70⟩, [(0, 0), (1, 1), (3, 2), (4, 3), (2, 4)], 5, [], rfl, Nat.lt_succ_self _⟩
        | false =>
          replace h := cnd_f h
          cbv
          cases h
          have h := hq68
          obtain rfl := hr70
          try dsimp only at h
          obtain ⟨j82, hj83, h⟩ := jn h
          refine JoinP.mk ({x : Bool × (List TRef10_Cell) × (List D) × Nat // IsL eRef10_Cell x.2.2.1 x.2.2.2 x.2.1 ∧ j82 (x.1, x.2.1) = some b12}) (fun x => ⟨[(4, .ptr 0 0), (9, .ptr 1 0), (12, .d (.bool x.1.1)), (13, .d (.bool b38)), (14, .d (.bool b52)), (15, .own 2 x.1.2.2.2 2)], [(0, .box [.d (.int .i64 v1), .d (.int .i64 v2), .d (.int .i64 v3), .d (.int .i64 v4), .d (.int .i64 v5)]), (1, .box [.d (.int .i64 v53), .d (.int .i64 v54), .d (.int .i64 v55), .d (.int .i64 v56), .d (.int .i64 v57), .map 3, .map 4]), (2, .row x.1.2.2.1 2 69), (3, .mp true false c59), (4, .mp false false c62)], 5, 102⟩) (fun _ => True) [4, 9, 12, 13, 14, 15] ?_ ?_
          · cbv
            cases b35 with
            | true =>
              replace h := cnd_t h
              cbv
              have hl84 : IsL eRef10_Cell [.int .i64 v10, .int .i64 v11] 1 [(TRef10_Cell.mk v10 v11)] := ⟨rfl, rfl⟩
              refine st_any hJ rfl rfl (by subst hJ; exact (by decide : 2 ≤ 16777216)) ?_
              cbv
              revert h
              refine st_app hJ eRef10_Cell_len hl78 hl84 fun c86 n87 l85 hl88 h => ?_
              cbv
              exact ⟨⟨(true, l85, c86, n87), hl88, h⟩, [(0, 0), (1, 1), (16, 2), (2, 3), (3, 4)], 5, [], rfl, trivial⟩
            | false =>
              replace h := cnd_f h
              cbv
              exact ⟨⟨(false, l75, c76, n77), hl78, h⟩, [(0, 0), (1, 1), (4, 2), (2, 3), (3, 4)], 5, [], rfl, trivial⟩
          · rintro ⟨⟨b84, l85, c86, n87⟩, hl88, h⟩ -
            rw [hj83] at h
            try dsimp only at h ⊢
            cbv
            revert h
            refine st_eqb hJ fun b89 eb89 h => ?_
            cbv
            cases b89 with
            | true =>
              replace h := cnd_t h
              cbv
              revert h
              refine st_not hJ fun b90 eb90 h => ?_
              cbv
              cases b90 with
              | true =>
                replace h := cnd_t h
                cbv
                obtain ⟨b93, h92, h⟩ := bnd h
                refine callM_by hP (s34 hl88 hm60 hm63 h92) [(1, 0), (3, 1), (4, 2)] true hJ rfl rfl (by cbv) rfl rfl (.inr ⟨trivial, ⟨⟨trivial, ⟨trivial, ⟨trivial, ⟨trivial, ⟨trivial, ⟨trivial, ⟨trivial, trivial⟩⟩⟩⟩⟩⟩⟩, ⟨(noL_map hm60 eAt_noL (eI_noL .i64)), ⟨(noL_map hm63 (eI_noL .i64) (eI_noL .i64)), trivial⟩⟩⟩⟩) ?_
                cbv
                cases h
                exact ⟨_, .refl _, [], _, _, [], _, rfl, rfl, rfl, rfl, rfl, rfl⟩
              | false =>
                replace h := cnd_f h
                cbv
                cases b84 with
                | true =>
                  replace h := cnd_t h
                  cbv
                  obtain ⟨b93, h92, h⟩ := bnd h
                  refine callM_by hP (s34 hl88 hm60 hm63 h92) [(1, 0), (3, 1), (4, 2)] true hJ rfl rfl (by cbv) rfl rfl (.inr ⟨trivial, ⟨⟨trivial, ⟨trivial, ⟨trivial, ⟨trivial, ⟨trivial, ⟨trivial, ⟨trivial, trivial⟩⟩⟩⟩⟩⟩⟩, ⟨(noL_map hm60 eAt_noL (eI_noL .i64)), ⟨(noL_map hm63 (eI_noL .i64) (eI_noL .i64)), trivial⟩⟩⟩⟩) ?_
                  cbv
                  cases h
                  exact ⟨_, .refl _, [], _, _, [], _, rfl, rfl, rfl, rfl, rfl, rfl⟩
                | false =>
                  replace h := cnd_f h
                  cbv
                  cases h
                  exact ⟨_, .refl _, [], _, _, [], _, rfl, rfl, rfl, rfl, rfl, rfl⟩
            | false =>
              replace h := cnd_f h
              cbv
              cases h
              exact ⟨_, .refl _, [], _, _, [], _, rfl, rfl, rfl, rfl, rfl, rfl⟩
end Go.AX
