/- What functions of the program compute: each is what its Lean function says. -/
import Derived.Test.YthecmjmlkoomiaaRS6
import Derived.Test.YthecmjmlkoomiaaRS7
namespace Go.AX
open Go.Proofs
set_option autoImplicit false
set_option linter.unusedVariables false
set_option maxRecDepth 100000
set_option maxHeartbeats 100000000
set_option linter.unusedSimpArgs false

theorem s49 {v1 : Int} {v2 : Int} {v3 : Int} {v4 : Int} {v5 : Int} {l6 : List TZone} {c7 : List D} {n8 : Nat} {v10 : Int} {v11 : Int} {v12 : Int} (hl9 : IsL eZone c7 n8 l6) {l13 : List TZone} {c14 : List D} {n15 : Nat} {v17 : Int} (hl16 : IsL eZone c14 n15 l13) (h : m_ref04_Act (TGeom.mk v1 v2 v3 v4 v5) l6 v10 (TAt.mk v11 v12) = some (l13, v17)) : Spec Try.prog 49 [.agg [.d (.int .i64 v1), .d (.int .i64 v2), .d (.int .i64 v3), .d (.int .i64 v4), .d (.int .i64 v5)], .d (.lst c7 n8), .d (.int .i64 v10), .agg [.d (.int .i64 v11), .d (.int .i64 v12)]] ⟨.tup [.d (.lst c14 n15), .d (.int .i64 v17)], [], 0, True⟩ := by
  refine spec_b [26, 4, 16, 32, 40, 68, 84, 88, 98] Try.func49 rfl rfl rfl fun J P hJ hP => ?_
  dsimp only [m_ref04_Act] at h
  cbv
  obtain ⟨j20, hj21, h⟩ := jn h
  refine JoinP.mk ({x : Unit // j20 () = some (l13, v17)}) (fun x => ⟨[(1, .d (.lst c7 n8)), (2, .d (.int .i64 v10)), (4, .ptr 0 0), (7, .ptr 1 0)], [(0, .box [.d (.int .i64 v1), .d (.int .i64 v2), .d (.int .i64 v3), .d (.int .i64 v4), .d (.int .i64 v5)]), (1, .box [.d (.int .i64 v11), .d (.int .i64 v12)])], 2, 173⟩) (fun _ => True) [1, 2, 4, 7] ?_ ?_
  · cbv
    obtain ⟨j23, hj24, h⟩ := jn h
    refine JoinP.mk ({x : Bool // j23 (x) = some (l13, v17)}) (fun x => ⟨[(1, .d (.lst c7 n8)), (2, .d (.int .i64 v10)), (4, .ptr 0 0), (7, .ptr 1 0), (21, .d (.bool x.1))], [(0, .box [.d (.int .i64 v1), .d (.int .i64 v2), .d (.int .i64 v3), .d (.int .i64 v4), .d (.int .i64 v5)]), (1, .box [.d (.int .i64 v11), .d (.int .i64 v12)])], 2, 173⟩) (fun _ => True) [1, 2, 4, 7, 21] ?_ ?_
    · cbv
      revert h
      refine st_cmp hJ fun b25 eb25 h => ?_
      cbv
      cases b25 with
      | true =>
        replace h := cnd_t h
        cbv
        exact ⟨⟨(true), h⟩, [(0, 0), (2, 1)], 2, [], rfl, trivial⟩
      | false =>
        replace h := cnd_f h
        cbv
        revert h
        refine st_cmp hJ fun b26 eb26 h => ?_
        cbv
        exact ⟨⟨(b26), h⟩, [(0, 0), (2, 1)], 2, [], rfl, trivial⟩
    · rintro ⟨b25, h⟩ -
      rw [hj24] at h
      try dsimp only at h ⊢
      cbv
      cases b25 with
      | true =>
        replace h := cnd_t h
        cbv
        obtain ⟨p27, q26, hp28, hf29, hq30⟩ := bnd_loop h
        clear h
        refine LoopB.mk ({x : Nat × Int × (List TZone) × (List D) × Nat // IsL eZone x.2.2.2.1 x.2.2.2.2 x.2.2.1 ∧ loopN p27 x.1 (x.2.1, x.2.2.1) = some q26}) (fun x => ⟨[(1, .d (.lst c7 n8)), (10, .own 0 x.1.2.2.2.2 2), (11, .d (.int .i64 x.1.2.1))], [(0, .row x.1.2.2.2.1 2 53)], 1, 173⟩) (fun x => x.1.1) [1, 10, 11] 0 ⟨(FUEL, 0, ([] : List TZone), [], 0), (IsL.nil' (g := eZone)), hf29⟩ ⟨[], [.slot 10 0 2 53], ?_⟩ ?_
        · rfl
        · rintro ⟨⟨N33, v36, l37, c38, n39⟩, hl40, hr32⟩
          obtain ⟨M34, o31, eN35, h, hr32⟩ := loopN_step hr32
          subst eN35
          rw [hp28] at h
          try dsimp only at h ⊢
          cbv
          revert h
          refine st_len hJ hl9 fun v41 ev41 h => ?_
          cbv
          revert h
          refine st_cmp hJ fun b42 eb42 h => ?_
          cbv
          cases b42 with
          | true =>
            replace h := cnd_t h
            cbv
            revert h
            refine st_idx_lp hJ hl9 fun y43 k44 hy45 ho46 h => ?_
            obtain ⟨v47, v48⟩ := y43
            try dsimp only at h
            cbv
            refine st_ld hJ eZone_len hl9 hy45 ho46 0 (fun hJ => by subst hJ; rfl) ([.int .i64 v47, .int .i64 v48]) (Nat.le_of_ble_eq_true rfl) rfl (.int (.int .nil)) rfl ?_
            cbv
            obtain ⟨j50, hj51, h⟩ := jn h
            refine JoinP.mk ({x : Bool // j50 (x) = some o31}) (fun x => ⟨[(1, .d (.lst c7 n8)), (10, .own 0 n39 2), (11, .d (.int .i64 v36)), (12, .ptr 1 0), (39, .d (.bool x.1))], [(0, .row c38 2 53), (1, .box [.d (.int .i64 v47), .d (.int .i64 v48)])], 2, 173⟩) (fun _ => True) [1, 10, 11, 12, 39] ?_ ?_
            · cbv
              revert h
              refine st_cmp hJ fun b52 eb52 h => ?_
              cbv
              cases b52 with
              | true =>
                replace h := cnd_t h
                cbv
                revert h
                refine st_cmp hJ fun b53 eb53 h => ?_
                cbv
                exact ⟨⟨(b53), h⟩, [(0, 0), (9, 1)], 2, [], rfl, trivial⟩
              | false =>
                replace h := cnd_f h
                cbv
                exact ⟨⟨(false), h⟩, [(0, 0), (9, 1)], 2, [], rfl, trivial⟩
            · rintro ⟨b52, h⟩ -
              rw [hj51] at h
              try dsimp only at h ⊢
              cbv
              cases b52 with
              | true =>
                replace h := cnd_t h
                cbv
                have hl53 : IsL eZone [.int .i64 0, .int .i64 v48] 1 [(TZone.mk 0 v48)] := ⟨rfl, rfl⟩
                refine st_any hJ rfl rfl (by subst hJ; exact (by decide : 2 ≤ 16777216)) ?_
                cbv
                revert h
                refine st_app hJ eZone_len hl40 hl53 fun c55 n56 l54 hl57 h => ?_
                cbv
                revert h
                refine st_bin hJ fun v58 ev58 h => ?_
                cbv
                cases h
                exact ⟨⟨(M34, v58, l54, c55, n56), hl57, hr32⟩, [(8, 0)], 1, [], rfl, Nat.lt_succ_self _⟩
              | false =>
                replace h := cnd_f h
                cbv
                revert h
                refine st_cmp hJ fun b53 eb53 h => ?_
                cbv
                cases b53 with
                | true =>
                  replace h := cnd_t h
                  cbv
                  have hl54 : IsL eZone [.int .i64 2, .int .i64 v48] 1 [(TZone.mk 2 v48)] := ⟨rfl, rfl⟩
                  refine st_any hJ rfl rfl (by subst hJ; exact (by decide : 2 ≤ 16777216)) ?_
                  cbv
                  revert h
                  refine st_app hJ eZone_len hl40 hl54 fun c56 n57 l55 hl58 h => ?_
                  cbv
                  revert h
                  refine st_bin hJ fun v59 ev59 h => ?_
                  cbv
                  cases h
                  exact ⟨⟨(M34, v59, l55, c56, n57), hl58, hr32⟩, [(11, 0)], 1, [], rfl, Nat.lt_succ_self _⟩
                | false =>
                  replace h := cnd_f h
                  cbv
                  have hl54 : IsL eZone [.int .i64 v47, .int .i64 v48] 1 [(TZone.mk v47 v48)] := ⟨rfl, rfl⟩
                  refine st_any hJ rfl rfl (by subst hJ; exact (by decide : 2 ≤ 16777216)) ?_
                  cbv
                  revert h
                  refine st_app hJ eZone_len hl40 hl54 fun c56 n57 l55 hl58 h => ?_
                  cbv
                  revert h
                  refine st_bin hJ fun v59 ev59 h => ?_
                  cbv
                  cases h
                  exact ⟨⟨(M34, v59, l55, c56, n57), hl58, hr32⟩, [(9, 0)], 1, [], rfl, Nat.lt_succ_self _⟩
          | false =>
            replace h := cnd_f h
            cbv
            cases h
            have h := hq30
            obtain rfl := hr32
            try dsimp only at h
            cases h
            obtain ⟨rfl, rfl⟩ := IsL.uniq hl16 hl40
            exact ⟨_, .refl _, [], _, _, [], _, rfl, rfl, rfl, rfl, rfl, rfl⟩
      | false =>
        replace h := cnd_f h
        cbv
        exact ⟨⟨(), h⟩, [(0, 0), (1, 1)], 2, [], rfl, trivial⟩
  · rintro ⟨_, h⟩ -
    rw [hj21] at h
    try dsimp only at h ⊢
    cbv
    obtain ⟨v24, h23, h⟩ := bnd h
    refine call_by hP (s84 h23) hJ rfl rfl ?_
    cbv
    obtain ⟨j26, hj27, h⟩ := jn h
    refine JoinP.mk ({x : Unit // j26 () = some (l13, v17)}) (fun x => ⟨[(1, .d (.lst c7 n8)), (2, .d (.int .i64 v10)), (4, .ptr 0 0), (7, .ptr 1 0)], [(0, .box [.d (.int .i64 v1), .d (.int .i64 v2), .d (.int .i64 v3), .d (.int .i64 v4), .d (.int .i64 v5)]), (1, .box [.d (.int .i64 v11), .d (.int .i64 v12)])], 2, 173⟩) (fun _ => True) [1, 2, 4, 7] ?_ ?_
    · cbv
      revert h
      refine st_cmp hJ fun b28 eb28 h => ?_
      cbv
      cases b28 with
      | true =>
        replace h := cnd_t h
        cbv
        cases h
        obtain ⟨rfl, rfl⟩ := IsL.uniq hl16 hl9
        exact ⟨_, .refl _, [], _, _, [], _, rfl, rfl, rfl, rfl, rfl, rfl⟩
      | false =>
        replace h := cnd_f h
        cbv
        revert h
        refine st_cmp hJ fun b29 eb29 h => ?_
        cbv
        cases b29 with
        | true =>
          replace h := cnd_t h
          cbv
          revert h
          refine st_cmp hJ fun b30 eb30 h => ?_
          cbv
          cases b30 with
          | true =>
            replace h := cnd_t h
            cbv
            cases h
            obtain ⟨rfl, rfl⟩ := IsL.uniq hl16 hl9
            exact ⟨_, .refl _, [], _, _, [], _, rfl, rfl, rfl, rfl, rfl, rfl⟩
          | false =>
            replace h := cnd_f h
            cbv
            revert h
            refine st_cmp hJ fun b31 eb31 h => ?_
            cbv
            cases b31 with
            | true =>
              replace h := cnd_t h
              cbv
              cases h
              obtain ⟨rfl, rfl⟩ := IsL.uniq hl16 hl9
              exact ⟨_, .refl _, [], _, _, [], _, rfl, rfl, rfl, rfl, rfl, rfl⟩
            | false =>
              replace h := cnd_f h
              cbv
              exact ⟨⟨(), h⟩, [(0, 0), (1, 1)], 2, [], rfl, trivial⟩
        | false =>
          replace h := cnd_f h
          cbv
          exact ⟨⟨(), h⟩, [(0, 0), (1, 1)], 2, [], rfl, trivial⟩
    · rintro ⟨_, h⟩ -
      rw [hj27] at h
      try dsimp only at h ⊢
      cbv
      revert h
      refine st_idx_lp hJ hl9 fun y28 k29 hy30 ho31 h => ?_
      obtain ⟨v32, v33⟩ := y28
      try dsimp only at h
      cbv
      refine st_ld hJ eZone_len hl9 hy30 ho31 0 (fun hJ => by subst hJ; rfl) ([.int .i64 v32, .int .i64 v33]) (Nat.le_of_ble_eq_true rfl) rfl (.int (.int .nil)) rfl ?_
      cbv
      revert h
      refine st_cmp hJ fun b34 eb34 h => ?_
      cbv
      obtain ⟨j36, hj37, h⟩ := jn h
      refine JoinP.mk ({x : Bool // j36 (x) = some (l13, v17)}) (fun x => ⟨[(1, .d (.lst c7 n8)), (2, .d (.int .i64 v10)), (4, .ptr 0 0), (7, .ptr 1 0), (14, .ptr 2 0), (15, .d (.bool x.1))], [(0, .box [.d (.int .i64 v1), .d (.int .i64 v2), .d (.int .i64 v3), .d (.int .i64 v4), .d (.int .i64 v5)]), (1, .box [.d (.int .i64 v11), .d (.int .i64 v12)]), (2, .box [.d (.int .i64 v32), .d (.int .i64 v33)])], 3, 173⟩) (fun _ => True) [1, 2, 4, 7, 14, 15] ?_ ?_
      · cbv
        cases b34 with
        | true =>
          replace h := cnd_t h
          cbv
          revert h
          refine st_cmp hJ fun b38 eb38 h => ?_
          cbv
          cases b38 with
          | true =>
            replace h := cnd_t h
            cbv
            cases h
            obtain ⟨rfl, rfl⟩ := IsL.uniq hl16 hl9
            exact ⟨_, .refl _, [], _, _, [], _, rfl, rfl, rfl, rfl, rfl, rfl⟩
          | false =>
            replace h := cnd_f h
            cbv
            exact ⟨⟨(true), h⟩, [(0, 0), (1, 1), (7, 2)], 3, [], rfl, trivial⟩
        | false =>
          replace h := cnd_f h
          cbv
          exact ⟨⟨(false), h⟩, [(0, 0), (1, 1), (7, 2)], 3, [], rfl, trivial⟩
      · rintro ⟨b38, h⟩ -
        rw [hj37] at h
        try dsimp only at h ⊢
        cbv
        cases b38 with
        | true =>
          replace h := cnd_t h
          cbv
          cases h
          obtain ⟨rfl, rfl⟩ := IsL.uniq hl16 hl9
          exact ⟨_, .refl _, [], _, _, [], _, rfl, rfl, rfl, rfl, rfl, rfl⟩
        | false =>
          replace h := cnd_f h
          cbv
          revert h
          refine st_cmp hJ fun b39 eb39 h => ?_
          cbv
          cases b39 with
          | true =>
            replace h := cnd_t h
            cbv
            revert h
            refine st_cmp hJ fun b40 eb40 h => ?_
            cbv
            cases b40 with
            | true =>
              replace h := cnd_t h
              cbv
              cases h
              obtain ⟨rfl, rfl⟩ := IsL.uniq hl16 hl9
              exact ⟨_, .refl _, [], _, _, [], _, rfl, rfl, rfl, rfl, rfl, rfl⟩
            | false =>
              replace h := cnd_f h
              cbv
              cases h
              obtain ⟨rfl, rfl⟩ := IsL.uniq hl16 hl9
              exact ⟨_, .refl _, [], _, _, [], _, rfl, rfl, rfl, rfl, rfl, rfl⟩
          | false =>
            replace h := cnd_f h
            cbv
            revert h
            refine st_cmp hJ fun b40 eb40 h => ?_
            cbv
            cases b40 with
            | true =>
              replace h := cnd_t h
              cbv
              obtain ⟨l43, h42, h⟩ := bnd h
              obtain ⟨c44, n45, hl46⟩ := nameL eZone l43
              refine call_by hP (s86 hl9 hl46 h42) hJ rfl rfl ?_
              cbv
              cases h
              obtain ⟨rfl, rfl⟩ := IsL.uniq hl16 hl46
              exact ⟨_, .refl _, [], _, _, [], _, rfl, rfl, rfl, rfl, rfl, rfl⟩
            | false =>
              replace h := cnd_f h
              cbv
              revert h
              refine st_cmp hJ fun b41 eb41 h => ?_
              cbv
              cases b41 with
              | true =>
                replace h := cnd_t h
                cbv
                revert h
                refine st_cmp hJ fun b42 eb42 h => ?_
                cbv
                cases b42 with
                | true =>
                  replace h := cnd_t h
                  cbv
                  cases h
                  obtain ⟨rfl, rfl⟩ := IsL.uniq hl16 hl9
                  exact ⟨_, .refl _, [], _, _, [], _, rfl, rfl, rfl, rfl, rfl, rfl⟩
                | false =>
                  replace h := cnd_f h
                  cbv
                  obtain ⟨j44, hj45, h⟩ := jn h
                  refine JoinP.mk ({x : Int // j44 (x) = some (l13, v17)}) (fun x => ⟨[(1, .d (.lst c7 n8)), (7, .ptr 0 0), (14, .ptr 1 0)], [(0, .box [.d (.int .i64 v11), .d (.int .i64 v12)]), (1, .box [.d (.int .i64 x.1), .d (.int .i64 v33)])], 2, 173⟩) (fun _ => True) [1, 7, 14] ?_ ?_
                  · cbv
                    revert h
                    refine st_cmp hJ fun b46 eb46 h => ?_
                    cbv
                    cases b46 with
                    | true =>
                      replace h := cnd_t h
                      cbv
                      exact ⟨⟨(0), h⟩, [(1, 0), (2, 1)], 2, [], rfl, trivial⟩
                    | false =>
                      replace h := cnd_f h
                      cbv
                      exact ⟨⟨(2), h⟩, [(1, 0), (2, 1)], 2, [], rfl, trivial⟩
                  · rintro ⟨v46, h⟩ -
                    rw [hj45] at h
                    try dsimp only at h ⊢
                    cbv
                    obtain ⟨l49, h48, h⟩ := bnd h
                    obtain ⟨c50, n51, hl52⟩ := nameL eZone l49
                    refine call_by hP (s86 hl9 hl52 h48) hJ rfl rfl ?_
                    cbv
                    cases h
                    obtain ⟨rfl, rfl⟩ := IsL.uniq hl16 hl52
                    exact ⟨_, .refl _, [], _, _, [], _, rfl, rfl, rfl, rfl, rfl, rfl⟩
              | false =>
                replace h := cnd_f h
                cbv
                revert h
                refine st_cmp hJ fun b42 eb42 h => ?_
                cbv
                cases b42 with
                | true =>
                  replace h := cnd_t h
                  cbv
                  cases h
                  obtain ⟨rfl, rfl⟩ := IsL.uniq hl16 hl9
                  exact ⟨_, .refl _, [], _, _, [], _, rfl, rfl, rfl, rfl, rfl, rfl⟩
                | false =>
                  replace h := cnd_f h
                  cbv
                  revert h
                  refine st_cmp hJ fun b43 eb43 h => ?_
                  cbv
                  cases b43 with
                  | true =>
                    replace h := cnd_t h
                    cbv
                    obtain ⟨l46, h45, h⟩ := bnd h
                    obtain ⟨c47, n48, hl49⟩ := nameL eZone l46
                    refine call_by hP (s86 hl9 hl49 h45) hJ rfl rfl ?_
                    cbv
                    cases h
                    obtain ⟨rfl, rfl⟩ := IsL.uniq hl16 hl49
                    exact ⟨_, .refl _, [], _, _, [], _, rfl, rfl, rfl, rfl, rfl, rfl⟩
                  | false =>
                    replace h := cnd_f h
                    cbv
                    obtain ⟨j45, hj46, h⟩ := jn h
                    refine JoinP.mk ({x : Unit // j45 () = some (l13, v17)}) (fun x => ⟨[(1, .d (.lst c7 n8)), (2, .d (.int .i64 v10)), (4, .ptr 0 0), (7, .ptr 1 0), (14, .ptr 2 0)], [(0, .box [.d (.int .i64 v1), .d (.int .i64 v2), .d (.int .i64 v3), .d (.int .i64 v4), .d (.int .i64 v5)]), (1, .box [.d (.int .i64 v11), .d (.int .i64 v12)]), (2, .box [.d (.int .i64 v32), .d (.int .i64 v33)])], 3, 173⟩) (fun _ => True) [1, 2, 4, 7, 14] ?_ ?_
                    · cbv
                      revert h
                      refine st_cmp hJ fun b47 eb47 h => ?_
                      cbv
                      cases b47 with
                      | true =>
                        replace h := cnd_t h
                        cbv
                        revert h
                        refine st_cmp hJ fun b48 eb48 h => ?_
                        cbv
                        cases b48 with
                        | true =>
                          replace h := cnd_t h
                          cbv
                          cases h
                          obtain ⟨rfl, rfl⟩ := IsL.uniq hl16 hl9
                          exact ⟨_, .refl _, [], _, _, [], _, rfl, rfl, rfl, rfl, rfl, rfl⟩
                        | false =>
                          replace h := cnd_f h
                          cbv
                          exact ⟨⟨(), h⟩, [(0, 0), (1, 1), (2, 2)], 3, [], rfl, trivial⟩
                      | false =>
                        replace h := cnd_f h
                        cbv
                        exact ⟨⟨(), h⟩, [(0, 0), (1, 1), (2, 2)], 3, [], rfl, trivial⟩
                    · rintro ⟨_, h⟩ -
                      rw [hj46] at h
                      try dsimp only at h ⊢
                      cbv
                      obtain ⟨j48, hj49, h⟩ := jn h
                      refine JoinP.mk ({x : Unit // j48 () = some (l13, v17)}) (fun x => ⟨[(1, .d (.lst c7 n8)), (2, .d (.int .i64 v10)), (4, .ptr 0 0), (7, .ptr 1 0), (14, .ptr 2 0)], [(0, .box [.d (.int .i64 v1), .d (.int .i64 v2), .d (.int .i64 v3), .d (.int .i64 v4), .d (.int .i64 v5)]), (1, .box [.d (.int .i64 v11), .d (.int .i64 v12)]), (2, .box [.d (.int .i64 v32), .d (.int .i64 v33)])], 3, 173⟩) (fun _ => True) [1, 2, 4, 7, 14] ?_ ?_
                      · cbv
                        revert h
                        refine st_cmp hJ fun b50 eb50 h => ?_
                        cbv
                        cases b50 with
                        | true =>
                          replace h := cnd_t h
                          cbv
                          obtain ⟨v53, h52, h⟩ := bnd h
                          refine call_by hP (s64 hl9 h52) hJ rfl rfl ?_
                          cbv
                          revert h
                          refine st_cmp hJ fun b54 eb54 h => ?_
                          cbv
                          refine ⟨fun _ => by kernel_rfl, ?_⟩
                          cbv
                          cases b54 with
                          | true =>
                            replace h := cnd_t h
                            cbv
                            cases h
                            obtain ⟨rfl, rfl⟩ := IsL.uniq hl16 hl9
                            exact ⟨_, .refl _, [], _, _, [], _, rfl, rfl, rfl, rfl, rfl, rfl⟩
                          | false =>
                            replace h := cnd_f h
                            cbv
                            exact ⟨⟨(), h⟩, [(0, 0), (1, 1), (2, 2)], 3, [], rfl, trivial⟩
                        | false =>
                          replace h := cnd_f h
                          cbv
                          refine ⟨fun _ => by kernel_rfl, ?_⟩
                          cbv
                          exact ⟨⟨(), h⟩, [(0, 0), (1, 1), (2, 2)], 3, [], rfl, trivial⟩
                      · rintro ⟨_, h⟩ -
                        rw [hj49] at h
                        try dsimp only at h ⊢
                        cbv
                        obtain ⟨j51, hj52, h⟩ := jn h
                        refine JoinP.mk ({x : Int × Int // j51 (x.1, x.2) = some (l13, v17)}) (fun x => ⟨[(1, .d (.lst c7 n8)), (7, .ptr 0 0), (14, .ptr 1 0)], [(0, .box [.d (.int .i64 v11), .d (.int .i64 v12)]), (1, .box [.d (.int .i64 x.1.1), .d (.int .i64 x.1.2)])], 2, 173⟩) (fun _ => True) [1, 7, 14] ?_ ?_
                        · cbv
                          revert h
                          refine st_cmp hJ fun b53 eb53 h => ?_
                          cbv
                          cases b53 with
                          | true =>
                            replace h := cnd_t h
                            cbv
                            revert h
                            refine st_bin hJ fun v54 ev54 h => ?_
                            cbv
                            revert h
                            refine st_cmp hJ fun b55 eb55 h => ?_
                            cbv
                            cases b55 with
                            | true =>
                              replace h := cnd_t h
                              cbv
                              exact ⟨⟨(3, v54), h⟩, [(1, 0), (2, 1)], 2, [], rfl, trivial⟩
                            | false =>
                              replace h := cnd_f h
                              cbv
                              exact ⟨⟨(1, v54), h⟩, [(1, 0), (2, 1)], 2, [], rfl, trivial⟩
                          | false =>
                            replace h := cnd_f h
                            cbv
                            exact ⟨⟨(1, v33), h⟩, [(1, 0), (2, 1)], 2, [], rfl, trivial⟩
                        · rintro ⟨⟨v53, v54⟩, h⟩ -
                          rw [hj52] at h
                          try dsimp only at h ⊢
                          cbv
                          obtain ⟨l57, h56, h⟩ := bnd h
                          obtain ⟨c58, n59, hl60⟩ := nameL eZone l57
                          refine call_by hP (s86 hl9 hl60 h56) hJ rfl rfl ?_
                          cbv
                          cases h
                          obtain ⟨rfl, rfl⟩ := IsL.uniq hl16 hl60
                          exact ⟨_, .refl _, [], _, _, [], _, rfl, rfl, rfl, rfl, rfl, rfl⟩
end Go.AX
