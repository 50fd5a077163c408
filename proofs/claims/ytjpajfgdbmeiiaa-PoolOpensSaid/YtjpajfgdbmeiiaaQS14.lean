/- What functions of the program compute: each is what its Lean function says. -/
import Derived.Test.YtjpajfgdbmeiiaaQS11
import Derived.Test.YtjpajfgdbmeiiaaQS7
namespace Go.AX
open Go.Proofs
set_option autoImplicit false
set_option linter.unusedVariables false
set_option maxRecDepth 100000
set_option maxHeartbeats 4000000
set_option linter.unusedSimpArgs false

theorem s25 {v1 : Int} {v2 : Int} {v3 : Int} {v4 : Int} {v5 : Int} {l6 : List Int} {c7 : List D} {n8 : Nat} {v10 : Int} {v11 : Int} {v12 : Int} (hl9 : IsL (eI .i64) c7 n8 l6) {b13 : Bool}  (h : m_pool_Right (TGeom.mk v1 v2 v3 v4 v5) (TPool.mk l6 (A3.mk v10 v11 v12)) = some b13) : Spec Try.prog 25 [.agg [.d (.int .i64 v1), .d (.int .i64 v2), .d (.int .i64 v3), .d (.int .i64 v4), .d (.int .i64 v5)], .agg [.d (.lst c7 n8), .d (.int .i64 v10), .d (.int .i64 v11), .d (.int .i64 v12)]] ⟨.d (.bool b13), [], 0, True⟩ := by
  refine spec_b [] Try.func25 rfl rfl rfl fun J P hJ hP => ?_
  dsimp only [m_pool_Right] at h
  cbv
  revert h
  refine st_len hJ hl9 fun v15 ev15 h => ?_
  cbv
  revert h
  refine st_cmp hJ fun b16 eb16 h => ?_
  cbv
  cases b16 with
  | true =>
    replace h := cnd_t h
    cbv
    cases h
    exact ⟨[], _, _, [], rfl, rfl, rfl, rfl⟩
  | false =>
    replace h := cnd_f h
    cbv
    obtain ⟨p18, q17, hp19, hf20, hq21⟩ := bnd_loop h
    clear h
    refine LoopB.mk ({x : Nat × Int // loopN p18 x.1 (x.2) = some q17}) (fun x => ⟨[(2, .ptr 0 0), (3, .ptr 1 0), (16, .agg [.d (.int .i64 v10), .d (.int .i64 v11), .d (.int .i64 v12)]), (17, .d (.int .i64 x.1.2))], [(0, .box [.d (.int .i64 v1), .d (.int .i64 v2), .d (.int .i64 v3), .d (.int .i64 v4), .d (.int .i64 v5)]), (1, .box [.d (.lst c7 n8), .d (.int .i64 v10), .d (.int .i64 v11), .d (.int .i64 v12)])], 2, 93⟩) (fun x => x.1.1) [2, 3, 16, 17] 2 ⟨(FUEL, 0), hf20⟩ ⟨[(0, 0), (2, 1)], [], ?_⟩ ?_
    · rfl
    · rintro ⟨⟨N24, v27⟩, hr23⟩
      obtain ⟨M25, o22, eN26, h, hr23⟩ := loopN_step hr23
      subst eN26
      rw [hp19] at h
      try dsimp only at h ⊢
      cbv
      revert h
      refine st_cmp hJ fun b28 eb28 h => ?_
      cbv
      cases b28 with
      | true =>
        replace h := cnd_t h
        cbv
        revert h
        refine st_index hJ (L := A3.l (A3.mk v10 v11 v12)) rfl rfl fun v29 hy30 h => ?_
        cbv
        revert h
        refine st_cmp hJ fun b31 eb31 h => ?_
        cbv
        cases b31 with
        | true =>
          replace h := cnd_t h
          cbv
          revert h
          refine st_bin hJ fun v32 ev32 h => ?_
          cbv
          cases h
          exact ⟨⟨(M25, v32), hr23⟩, [(0, 0), (1, 1)], 2, [], rfl, Nat.lt_succ_self _⟩
        | false =>
          replace h := cnd_f h
          cbv
          revert h
          refine st_cmp hJ fun b32 eb32 h => ?_
          cbv
          cases b32 with
          | true =>
            replace h := cnd_t h
            cbv
            refine ⟨fun _ => by kernel_rfl, ?_⟩
            cbv
            cases h
            have h := hq21
            obtain rfl := hr23
            try dsimp only at h
            cases h
            exact ⟨[], _, _, [], rfl, rfl, rfl, rfl⟩
          | false =>
            replace h := cnd_f h
            cbv
            revert h
            refine st_bin hJ fun v33 ev33 h => ?_
            cbv
            revert h
            refine st_cmp hJ fun b34 eb34 h => ?_
            cbv
            cases b34 with
            | true =>
              replace h := cnd_t h
              cbv
              refine ⟨fun _ => by kernel_rfl, ?_⟩
              cbv
              cases h
              have h := hq21
              obtain rfl := hr23
              try dsimp only at h
              cases h
              exact ⟨[], _, _, [], rfl, rfl, rfl, rfl⟩
            | false =>
              replace h := cnd_f h
              cbv
              revert h
              refine st_bin hJ fun v35 ev35 h => ?_
              cbv
              revert h
              refine st_idx_lp hJ hl9 fun y36 k37 hy38 ho39 h => ?_
              cbv
              refine st_ld hJ (eI_len .i64) hl9 hy38 ho39 0 (fun hJ => by subst hJ; rfl) [.int .i64 y36] (Nat.le_of_ble_eq_true rfl) rfl rfl rfl ?_
              cbv
              revert h
              refine st_cmp hJ fun b41 eb41 h => ?_
              cbv
              cases b41 with
              | true =>
                replace h := cnd_t h
                cbv
                refine ⟨fun _ => by kernel_rfl, ?_⟩
                cbv
                cases h
                have h := hq21
                obtain rfl := hr23
                try dsimp only at h
                cases h
                exact ⟨[], _, _, [], rfl, rfl, rfl, rfl⟩
              | false =>
                replace h := cnd_f h
                cbv
                revert h
                refine st_sla hJ (eI_len .i64) (cells := [.int .i64 v10, .int .i64 v11, .int .i64 v12]) rfl (L := A3.l (A3.mk v10 v11 v12)) rfl fun c43 n44 l42 k46 hl45 hs47 h => ?_
                cbv
                obtain ⟨b50, h49, h⟩ := bnd h
                refine snap_by hP (Spec.seen (pre := []) (s52 hl45 h49) hs47) hJ (by cbv) rfl ⟨by simp [V.noL, noLs, D.noL], trivial⟩ ?_
                cbv
                refine ⟨fun _ => by kernel_rfl, ?_⟩
                cbv
                cases b50 with
                | true =>
                  replace h := cnd_t h
                  cbv
                  cases h
                  have h := hq21
                  obtain rfl := hr23
                  try dsimp only at h
                  cases h
                  exact ⟨[], _, _, [], rfl, rfl, rfl, rfl⟩
                | false =>
                  replace h := cnd_f h
                  cbv
                  revert h
                  refine st_bin hJ fun v51 ev51 h => ?_
                  cbv
                  cases h
                  exact ⟨⟨(M25, v51), hr23⟩, [(0, 0), (1, 1)], 2, [], rfl, Nat.lt_succ_self _⟩
      | false =>
        replace h := cnd_f h
        cbv
        cases h
        have h := hq21
        obtain rfl := hr23
        try dsimp only at h
        revert h
        refine st_len hJ hl9 fun v29 ev29 h => ?_
        cbv
        obtain ⟨p31, q30, hp32, hf33, hq34⟩ := bnd_loop h
        clear h
        refine LoopB.mk ({x : Nat × Int // loopN p31 x.1 (x.2) = some q30}) (fun x => ⟨[(2, .ptr 0 0), (3, .ptr 1 0), (58, .d (.lst c7 n8)), (59, .d (.int .i64 v29)), (60, .d (.int .i64 x.1.2))], [(0, .box [.d (.int .i64 v1), .d (.int .i64 v2), .d (.int .i64 v3), .d (.int .i64 v4), .d (.int .i64 v5)]), (1, .box [.d (.lst c7 n8), .d (.int .i64 v10), .d (.int .i64 v11), .d (.int .i64 v12)])], 2, 93⟩) (fun x => x.1.1) [2, 3, 58, 59, 60] 2 ⟨(FUEL, 0), hf33⟩ ⟨[(0, 0), (1, 1)], [], ?_⟩ ?_
        · rfl
        · rintro ⟨⟨N37, v40⟩, hr36⟩
          obtain ⟨M38, o35, eN39, h, hr36⟩ := loopN_step hr36
          subst eN39
          rw [hp32] at h
          try dsimp only at h ⊢
          cbv
          revert h
          refine st_cmp hJ fun b41 eb41 h => ?_
          cbv
          cases b41 with
          | true =>
            replace h := cnd_t h
            cbv
            revert h
            refine st_idx_lp hJ hl9 fun y42 k43 hy44 ho45 h => ?_
            cbv
            refine st_ld hJ (eI_len .i64) hl9 hy44 ho45 0 (fun hJ => by subst hJ; rfl) [.int .i64 y42] (Nat.le_of_ble_eq_true rfl) rfl rfl rfl ?_
            cbv
            revert h
            refine st_cmp hJ fun b47 eb47 h => ?_
            cbv
            cases b47 with
            | true =>
              replace h := cnd_t h
              cbv
              cases h
              have h := hq34
              obtain rfl := hr36
              try dsimp only at h
              cases h
              exact ⟨[], _, _, [], rfl, rfl, rfl, rfl⟩
            | false =>
              replace h := cnd_f h
              cbv
              revert h
              refine st_cmp hJ fun b48 eb48 h => ?_
              cbv
              cases b48 with
              | true =>
                replace h := cnd_t h
                cbv
                cases h
                have h := hq34
                obtain rfl := hr36
                try dsimp only at h
                cases h
                exact ⟨[], _, _, [], rfl, rfl, rfl, rfl⟩
              | false =>
                replace h := cnd_f h
                cbv
                revert h
                refine st_cmp hJ fun b49 eb49 h => ?_
                cbv
                cases b49 with
                | true =>
                  replace h := cnd_t h
                  cbv
                  revert h
                  refine st_cmp hJ fun b50 eb50 h => ?_
                  cbv
                  cases b50 with
                  | true =>
                    replace h := cnd_t h
                    cbv
                    revert h
                    refine st_bin hJ fun v51 ev51 h => ?_
                    cbv
                    obtain ⟨b54, h53, h⟩ := bnd h
                    refine call_by hP (s54 hl9 h53) hJ rfl rfl ?_
                    cbv
                    revert h
                    refine st_not hJ fun b55 eb55 h => ?_
                    cbv
                    cases b55 with
                    | true =>
                      replace h := cnd_t h
                      cbv
                      cases h
                      have h := hq34
                      obtain rfl := hr36
                      try dsimp only at h
                      cases h
                      exact ⟨[], _, _, [], rfl, rfl, rfl, rfl⟩
                    | false =>
                      replace h := cnd_f h
                      cbv
                      revert h
                      refine st_bin hJ fun v56 ev56 h => ?_
                      cbv
                      cases h
                      exact ⟨⟨(M38, v56), hr36⟩, [(0, 0), (1, 1)], 2, [], rfl, Nat.lt_succ_self _⟩
                  | false =>
                    replace h := cnd_f h
                    cbv
                    revert h
                    refine st_bin hJ fun v51 ev51 h => ?_
                    cbv
                    cases h
                    exact ⟨⟨(M38, v51), hr36⟩, [(0, 0), (1, 1)], 2, [], rfl, Nat.lt_succ_self _⟩
                | false =>
                  replace h := cnd_f h
                  cbv
                  revert h
                  refine st_bin hJ fun v50 ev50 h => ?_
                  cbv
                  cases h
                  exact ⟨⟨(M38, v50), hr36⟩, [(0, 0), (1, 1)], 2, [], rfl, Nat.lt_succ_self _⟩
          | false =>
            replace h := cnd_f h
            cbv
            cases h
            have h := hq34
            obtain rfl := hr36
            try dsimp only at h
            cases h
            exact ⟨[], _, _, [], rfl, rfl, rfl, rfl⟩
end Go.AX
