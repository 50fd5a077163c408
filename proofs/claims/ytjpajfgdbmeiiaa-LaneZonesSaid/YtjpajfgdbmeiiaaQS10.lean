/- What functions of the program compute: each is what its Lean function says. -/
import Derived.Test.YtjpajfgdbmeiiaaQS3
namespace Go.AX
open Go.Proofs
set_option autoImplicit false
set_option linter.unusedVariables false
set_option maxRecDepth 100000
set_option maxHeartbeats 4000000
set_option linter.unusedSimpArgs false

theorem s16 {v1 : Int} {v2 : Int} {v3 : Int} {v4 : Int} {v5 : Int} {l6 : List Int} {c7 : List D} {n8 : Nat} {v10 : Int} {v11 : Int} {v12 : Int} (hl9 : IsL (eI .i64) c7 n8 l6) {b13 : Bool}  (h : m_ref11_Right (TGeom.mk v1 v2 v3 v4 v5) (TPool.mk l6 (A3.mk v10 v11 v12)) = some b13) : Spec Try.prog 16 [.agg [.d (.int .i64 v1), .d (.int .i64 v2), .d (.int .i64 v3), .d (.int .i64 v4), .d (.int .i64 v5)], .agg [.d (.lst c7 n8), .d (.int .i64 v10), .d (.int .i64 v11), .d (.int .i64 v12)]] ⟨.d (.bool b13), [], 0, True⟩ := by
  refine spec_b [20] Try.func16 rfl rfl rfl fun J P hJ hP => ?_
  dsimp only [m_ref11_Right] at h
  cbv
  revert h
  refine st_len hJ hl9 fun v15 ev15 h => ?_
  cbv
  revert h
  refine st_cmp hJ fun b16 eb16 h => ?_
  cbv
  cases b16 with
  | true =>
    replace h := cnd_t h
    cbv
    cases h
    exact ⟨[], _, _, [], rfl, rfl, rfl, rfl⟩
  | false =>
    replace h := cnd_f h
    cbv
    obtain ⟨p18, q17, hp19, hf20, hq21⟩ := bnd_loop h
    clear h
    refine LoopB.mk ({x : Nat × Int // loopN p18 x.1 (x.2) = some q17}) (fun x => ⟨[(2, .ptr 0 0), (3, .ptr 1 0), (5, .d (.int .i64 x.1.2))], [(0, .box [.d (.int .i64 v1), .d (.int .i64 v2), .d (.int .i64 v3), .d (.int .i64 v4), .d (.int .i64 v5)]), (1, .box [.d (.lst c7 n8), .d (.int .i64 v10), .d (.int .i64 v11), .d (.int .i64 v12)])], 2, 102⟩) (fun x => x.1.1) [2, 3, 5] 2 ⟨(FUEL, 0), hf20⟩ ⟨[(0, 0), (2, 1)], [], ?_⟩ ?_
    · rfl
    · rintro ⟨⟨N24, v27⟩, hr23⟩
      obtain ⟨M25, o22, eN26, h, hr23⟩ := loopN_step hr23
      subst eN26
      rw [hp19] at h
      try dsimp only at h ⊢
      cbv
      revert h
      refine st_cmp hJ fun b28 eb28 h => ?_
      cbv
      cases b28 with
      | true =>
        replace h := cnd_t h
        cbv
        revert h
        refine st_idx_px hJ (L := A3.l (A3.mk v10 v11 v12)) rfl fun v29 k30 hy31 ho32 h => ?_
        cbv
        refine st_ldA hJ rfl hy31 ho32 (fun hJ => by subst hJ; simp [stdJ, std]) ?_
        cbv
        revert h
        refine st_cmp hJ fun b33 eb33 h => ?_
        cbv
        cases b33 with
        | true =>
          replace h := cnd_t h
          cbv
          revert h
          refine st_bin hJ fun v34 ev34 h => ?_
          cbv
          cases h
          exact ⟨⟨(M25, v34), hr23⟩, [(0, 0), (1, 1)], 2, [], rfl, Nat.lt_succ_self _⟩
        | false =>
          replace h := cnd_f h
          cbv
          obtain ⟨j35, hj36, h⟩ := jn h
          refine JoinP.mk ({x : Unit // j35 () = some o22}) (fun x => ⟨[(2, .ptr 0 0), (3, .ptr 1 0), (5, .d (.int .i64 v27)), (6, .d (.int .i64 v29))], [(0, .box [.d (.int .i64 v1), .d (.int .i64 v2), .d (.int .i64 v3), .d (.int .i64 v4), .d (.int .i64 v5)]), (1, .box [.d (.lst c7 n8), .d (.int .i64 v10), .d (.int .i64 v11), .d (.int .i64 v12)])], 2, 102⟩) (fun _ => True) [2, 3, 5, 6] ?_ ?_
          · cbv
            revert h
            refine st_cmp hJ fun b37 eb37 h => ?_
            cbv
            cases b37 with
            | true =>
              replace h := cnd_t h
              cbv
              refine ⟨fun _ => by kernel_rfl, ?_⟩
              cbv
              cases h
              have h := hq21
              obtain rfl := hr23
              try dsimp only at h
              cases h
              exact ⟨[], _, _, [], rfl, rfl, rfl, rfl⟩
            | false =>
              replace h := cnd_f h
              cbv
              revert h
              refine st_bin hJ fun v38 ev38 h => ?_
              cbv
              revert h
              refine st_cmp hJ fun b39 eb39 h => ?_
              cbv
              cases b39 with
              | true =>
                replace h := cnd_t h
                cbv
                refine ⟨fun _ => by kernel_rfl, ?_⟩
                cbv
                cases h
                have h := hq21
                obtain rfl := hr23
                try dsimp only at h
                cases h
                exact ⟨[], _, _, [], rfl, rfl, rfl, rfl⟩
              | false =>
                replace h := cnd_f h
                cbv
                revert h
                refine st_bin hJ fun v40 ev40 h => ?_
                cbv
                revert h
                refine st_idx_lp hJ hl9 fun y41 k42 hy43 ho44 h => ?_
                cbv
                refine st_ld hJ (eI_len .i64) hl9 hy43 ho44 0 (fun hJ => by subst hJ; rfl) ([.int .i64 y41]) (Nat.le_of_ble_eq_true rfl) rfl (.int .nil) rfl ?_
                cbv
                revert h
                refine st_cmp hJ fun b46 eb46 h => ?_
                cbv
                refine ⟨fun _ => by kernel_rfl, ?_⟩
                cbv
                cases b46 with
                | true =>
                  replace h := cnd_t h
                  cbv
                  cases h
                  have h := hq21
                  obtain rfl := hr23
                  try dsimp only at h
                  cases h
                  exact ⟨[], _, _, [], rfl, rfl, rfl, rfl⟩
                | false =>
                  replace h := cnd_f h
                  cbv
                  exact ⟨⟨(), h⟩, [(0, 0), (1, 1)], 2, [], rfl, trivial⟩
          · rintro ⟨_, h⟩ -
            rw [hj36] at h
            try dsimp only at h ⊢
            cbv
            obtain ⟨p38, q37, hp39, hf40, hq41⟩ := bnd_loop h
            clear h
            refine LoopB.mk ({x : Nat × Int // loopN p38 x.1 (x.2) = some q37}) (fun x => ⟨[(2, .ptr 0 0), (3, .ptr 1 0), (5, .d (.int .i64 v27)), (6, .d (.int .i64 v29)), (7, .d (.int .i64 x.1.2))], [(0, .box [.d (.int .i64 v1), .d (.int .i64 v2), .d (.int .i64 v3), .d (.int .i64 v4), .d (.int .i64 v5)]), (1, .box [.d (.lst c7 n8), .d (.int .i64 v10), .d (.int .i64 v11), .d (.int .i64 v12)])], 2, 102⟩) (fun x => x.1.1) [2, 3, 5, 6, 7] 2 ⟨(FUEL, 0), hf40⟩ ⟨[(0, 0), (1, 1)], [], ?_⟩ ?_
            · rfl
            · rintro ⟨⟨N44, v47⟩, hr43⟩
              obtain ⟨M45, o42, eN46, h, hr43⟩ := loopN_step hr43
              subst eN46
              rw [hp39] at h
              try dsimp only at h ⊢
              cbv
              revert h
              refine st_cmp hJ fun b48 eb48 h => ?_
              cbv
              cases b48 with
              | true =>
                replace h := cnd_t h
                cbv
                revert h
                refine st_idx_px hJ (L := A3.l (A3.mk v10 v11 v12)) rfl fun v49 k50 hy51 ho52 h => ?_
                cbv
                refine st_ldA hJ rfl hy51 ho52 (fun hJ => by subst hJ; simp [stdJ, std]) ?_
                cbv
                revert h
                refine st_cmp hJ fun b53 eb53 h => ?_
                cbv
                cases b53 with
                | true =>
                  replace h := cnd_t h
                  cbv
                  cases h
                  have h := hq41
                  obtain rfl := hr43
                  try dsimp only at h
                  cases h
                  have h := hq21
                  obtain rfl := hr23
                  try dsimp only at h
                  cases h
                  exact ⟨[], _, _, [], rfl, rfl, rfl, rfl⟩
                | false =>
                  replace h := cnd_f h
                  cbv
                  revert h
                  refine st_bin hJ fun v54 ev54 h => ?_
                  cbv
                  cases h
                  exact ⟨⟨(M45, v54), hr43⟩, [(0, 0), (1, 1)], 2, [], rfl, Nat.lt_succ_self _⟩
              | false =>
                replace h := cnd_f h
                cbv
                cases h
                have h := hq41
                obtain rfl := hr43
                try dsimp only at h
                revert h
                refine st_bin hJ fun v49 ev49 h => ?_
                cbv
                cases h
                exact ⟨⟨(M25, v49), hr23⟩, [(0, 0), (1, 1)], 2, [], rfl, Nat.lt_succ_self _⟩
      | false =>
        replace h := cnd_f h
        cbv
        cases h
        have h := hq21
        obtain rfl := hr23
        try dsimp only at h
        obtain ⟨p30, q29, hp31, hf32, hq33⟩ := bnd_loop h
        clear h
        refine LoopB.mk ({x : Nat × Int // loopN p30 x.1 (x.2) = some q29}) (fun x => ⟨[(2, .ptr 0 0), (3, .ptr 1 0), (8, .d (.int .i64 x.1.2))], [(0, .box [.d (.int .i64 v1), .d (.int .i64 v2), .d (.int .i64 v3), .d (.int .i64 v4), .d (.int .i64 v5)]), (1, .box [.d (.lst c7 n8), .d (.int .i64 v10), .d (.int .i64 v11), .d (.int .i64 v12)])], 2, 102⟩) (fun x => x.1.1) [2, 3, 8] 2 ⟨(FUEL, 0), hf32⟩ ⟨[(0, 0), (1, 1)], [], ?_⟩ ?_
        · rfl
        · rintro ⟨⟨N36, v39⟩, hr35⟩
          obtain ⟨M37, o34, eN38, h, hr35⟩ := loopN_step hr35
          subst eN38
          rw [hp31] at h
          try dsimp only at h ⊢
          cbv
          revert h
          refine st_len hJ hl9 fun v40 ev40 h => ?_
          cbv
          revert h
          refine st_cmp hJ fun b41 eb41 h => ?_
          cbv
          cases b41 with
          | true =>
            replace h := cnd_t h
            cbv
            revert h
            refine st_idx_lp hJ hl9 fun y42 k43 hy44 ho45 h => ?_
            cbv
            refine st_ld hJ (eI_len .i64) hl9 hy44 ho45 0 (fun hJ => by subst hJ; rfl) ([.int .i64 y42]) (Nat.le_of_ble_eq_true rfl) rfl (.int .nil) rfl ?_
            cbv
            revert h
            refine st_cmp hJ fun b47 eb47 h => ?_
            cbv
            cases b47 with
            | true =>
              replace h := cnd_t h
              cbv
              cases h
              have h := hq33
              obtain rfl := hr35
              try dsimp only at h
              cases h
              exact ⟨[], _, _, [], rfl, rfl, rfl, rfl⟩
            | false =>
              replace h := cnd_f h
              cbv
              revert h
              refine st_cmp hJ fun b48 eb48 h => ?_
              cbv
              cases b48 with
              | true =>
                replace h := cnd_t h
                cbv
                cases h
                have h := hq33
                obtain rfl := hr35
                try dsimp only at h
                cases h
                exact ⟨[], _, _, [], rfl, rfl, rfl, rfl⟩
              | false =>
                replace h := cnd_f h
                cbv
                revert h
                refine st_cmp hJ fun b49 eb49 h => ?_
                cbv
                cases b49 with
                | true =>
                  replace h := cnd_t h
                  cbv
                  revert h
                  refine st_cmp hJ fun b50 eb50 h => ?_
                  cbv
                  cases b50 with
                  | true =>
                    replace h := cnd_t h
                    cbv
                    revert h
                    refine st_bin hJ fun v51 ev51 h => ?_
                    cbv
                    obtain ⟨b54, h53, h⟩ := bnd h
                    refine call_by hP (s49 hl9 h53) hJ rfl rfl ?_
                    cbv
                    revert h
                    refine st_not hJ fun b55 eb55 h => ?_
                    cbv
                    cases b55 with
                    | true =>
                      replace h := cnd_t h
                      cbv
                      cases h
                      have h := hq33
                      obtain rfl := hr35
                      try dsimp only at h
                      cases h
                      exact ⟨[], _, _, [], rfl, rfl, rfl, rfl⟩
                    | false =>
                      replace h := cnd_f h
                      cbv
                      revert h
                      refine st_bin hJ fun v56 ev56 h => ?_
                      cbv
                      cases h
                      exact ⟨⟨(M37, v56), hr35⟩, [(0, 0), (1, 1)], 2, [], rfl, Nat.lt_succ_self _⟩
                  | false =>
                    replace h := cnd_f h
                    cbv
                    revert h
                    refine st_bin hJ fun v51 ev51 h => ?_
                    cbv
                    cases h
                    exact ⟨⟨(M37, v51), hr35⟩, [(0, 0), (1, 1)], 2, [], rfl, Nat.lt_succ_self _⟩
                | false =>
                  replace h := cnd_f h
                  cbv
                  revert h
                  refine st_bin hJ fun v50 ev50 h => ?_
                  cbv
                  cases h
                  exact ⟨⟨(M37, v50), hr35⟩, [(0, 0), (1, 1)], 2, [], rfl, Nat.lt_succ_self _⟩
          | false =>
            replace h := cnd_f h
            cbv
            cases h
            have h := hq33
            obtain rfl := hr35
            try dsimp only at h
            cases h
            exact ⟨[], _, _, [], rfl, rfl, rfl, rfl⟩
end Go.AX
