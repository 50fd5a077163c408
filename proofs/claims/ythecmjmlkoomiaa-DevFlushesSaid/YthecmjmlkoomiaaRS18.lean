/- What functions of the program compute: each is what its Lean function says. -/
import Derived.Test.YthecmjmlkoomiaaRS7
namespace Go.AX
open Go.Proofs
set_option autoImplicit false
set_option linter.unusedVariables false
set_option maxRecDepth 100000
set_option maxHeartbeats 100000000
set_option linter.unusedSimpArgs false

theorem s25 {v1 : Int} {v2 : Int} {v3 : Int} {v4 : Int} {v5 : Int} {l6 : List TZone} {c7 : List D} {n8 : Nat} (hl9 : IsL eZone c7 n8 l6) {b10 : Bool}  (h : m_ref04_Right (TGeom.mk v1 v2 v3 v4 v5) l6 = some b10) : Spec Try.prog 25 [.agg [.d (.int .i64 v1), .d (.int .i64 v2), .d (.int .i64 v3), .d (.int .i64 v4), .d (.int .i64 v5)], .d (.lst c7 n8)] ⟨.d (.bool b10), [], 0, True⟩ := by
  refine spec_b [6] Try.func25 rfl rfl rfl fun J P hJ hP => ?_
  dsimp only [m_ref04_Right] at h
  cbv
  obtain ⟨j13, hj14, h⟩ := jn h
  refine JoinP.mk ({x : Unit // j13 () = some b10}) (fun x => ⟨[(1, .d (.lst c7 n8)), (2, .ptr 0 0)], [(0, .box [.d (.int .i64 v1), .d (.int .i64 v2), .d (.int .i64 v3), .d (.int .i64 v4), .d (.int .i64 v5)])], 1, 95⟩) (fun _ => True) [1, 2] ?_ ?_
  · cbv
    revert h
    refine st_len hJ hl9 fun v15 ev15 h => ?_
    cbv
    revert h
    refine st_bin hJ fun v16 ev16 h => ?_
    cbv
    revert h
    refine st_cmp hJ fun b17 eb17 h => ?_
    cbv
    cases b17 with
    | true =>
      replace h := cnd_t h
      cbv
      refine ⟨fun _ => by kernel_rfl, ?_⟩
      cbv
      cases h
      exact ⟨_, .refl _, [], _, _, [], _, rfl, rfl, rfl, rfl, rfl, rfl⟩
    | false =>
      replace h := cnd_f h
      cbv
      obtain ⟨v20, h19, h⟩ := bnd h
      refine call_by hP (s64 hl9 h19) hJ rfl rfl ?_
      cbv
      revert h
      refine st_cmp hJ fun b21 eb21 h => ?_
      cbv
      refine ⟨fun _ => by kernel_rfl, ?_⟩
      cbv
      cases b21 with
      | true =>
        replace h := cnd_t h
        cbv
        cases h
        exact ⟨_, .refl _, [], _, _, [], _, rfl, rfl, rfl, rfl, rfl, rfl⟩
      | false =>
        replace h := cnd_f h
        cbv
        exact ⟨⟨(), h⟩, [(0, 0)], 1, [], rfl, trivial⟩
  · rintro ⟨_, h⟩ -
    rw [hj14] at h
    try dsimp only at h ⊢
    cbv
    obtain ⟨p16, q15, hp17, hf18, hq19⟩ := bnd_loop h
    clear h
    refine LoopB.mk ({x : Nat × Int // loopN p16 x.1 (x.2) = some q15}) (fun x => ⟨[(1, .d (.lst c7 n8)), (2, .ptr 0 0), (5, .d (.int .i64 x.1.2))], [(0, .box [.d (.int .i64 v1), .d (.int .i64 v2), .d (.int .i64 v3), .d (.int .i64 v4), .d (.int .i64 v5)])], 1, 95⟩) (fun x => x.1.1) [1, 2, 5] 1 ⟨(FUEL, 0), hf18⟩ ⟨[(0, 0)], [], ?_⟩ ?_
    · rfl
    · rintro ⟨⟨N22, v25⟩, hr21⟩
      obtain ⟨M23, o20, eN24, h, hr21⟩ := loopN_step hr21
      subst eN24
      rw [hp17] at h
      try dsimp only at h ⊢
      cbv
      revert h
      refine st_len hJ hl9 fun v26 ev26 h => ?_
      cbv
      revert h
      refine st_cmp hJ fun b27 eb27 h => ?_
      cbv
      cases b27 with
      | true =>
        replace h := cnd_t h
        cbv
        revert h
        refine st_idx_lp hJ hl9 fun y28 k29 hy30 ho31 h => ?_
        obtain ⟨v32, v33⟩ := y28
        try dsimp only at h
        cbv
        refine st_ld hJ eZone_len hl9 hy30 ho31 0 (fun hJ => by subst hJ; rfl) ([.int .i64 v32]) (Nat.le_of_ble_eq_true rfl) rfl (.int .nil) rfl ?_
        cbv
        revert h
        refine st_idx_lp hJ hl9 fun y34 k35 hy36 ho37 h => ?_
        obtain ⟨v38, v39⟩ := y34
        try dsimp only at h
        cbv
        refine st_ld hJ eZone_len hl9 hy36 ho37 1 (fun hJ => by subst hJ; rfl) ([.int .i64 v39]) (Nat.le_of_ble_eq_true rfl) rfl (.int .nil) rfl ?_
        cbv
        revert h
        refine st_cmp hJ fun b40 eb40 h => ?_
        cbv
        cases b40 with
        | true =>
          replace h := cnd_t h
          cbv
          revert h
          refine st_cmp hJ fun b41 eb41 h => ?_
          cbv
          cases b41 with
          | true =>
            replace h := cnd_t h
            cbv
            cases h
            have h := hq19
            obtain rfl := hr21
            try dsimp only at h
            cases h
            exact ⟨_, .refl _, [], _, _, [], _, rfl, rfl, rfl, rfl, rfl, rfl⟩
          | false =>
            replace h := cnd_f h
            cbv
            revert h
            refine st_cmp hJ fun b42 eb42 h => ?_
            cbv
            cases b42 with
            | true =>
              replace h := cnd_t h
              cbv
              cases h
              have h := hq19
              obtain rfl := hr21
              try dsimp only at h
              cases h
              exact ⟨_, .refl _, [], _, _, [], _, rfl, rfl, rfl, rfl, rfl, rfl⟩
            | false =>
              replace h := cnd_f h
              cbv
              revert h
              refine st_bin hJ fun v43 ev43 h => ?_
              cbv
              cases h
              exact ⟨⟨(M23, v43), hr21⟩, [(0, 0)], 1, [], rfl, Nat.lt_succ_self _⟩
        | false =>
          replace h := cnd_f h
          cbv
          revert h
          refine st_cmp hJ fun b41 eb41 h => ?_
          cbv
          cases b41 with
          | true =>
            replace h := cnd_t h
            cbv
            cases h
            have h := hq19
            obtain rfl := hr21
            try dsimp only at h
            cases h
            exact ⟨_, .refl _, [], _, _, [], _, rfl, rfl, rfl, rfl, rfl, rfl⟩
          | false =>
            replace h := cnd_f h
            cbv
            revert h
            refine st_cmp hJ fun b42 eb42 h => ?_
            cbv
            cases b42 with
            | true =>
              replace h := cnd_t h
              cbv
              cases h
              have h := hq19
              obtain rfl := hr21
              try dsimp only at h
              cases h
              exact ⟨_, .refl _, [], _, _, [], _, rfl, rfl, rfl, rfl, rfl, rfl⟩
            | false =>
              replace h := cnd_f h
              cbv
              revert h
              refine st_cmp hJ fun b43 eb43 h => ?_
              cbv
              cases b43 with
              | true =>
                replace h := cnd_t h
                cbv
                cases h
                have h := hq19
                obtain rfl := hr21
                try dsimp only at h
                cases h
                exact ⟨_, .refl _, [], _, _, [], _, rfl, rfl, rfl, rfl, rfl, rfl⟩
              | false =>
                replace h := cnd_f h
                cbv
                revert h
                refine st_cmp hJ fun b44 eb44 h => ?_
                cbv
                cases b44 with
                | true =>
                  replace h := cnd_t h
                  cbv
                  cases h
                  have h := hq19
                  obtain rfl := hr21
                  try dsimp only at h
                  cases h
                  exact ⟨_, .refl _, [], _, _, [], _, rfl, rfl, rfl, rfl, rfl, rfl⟩
                | false =>
                  replace h := cnd_f h
                  cbv
                  revert h
                  refine st_cmp hJ fun b45 eb45 h => ?_
                  cbv
                  cases b45 with
                  | true =>
                    replace h := cnd_t h
                    cbv
                    revert h
                    refine st_cmp hJ fun b46 eb46 h => ?_
                    cbv
                    cases b46 with
                    | true =>
                      replace h := cnd_t h
                      cbv
                      cases h
                      have h := hq19
                      obtain rfl := hr21
                      try dsimp only at h
                      cases h
                      exact ⟨_, .refl _, [], _, _, [], _, rfl, rfl, rfl, rfl, rfl, rfl⟩
                    | false =>
                      replace h := cnd_f h
                      cbv
                      revert h
                      refine st_cmp hJ fun b47 eb47 h => ?_
                      cbv
                      cases b47 with
                      | true =>
                        replace h := cnd_t h
                        cbv
                        revert h
                        refine st_cmp hJ fun b48 eb48 h => ?_
                        cbv
                        cases b48 with
                        | true =>
                          replace h := cnd_t h
                          cbv
                          cases h
                          have h := hq19
                          obtain rfl := hr21
                          try dsimp only at h
                          cases h
                          exact ⟨_, .refl _, [], _, _, [], _, rfl, rfl, rfl, rfl, rfl, rfl⟩
                        | false =>
                          replace h := cnd_f h
                          cbv
                          revert h
                          refine st_cmp hJ fun b49 eb49 h => ?_
                          cbv
                          cases b49 with
                          | true =>
                            replace h := cnd_t h
                            cbv
                            revert h
                            refine st_cmp hJ fun b50 eb50 h => ?_
                            cbv
                            cases b50 with
                            | true =>
                              replace h := cnd_t h
                              cbv
                              cases h
                              have h := hq19
                              obtain rfl := hr21
                              try dsimp only at h
                              cases h
                              exact ⟨_, .refl _, [], _, _, [], _, rfl, rfl, rfl, rfl, rfl, rfl⟩
                            | false =>
                              replace h := cnd_f h
                              cbv
                              revert h
                              refine st_bin hJ fun v51 ev51 h => ?_
                              cbv
                              cases h
                              exact ⟨⟨(M23, v51), hr21⟩, [(0, 0)], 1, [], rfl, Nat.lt_succ_self _⟩
                          | false =>
                            replace h := cnd_f h
                            cbv
                            revert h
                            refine st_bin hJ fun v50 ev50 h => ?_
                            cbv
                            cases h
                            exact ⟨⟨(M23, v50), hr21⟩, [(0, 0)], 1, [], rfl, Nat.lt_succ_self _⟩
                      | false =>
                        replace h := cnd_f h
                        cbv
                        revert h
                        refine st_cmp hJ fun b48 eb48 h => ?_
                        cbv
                        cases b48 with
                        | true =>
                          replace h := cnd_t h
                          cbv
                          revert h
                          refine st_cmp hJ fun b49 eb49 h => ?_
                          cbv
                          cases b49 with
                          | true =>
                            replace h := cnd_t h
                            cbv
                            cases h
                            have h := hq19
                            obtain rfl := hr21
                            try dsimp only at h
                            cases h
                            exact ⟨_, .refl _, [], _, _, [], _, rfl, rfl, rfl, rfl, rfl, rfl⟩
                          | false =>
                            replace h := cnd_f h
                            cbv
                            revert h
                            refine st_cmp hJ fun b50 eb50 h => ?_
                            cbv
                            cases b50 with
                            | true =>
                              replace h := cnd_t h
                              cbv
                              revert h
                              refine st_cmp hJ fun b51 eb51 h => ?_
                              cbv
                              cases b51 with
                              | true =>
                                replace h := cnd_t h
                                cbv
                                cases h
                                have h := hq19
                                obtain rfl := hr21
                                try dsimp only at h
                                cases h
                                exact ⟨_, .refl _, [], _, _, [], _, rfl, rfl, rfl, rfl, rfl, rfl⟩
                              | false =>
                                replace h := cnd_f h
                                cbv
                                revert h
                                refine st_bin hJ fun v52 ev52 h => ?_
                                cbv
                                cases h
                                exact ⟨⟨(M23, v52), hr21⟩, [(0, 0)], 1, [], rfl, Nat.lt_succ_self _⟩
                            | false =>
                              replace h := cnd_f h
                              cbv
                              revert h
                              refine st_bin hJ fun v51 ev51 h => ?_
                              cbv
                              cases h
                              exact ⟨⟨(M23, v51), hr21⟩, [(0, 0)], 1, [], rfl, Nat.lt_succ_self _⟩
                        | false =>
                          replace h := cnd_f h
                          cbv
                          revert h
                          refine st_cmp hJ fun b49 eb49 h => ?_
                          cbv
                          cases b49 with
                          | true =>
                            replace h := cnd_t h
                            cbv
                            revert h
                            refine st_cmp hJ fun b50 eb50 h => ?_
                            cbv
                            cases b50 with
                            | true =>
                              replace h := cnd_t h
                              cbv
                              cases h
                              have h := hq19
                              obtain rfl := hr21
                              try dsimp only at h
                              cases h
                              exact ⟨_, .refl _, [], _, _, [], _, rfl, rfl, rfl, rfl, rfl, rfl⟩
                            | false =>
                              replace h := cnd_f h
                              cbv
                              revert h
                              refine st_bin hJ fun v51 ev51 h => ?_
                              cbv
                              cases h
                              exact ⟨⟨(M23, v51), hr21⟩, [(0, 0)], 1, [], rfl, Nat.lt_succ_self _⟩
                          | false =>
                            replace h := cnd_f h
                            cbv
                            revert h
                            refine st_bin hJ fun v50 ev50 h => ?_
                            cbv
                            cases h
                            exact ⟨⟨(M23, v50), hr21⟩, [(0, 0)], 1, [], rfl, Nat.lt_succ_self _⟩
                  | false =>
                    replace h := cnd_f h
                    cbv
                    revert h
                    refine st_cmp hJ fun b46 eb46 h => ?_
                    cbv
                    cases b46 with
                    | true =>
                      replace h := cnd_t h
                      cbv
                      revert h
                      refine st_cmp hJ fun b47 eb47 h => ?_
                      cbv
                      cases b47 with
                      | true =>
                        replace h := cnd_t h
                        cbv
                        cases h
                        have h := hq19
                        obtain rfl := hr21
                        try dsimp only at h
                        cases h
                        exact ⟨_, .refl _, [], _, _, [], _, rfl, rfl, rfl, rfl, rfl, rfl⟩
                      | false =>
                        replace h := cnd_f h
                        cbv
                        revert h
                        refine st_cmp hJ fun b48 eb48 h => ?_
                        cbv
                        cases b48 with
                        | true =>
                          replace h := cnd_t h
                          cbv
                          revert h
                          refine st_cmp hJ fun b49 eb49 h => ?_
                          cbv
                          cases b49 with
                          | true =>
                            replace h := cnd_t h
                            cbv
                            cases h
                            have h := hq19
                            obtain rfl := hr21
                            try dsimp only at h
                            cases h
                            exact ⟨_, .refl _, [], _, _, [], _, rfl, rfl, rfl, rfl, rfl, rfl⟩
                          | false =>
                            replace h := cnd_f h
                            cbv
                            revert h
                            refine st_bin hJ fun v50 ev50 h => ?_
                            cbv
                            cases h
                            exact ⟨⟨(M23, v50), hr21⟩, [(0, 0)], 1, [], rfl, Nat.lt_succ_self _⟩
                        | false =>
                          replace h := cnd_f h
                          cbv
                          revert h
                          refine st_bin hJ fun v49 ev49 h => ?_
                          cbv
                          cases h
                          exact ⟨⟨(M23, v49), hr21⟩, [(0, 0)], 1, [], rfl, Nat.lt_succ_self _⟩
                    | false =>
                      replace h := cnd_f h
                      cbv
                      revert h
                      refine st_cmp hJ fun b47 eb47 h => ?_
                      cbv
                      cases b47 with
                      | true =>
                        replace h := cnd_t h
                        cbv
                        revert h
                        refine st_cmp hJ fun b48 eb48 h => ?_
                        cbv
                        cases b48 with
                        | true =>
                          replace h := cnd_t h
                          cbv
                          cases h
                          have h := hq19
                          obtain rfl := hr21
                          try dsimp only at h
                          cases h
                          exact ⟨_, .refl _, [], _, _, [], _, rfl, rfl, rfl, rfl, rfl, rfl⟩
                        | false =>
                          replace h := cnd_f h
                          cbv
                          revert h
                          refine st_cmp hJ fun b49 eb49 h => ?_
                          cbv
                          cases b49 with
                          | true =>
                            replace h := cnd_t h
                            cbv
                            revert h
                            refine st_cmp hJ fun b50 eb50 h => ?_
                            cbv
                            cases b50 with
                            | true =>
                              replace h := cnd_t h
                              cbv
                              cases h
                              have h := hq19
                              obtain rfl := hr21
                              try dsimp only at h
                              cases h
                              exact ⟨_, .refl _, [], _, _, [], _, rfl, rfl, rfl, rfl, rfl, rfl⟩
                            | false =>
                              replace h := cnd_f h
                              cbv
                              revert h
                              refine st_bin hJ fun v51 ev51 h => ?_
                              cbv
                              cases h
                              exact ⟨⟨(M23, v51), hr21⟩, [(0, 0)], 1, [], rfl, Nat.lt_succ_self _⟩
                          | false =>
                            replace h := cnd_f h
                            cbv
                            revert h
                            refine st_bin hJ fun v50 ev50 h => ?_
                            cbv
                            cases h
                            exact ⟨⟨(M23, v50), hr21⟩, [(0, 0)], 1, [], rfl, Nat.lt_succ_self _⟩
                      | false =>
                        replace h := cnd_f h
                        cbv
                        revert h
                        refine st_cmp hJ fun b48 eb48 h => ?_
                        cbv
                        cases b48 with
                        | true =>
                          replace h := cnd_t h
                          cbv
                          revert h
                          refine st_cmp hJ fun b49 eb49 h => ?_
                          cbv
                          cases b49 with
                          | true =>
                            replace h := cnd_t h
                            cbv
                            cases h
                            have h := hq19
                            obtain rfl := hr21
                            try dsimp only at h
                            cases h
                            exact ⟨_, .refl _, [], _, _, [], _, rfl, rfl, rfl, rfl, rfl, rfl⟩
                          | false =>
                            replace h := cnd_f h
                            cbv
                            revert h
                            refine st_bin hJ fun v50 ev50 h => ?_
                            cbv
                            cases h
                            exact ⟨⟨(M23, v50), hr21⟩, [(0, 0)], 1, [], rfl, Nat.lt_succ_self _⟩
                        | false =>
                          replace h := cnd_f h
                          cbv
                          revert h
                          refine st_bin hJ fun v49 ev49 h => ?_
                          cbv
                          cases h
                          exact ⟨⟨(M23, v49), hr21⟩, [(0, 0)], 1, [], rfl, Nat.lt_succ_self _⟩
      | false =>
        replace h := cnd_f h
        cbv
        cases h
        have h := hq19
        obtain rfl := hr21
        try dsimp only at h
        cases h
        exact ⟨_, .refl _, [], _, _, [], _, rfl, rfl, rfl, rfl, rfl, rfl⟩
end Go.AX
