/- What functions of the program compute: each is what its Lean function says. -/
import Derived.Test.YtjpajfgdbmeiiaaQS13
import Derived.Test.YtjpajfgdbmeiiaaQS19
import Derived.Test.YtjpajfgdbmeiiaaQS20
import Derived.Test.YtjpajfgdbmeiiaaQS23
import Derived.Test.YtjpajfgdbmeiiaaQS30
import Derived.Test.YtjpajfgdbmeiiaaQS31
import Derived.Test.YtjpajfgdbmeiiaaQS7
namespace Go.AX
open Go.Proofs
set_option autoImplicit false
set_option linter.unusedVariables false
set_option maxRecDepth 100000
set_option maxHeartbeats 4000000
set_option linter.unusedSimpArgs false

theorem s10 {v1 : Int} {v2 : Int} {v3 : Int} {v4 : Int} {v5 : Int} {l6 : List Int} {c7 : List D} {n8 : Nat} {v10 : Int} {v11 : Int} {v12 : Int} {v13 : Int} {v14 : Int} {v15 : Int} (hl9 : IsL (eI .i64) c7 n8 l6) {b16 : Bool}  (h : m_law12_LaneReserve (TGeom.mk v1 v2 v3 v4 v5) (TPool.mk l6 (A3.mk v10 v11 v12)) v13 v14 v15 = some b16) : Spec Try.prog 10 [.agg [.d (.int .i64 v1), .d (.int .i64 v2), .d (.int .i64 v3), .d (.int .i64 v4), .d (.int .i64 v5)], .agg [.d (.lst c7 n8), .d (.int .i64 v10), .d (.int .i64 v11), .d (.int .i64 v12)], .d (.int .i64 v13), .d (.int .i64 v14), .d (.int .u8 v15)] ⟨.d (.bool b16), [], 0, True⟩ := by
  refine spec_b [6, 4, 12] Try.func10 rfl rfl rfl fun J P hJ hP => ?_
  dsimp only [m_law12_LaneReserve] at h
  cbv
  obtain ⟨j19, hj20, h⟩ := jn h
  refine JoinP.mk ({x : Unit // j19 () = some b16}) (fun x => ⟨[(2, .d (.int .i64 v13)), (3, .d (.int .i64 v14)), (4, .d (.int .u8 v15)), (5, .ptr 0 0), (6, .ptr 1 0)], [(0, .box [.d (.int .i64 v1), .d (.int .i64 v2), .d (.int .i64 v3), .d (.int .i64 v4), .d (.int .i64 v5)]), (1, .box [.d (.lst c7 n8), .d (.int .i64 v10), .d (.int .i64 v11), .d (.int .i64 v12)])], 2, 94⟩) (fun _ => True) [2, 3, 4, 5, 6] ?_ ?_
  · cbv
    obtain ⟨j22, hj23, h⟩ := jn h
    refine JoinP.mk ({x : Bool // j22 (x) = some b16}) (fun x => ⟨[(2, .d (.int .i64 v13)), (3, .d (.int .i64 v14)), (4, .d (.int .u8 v15)), (5, .ptr 0 0), (6, .ptr 1 0), (35, .d (.bool x.1))], [(0, .box [.d (.int .i64 v1), .d (.int .i64 v2), .d (.int .i64 v3), .d (.int .i64 v4), .d (.int .i64 v5)]), (1, .box [.d (.lst c7 n8), .d (.int .i64 v10), .d (.int .i64 v11), .d (.int .i64 v12)])], 2, 94⟩) (fun _ => True) [2, 3, 4, 5, 6, 35] ?_ ?_
    · cbv
      obtain ⟨b26, h25, h⟩ := bnd h
      refine call_by hP (s33 h25) hJ rfl rfl ?_
      cbv
      revert h
      refine st_not hJ fun b27 eb27 h => ?_
      cbv
      cases b27 with
      | true =>
        replace h := cnd_t h
        cbv
        exact ⟨⟨(true), h⟩, [(0, 0), (2, 1)], 2, [], rfl, trivial⟩
      | false =>
        replace h := cnd_f h
        cbv
        obtain ⟨b30, h29, h⟩ := bnd h
        refine call_by hP (s34 hl9 h29) hJ rfl rfl ?_
        cbv
        revert h
        refine st_not hJ fun b31 eb31 h => ?_
        cbv
        cases b31 with
        | true =>
          replace h := cnd_t h
          cbv
          exact ⟨⟨(true), h⟩, [(0, 0), (2, 1)], 2, [], rfl, trivial⟩
        | false =>
          replace h := cnd_f h
          cbv
          obtain ⟨b34, h33, h⟩ := bnd h
          refine call_by hP (s36 h33) hJ rfl rfl ?_
          cbv
          revert h
          refine st_not hJ fun b35 eb35 h => ?_
          cbv
          cases b35 with
          | true =>
            replace h := cnd_t h
            cbv
            exact ⟨⟨(true), h⟩, [(0, 0), (2, 1)], 2, [], rfl, trivial⟩
          | false =>
            replace h := cnd_f h
            cbv
            obtain ⟨b38, h37, h⟩ := bnd h
            refine call_by hP (s36 h37) hJ rfl rfl ?_
            cbv
            revert h
            refine st_not hJ fun b39 eb39 h => ?_
            cbv
            exact ⟨⟨(b39), h⟩, [(0, 0), (2, 1)], 2, [], rfl, trivial⟩
    · rintro ⟨b24, h⟩ -
      rw [hj23] at h
      try dsimp only at h ⊢
      cbv
      cases b24 with
      | true =>
        replace h := cnd_t h
        cbv
        obtain ⟨b27, h26, h⟩ := bnd h
        refine call_by hP (s33 h26) hJ rfl rfl ?_
        cbv
        cases h
        exact ⟨[], _, _, [], rfl, rfl, rfl, rfl⟩
      | false =>
        replace h := cnd_f h
        cbv
        exact ⟨⟨(), h⟩, [(0, 0), (1, 1)], 2, [], rfl, trivial⟩
  · rintro ⟨_, h⟩ -
    rw [hj20] at h
    try dsimp only at h ⊢
    cbv
    revert h
    refine st_conv hJ fun v21 ev21 h => ?_
    cbv
    revert h
    refine st_div hJ fun v22 zv22 ev22 h => ?_
    cbv
    obtain ⟨j24, hj25, h⟩ := jn h
    refine JoinP.mk ({x : Unit // j24 () = some b16}) (fun x => ⟨[(2, .d (.int .i64 v13)), (3, .d (.int .i64 v14)), (5, .ptr 0 0), (6, .ptr 1 0), (11, .d (.int .i64 v22))], [(0, .box [.d (.int .i64 v1), .d (.int .i64 v2), .d (.int .i64 v3), .d (.int .i64 v4), .d (.int .i64 v5)]), (1, .box [.d (.lst c7 n8), .d (.int .i64 v10), .d (.int .i64 v11), .d (.int .i64 v12)])], 2, 94⟩) (fun _ => True) [2, 3, 5, 6, 11] ?_ ?_
    · cbv
      obtain ⟨l28, h27, h⟩ := bnd h
      obtain ⟨c29, n30, hl31⟩ := nameL (eI .i64) l28
      refine call_by hP (s18 hl9 hl31 h27) hJ rfl rfl ?_
      cbv
      revert h
      refine st_len hJ hl31 fun v32 ev32 h => ?_
      cbv
      obtain ⟨v35, h34, h⟩ := bnd h
      refine call_by hP (s42 hl9 h34) hJ rfl rfl ?_
      cbv
      revert h
      refine st_cmp hJ fun b36 eb36 h => ?_
      cbv
      cases b36 with
      | true =>
        replace h := cnd_t h
        cbv
        obtain ⟨b39, h38, h⟩ := bnd h
        refine call_by hP (s46 hl9 h38) hJ rfl rfl ?_
        cbv
        revert h
        refine st_not hJ fun b40 eb40 h => ?_
        cbv
        refine ⟨fun _ => by kernel_rfl, ?_⟩
        cbv
        cases b40 with
        | true =>
          replace h := cnd_t h
          cbv
          cases h
          exact ⟨[], _, _, [], rfl, rfl, rfl, rfl⟩
        | false =>
          replace h := cnd_f h
          cbv
          exact ⟨⟨(), h⟩, [(0, 0), (1, 1)], 2, [], rfl, trivial⟩
      | false =>
        replace h := cnd_f h
        cbv
        refine ⟨fun _ => by kernel_rfl, ?_⟩
        cbv
        exact ⟨⟨(), h⟩, [(0, 0), (1, 1)], 2, [], rfl, trivial⟩
    · rintro ⟨_, h⟩ -
      rw [hj25] at h
      try dsimp only at h ⊢
      cbv
      obtain ⟨b28, h27, h⟩ := bnd h
      refine call_by hP (s44 hl9 h27) hJ rfl rfl ?_
      cbv
      revert h
      refine st_not hJ fun b29 eb29 h => ?_
      cbv
      cases b29 with
      | true =>
        replace h := cnd_t h
        cbv
        cases h
        exact ⟨[], _, _, [], rfl, rfl, rfl, rfl⟩
      | false =>
        replace h := cnd_f h
        cbv
        obtain ⟨p31, q30, hp32, hf33, hq34⟩ := bnd_loop h
        clear h
        refine LoopB.mk ({x : Nat × Int × (List Int) × (List D) × Nat // IsL (eI .i64) x.2.2.2.1 x.2.2.2.2 x.2.2.1 ∧ loopN p31 x.1 (x.2.1, x.2.2.1) = some q30}) (fun x => ⟨[(2, .d (.int .i64 v13)), (3, .d (.int .i64 v14)), (5, .ptr 0 0), (6, .ptr 1 0), (11, .d (.int .i64 v22)), (12, .own 2 x.1.2.2.2.2 1), (13, .d (.int .i64 x.1.2.1))], [(0, .box [.d (.int .i64 v1), .d (.int .i64 v2), .d (.int .i64 v3), .d (.int .i64 v4), .d (.int .i64 v5)]), (1, .box [.d (.lst c7 n8), .d (.int .i64 v10), .d (.int .i64 v11), .d (.int .i64 v12)]), (2, .row x.1.2.2.2.1 1 3)], 3, 94⟩) (fun x => x.1.1) [2, 3, 5, 6, 11, 12, 13] 2 ⟨(FUEL, 0, ([] : List Int), [], 0), IsL.nil', hf33⟩ ⟨[(0, 0), (1, 1)], [.slot 12 2 1 3], ?_⟩ ?_
        · rfl
        · rintro ⟨⟨N37, v40, l41, c42, n43⟩, hl44, hr36⟩
          obtain ⟨M38, o35, eN39, h, hr36⟩ := loopN_step hr36
          subst eN39
          rw [hp32] at h
          try dsimp only at h ⊢
          cbv
          revert h
          refine st_cmp hJ fun b45 eb45 h => ?_
          cbv
          cases b45 with
          | true =>
            replace h := cnd_t h
            cbv
            have hl46 : IsL (eI .i64) [.int .i64 0] 1 [0] := ⟨rfl, rfl⟩
            refine st_any hJ rfl rfl (by subst hJ; exact (by decide : 1 ≤ 16777216)) ?_
            cbv
            revert h
            refine st_app hJ (eI_len .i64) hl44 hl46 fun c48 n49 l47 hl50 h => ?_
            cbv
            revert h
            refine st_bin hJ fun v51 ev51 h => ?_
            cbv
            cases h
            exact ⟨⟨(M38, v51, l47, c48, n49), hl50, hr36⟩, [(0, 0), (1, 1), (9, 2)], 3, [], rfl, Nat.lt_succ_self _⟩
          | false =>
            replace h := cnd_f h
            cbv
            cases h
            have h := hq34
            obtain rfl := hr36
            try dsimp only at h
            obtain ⟨p47, q46, hp48, hf49, hq50⟩ := bnd_loop h
            clear h
            refine LoopB.mk ({x : Nat × Int × (List Int) × (List D) × Nat // IsL (eI .i64) x.2.2.2.1 x.2.2.2.2 x.2.2.1 ∧ loopN p47 x.1 (x.2.1, x.2.2.1) = some q46}) (fun x => ⟨[(3, .d (.int .i64 v14)), (5, .ptr 0 0), (6, .ptr 1 0), (11, .d (.int .i64 v22)), (12, .own 2 x.1.2.2.2.2 1), (14, .d (.int .i64 x.1.2.1))], [(0, .box [.d (.int .i64 v1), .d (.int .i64 v2), .d (.int .i64 v3), .d (.int .i64 v4), .d (.int .i64 v5)]), (1, .box [.d (.lst c7 n8), .d (.int .i64 v10), .d (.int .i64 v11), .d (.int .i64 v12)]), (2, .row x.1.2.2.2.1 1 3)], 3, 94⟩) (fun x => x.1.1) [3, 5, 6, 11, 12, 14] 3 ⟨(FUEL, 0, l41, c42, n43), hl44, hf49⟩ ⟨[(0, 0), (1, 1), (2, 2)], [], ?_⟩ ?_
            · rfl
            · rintro ⟨⟨N53, v56, l57, c58, n59⟩, hl60, hr52⟩
              obtain ⟨M54, o51, eN55, h, hr52⟩ := loopN_step hr52
              subst eN55
              rw [hp48] at h
              try dsimp only at h ⊢
              cbv
              revert h
              refine st_cmp hJ fun b61 eb61 h => ?_
              cbv
              cases b61 with
              | true =>
                replace h := cnd_t h
                cbv
                have hl62 : IsL (eI .i64) [.int .i64 2] 1 [2] := ⟨rfl, rfl⟩
                refine st_any hJ rfl rfl (by subst hJ; exact (by decide : 1 ≤ 16777216)) ?_
                cbv
                revert h
                refine st_app hJ (eI_len .i64) hl60 hl62 fun c64 n65 l63 hl66 h => ?_
                cbv
                revert h
                refine st_bin hJ fun v67 ev67 h => ?_
                cbv
                cases h
                exact ⟨⟨(M54, v67, l63, c64, n65), hl66, hr52⟩, [(0, 0), (1, 1), (9, 2)], 3, [], rfl, Nat.lt_succ_self _⟩
              | false =>
                replace h := cnd_f h
                cbv
                cases h
                have h := hq50
                obtain rfl := hr52
                try dsimp only at h
                obtain ⟨⟨l64, ⟨l68, ⟨v72, v73, v74⟩⟩, b75⟩, h63, h⟩ := bnd h
                obtain ⟨c65, n66, hl67⟩ := nameL eAt l64
                obtain ⟨c69, n70, hl71⟩ := nameL (eI .i64) l68
                try dsimp only at h
                refine snap_by hP (s37 hl9 hl60 hl67 hl71 h63) hJ (by cbv) rfl ⟨by simp [V.noL, noLs, D.noL], ⟨noL_enc hl67 eAt_noL, ⟨noL_enc hl71 (eI_noL .i64), trivial⟩⟩⟩ ?_
                cbv
                cases b75 with
                | true =>
                  replace h := cnd_t h
                  cbv
                  obtain ⟨b78, h77, h⟩ := bnd h
                  refine snap_by hP (s46 hl71 h77) hJ (by cbv) rfl ⟨by simp [V.noL, noLs, D.noL], trivial⟩ ?_
                  cbv
                  cases h
                  exact ⟨[], _, _, [], rfl, rfl, rfl, rfl⟩
                | false =>
                  replace h := cnd_f h
                  cbv
                  cases h
                  exact ⟨[], _, _, [], rfl, rfl, rfl, rfl⟩
end Go.AX
