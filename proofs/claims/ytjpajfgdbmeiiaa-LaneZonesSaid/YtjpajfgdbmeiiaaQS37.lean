/- What functions of the program compute: each is what its Lean function says. -/
import Derived.Test.YtjpajfgdbmeiiaaQS13
import Derived.Test.YtjpajfgdbmeiiaaQS19
import Derived.Test.YtjpajfgdbmeiiaaQS20
import Derived.Test.YtjpajfgdbmeiiaaQS23
import Derived.Test.YtjpajfgdbmeiiaaQS31
namespace Go.AX
open Go.Proofs
set_option autoImplicit false
set_option linter.unusedVariables false
set_option maxRecDepth 100000
set_option maxHeartbeats 4000000
set_option linter.unusedSimpArgs false

theorem s13 {v1 : Int} {v2 : Int} {v3 : Int} {v4 : Int} {v5 : Int} {l6 : List Int} {c7 : List D} {n8 : Nat} {v10 : Int} {v11 : Int} {v12 : Int} {v13 : Int} {v14 : Int} (hl9 : IsL (eI .i64) c7 n8 l6) {b15 : Bool}  (h : m_law12_LaneZones (TGeom.mk v1 v2 v3 v4 v5) (TPool.mk l6 (A3.mk v10 v11 v12)) v13 v14 = some b15) : Spec Try.prog 13 [.agg [.d (.int .i64 v1), .d (.int .i64 v2), .d (.int .i64 v3), .d (.int .i64 v4), .d (.int .i64 v5)], .agg [.d (.lst c7 n8), .d (.int .i64 v10), .d (.int .i64 v11), .d (.int .i64 v12)], .d (.int .u8 v13), .d (.int .u8 v14)] ⟨.d (.bool b15), [], 0, True⟩ := by
  refine spec_b [6, 4] Try.func13 rfl rfl rfl fun J P hJ hP => ?_
  dsimp only [m_law12_LaneZones] at h
  cbv
  obtain ⟨j18, hj19, h⟩ := jn h
  refine JoinP.mk ({x : Unit // j18 () = some b15}) (fun x => ⟨[(2, .d (.int .u8 v13)), (3, .d (.int .u8 v14)), (4, .ptr 0 0), (5, .ptr 1 0)], [(0, .box [.d (.int .i64 v1), .d (.int .i64 v2), .d (.int .i64 v3), .d (.int .i64 v4), .d (.int .i64 v5)]), (1, .box [.d (.lst c7 n8), .d (.int .i64 v10), .d (.int .i64 v11), .d (.int .i64 v12)])], 2, 87⟩) (fun _ => True) [2, 3, 4, 5] ?_ ?_
  · cbv
    obtain ⟨j21, hj22, h⟩ := jn h
    refine JoinP.mk ({x : Bool // j21 (x) = some b15}) (fun x => ⟨[(2, .d (.int .u8 v13)), (3, .d (.int .u8 v14)), (4, .ptr 0 0), (5, .ptr 1 0), (24, .d (.bool x.1))], [(0, .box [.d (.int .i64 v1), .d (.int .i64 v2), .d (.int .i64 v3), .d (.int .i64 v4), .d (.int .i64 v5)]), (1, .box [.d (.lst c7 n8), .d (.int .i64 v10), .d (.int .i64 v11), .d (.int .i64 v12)])], 2, 87⟩) (fun _ => True) [2, 3, 4, 5, 24] ?_ ?_
    · cbv
      obtain ⟨b25, h24, h⟩ := bnd h
      refine call_by hP (s33 h24) hJ rfl rfl ?_
      cbv
      revert h
      refine st_not hJ fun b26 eb26 h => ?_
      cbv
      cases b26 with
      | true =>
        replace h := cnd_t h
        cbv
        exact ⟨⟨(true), h⟩, [(0, 0), (2, 1)], 2, [], rfl, trivial⟩
      | false =>
        replace h := cnd_f h
        cbv
        obtain ⟨b29, h28, h⟩ := bnd h
        refine call_by hP (s34 hl9 h28) hJ rfl rfl ?_
        cbv
        revert h
        refine st_not hJ fun b30 eb30 h => ?_
        cbv
        exact ⟨⟨(b30), h⟩, [(0, 0), (2, 1)], 2, [], rfl, trivial⟩
    · rintro ⟨b23, h⟩ -
      rw [hj22] at h
      try dsimp only at h ⊢
      cbv
      cases b23 with
      | true =>
        replace h := cnd_t h
        cbv
        obtain ⟨b26, h25, h⟩ := bnd h
        refine call_by hP (s33 h25) hJ rfl rfl ?_
        cbv
        cases h
        exact ⟨[], _, _, [], rfl, rfl, rfl, rfl⟩
      | false =>
        replace h := cnd_f h
        cbv
        exact ⟨⟨(), h⟩, [(0, 0), (1, 1)], 2, [], rfl, trivial⟩
  · rintro ⟨_, h⟩ -
    rw [hj19] at h
    try dsimp only at h ⊢
    cbv
    revert h
    refine st_div hJ fun v20 zv20 ev20 h => ?_
    cbv
    revert h
    refine st_conv hJ fun v21 ev21 h => ?_
    cbv
    obtain ⟨p23, q22, hp24, hf25, hq26⟩ := bnd_loop h
    clear h
    refine LoopB.mk ({x : Nat × Int × (List Int) × (List D) × Nat // IsL (eI .i64) x.2.2.2.1 x.2.2.2.2 x.2.2.1 ∧ loopN p23 x.1 (x.2.1, x.2.2.1) = some q22}) (fun x => ⟨[(3, .d (.int .u8 v14)), (4, .ptr 0 0), (5, .ptr 1 0), (9, .d (.int .i64 v21)), (10, .own 2 x.1.2.2.2.2 1), (11, .d (.int .i64 x.1.2.1))], [(0, .box [.d (.int .i64 v1), .d (.int .i64 v2), .d (.int .i64 v3), .d (.int .i64 v4), .d (.int .i64 v5)]), (1, .box [.d (.lst c7 n8), .d (.int .i64 v10), .d (.int .i64 v11), .d (.int .i64 v12)]), (2, .row x.1.2.2.2.1 1 3)], 3, 87⟩) (fun x => x.1.1) [3, 4, 5, 9, 10, 11] 2 ⟨(FUEL, 0, ([] : List Int), [], 0), IsL.nil', hf25⟩ ⟨[(0, 0), (1, 1)], [.slot 10 2 1 3], ?_⟩ ?_
    · rfl
    · rintro ⟨⟨N29, v32, l33, c34, n35⟩, hl36, hr28⟩
      obtain ⟨M30, o27, eN31, h, hr28⟩ := loopN_step hr28
      subst eN31
      rw [hp24] at h
      try dsimp only at h ⊢
      cbv
      revert h
      refine st_conv hJ fun v37 ev37 h => ?_
      cbv
      revert h
      refine st_cmp hJ fun b38 eb38 h => ?_
      cbv
      cases b38 with
      | true =>
        replace h := cnd_t h
        cbv
        have hl39 : IsL (eI .i64) [.int .i64 v21] 1 [v21] := ⟨rfl, rfl⟩
        refine st_any hJ rfl rfl (by subst hJ; exact (by decide : 1 ≤ 16777216)) ?_
        cbv
        revert h
        refine st_app hJ (eI_len .i64) hl36 hl39 fun c41 n42 l40 hl43 h => ?_
        cbv
        revert h
        refine st_bin hJ fun v44 ev44 h => ?_
        cbv
        cases h
        exact ⟨⟨(M30, v44, l40, c41, n42), hl43, hr28⟩, [(0, 0), (1, 1), (11, 2)], 3, [], rfl, Nat.lt_succ_self _⟩
      | false =>
        replace h := cnd_f h
        cbv
        cases h
        have h := hq26
        obtain rfl := hr28
        try dsimp only at h
        revert h
        refine st_conv hJ fun v39 ev39 h => ?_
        cbv
        obtain ⟨v42, h41, h⟩ := bnd h
        refine call_by hP (s40 hl9 h41) hJ rfl rfl ?_
        cbv
        obtain ⟨⟨l45, ⟨l49, ⟨v53, v54, v55⟩⟩, b56⟩, h44, h⟩ := bnd h
        obtain ⟨c46, n47, hl48⟩ := nameL eAt l45
        obtain ⟨c50, n51, hl52⟩ := nameL (eI .i64) l49
        try dsimp only at h
        refine snap_by hP (s37 hl9 hl36 hl48 hl52 h44) hJ (by cbv) rfl ⟨by simp [V.noL, noLs, D.noL], ⟨noL_enc hl48 eAt_noL, ⟨noL_enc hl52 (eI_noL .i64), trivial⟩⟩⟩ ?_
        cbv
        obtain ⟨l59, h58, h⟩ := bnd h
        obtain ⟨c60, n61, hl62⟩ := nameL (eI .i64) l59
        refine call_by hP (s18 hl9 hl62 h58) hJ rfl rfl ?_
        cbv
        revert h
        refine st_len hJ hl62 fun v63 ev63 h => ?_
        cbv
        revert h
        refine st_not hJ fun b64 eb64 h => ?_
        cbv
        cases b64 with
        | true =>
          replace h := cnd_t h
          cbv
          revert h
          refine st_cmp hJ fun b65 eb65 h => ?_
          cbv
          cases b65 with
          | true =>
            replace h := cnd_t h
            cbv
            revert h
            refine st_len hJ hl48 fun v66 ev66 h => ?_
            cbv
            revert h
            refine st_cmp hJ fun b67 eb67 h => ?_
            cbv
            cases h
            exact ⟨[], _, _, [], rfl, rfl, rfl, rfl⟩
          | false =>
            replace h := cnd_f h
            cbv
            cases h
            exact ⟨[], _, _, [], rfl, rfl, rfl, rfl⟩
        | false =>
          replace h := cnd_f h
          cbv
          revert h
          refine st_cmp hJ fun b65 eb65 h => ?_
          cbv
          cases b65 with
          | true =>
            replace h := cnd_t h
            cbv
            revert h
            refine st_len hJ hl48 fun v66 ev66 h => ?_
            cbv
            revert h
            refine st_conv hJ fun v67 ev67 h => ?_
            cbv
            revert h
            refine st_cmp hJ fun b68 eb68 h => ?_
            cbv
            cases b68 with
            | true =>
              replace h := cnd_t h
              cbv
              obtain ⟨l71, h70, h⟩ := bnd h
              obtain ⟨c72, n73, hl74⟩ := nameL (eI .i64) l71
              refine snap_by hP (s18 hl52 hl74 h70) hJ (by cbv) rfl ⟨by simp [V.noL, noLs, D.noL], ⟨noL_enc hl74 (eI_noL .i64), trivial⟩⟩ ?_
              cbv
              revert h
              refine st_len hJ hl74 fun v75 ev75 h => ?_
              cbv
              revert h
              refine st_bin hJ fun v76 ev76 h => ?_
              cbv
              revert h
              refine st_cmp hJ fun b77 eb77 h => ?_
              cbv
              cases h
              exact ⟨[], _, _, [], rfl, rfl, rfl, rfl⟩
            | false =>
              replace h := cnd_f h
              cbv
              cases h
              exact ⟨[], _, _, [], rfl, rfl, rfl, rfl⟩
          | false =>
            replace h := cnd_f h
            cbv
            cases h
            exact ⟨[], _, _, [], rfl, rfl, rfl, rfl⟩
end Go.AX
