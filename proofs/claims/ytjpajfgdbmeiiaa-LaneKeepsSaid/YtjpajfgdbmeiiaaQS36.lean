/- What functions of the program compute: each is what its Lean function says. -/
import Derived.Test.YtjpajfgdbmeiiaaQS19
import Derived.Test.YtjpajfgdbmeiiaaQS23
import Derived.Test.YtjpajfgdbmeiiaaQS30
import Derived.Test.YtjpajfgdbmeiiaaQS31
import Derived.Test.YtjpajfgdbmeiiaaQS4
import Derived.Test.YtjpajfgdbmeiiaaQS7
namespace Go.AX
open Go.Proofs
set_option autoImplicit false
set_option linter.unusedVariables false
set_option maxRecDepth 100000
set_option maxHeartbeats 4000000
set_option linter.unusedSimpArgs false

theorem s12 {v1 : Int} {v2 : Int} {v3 : Int} {v4 : Int} {v5 : Int} {l6 : List Int} {c7 : List D} {n8 : Nat} {v10 : Int} {v11 : Int} {v12 : Int} {l13 : List Int} {c14 : List D} {n15 : Nat} (hl9 : IsL (eI .i64) c7 n8 l6) (hl16 : IsL (eI .i64) c14 n15 l13) {b17 : Bool}  (h : m_law12_LaneKeeps (TGeom.mk v1 v2 v3 v4 v5) (TPool.mk l6 (A3.mk v10 v11 v12)) l13 = some b17) : Spec Try.prog 12 [.agg [.d (.int .i64 v1), .d (.int .i64 v2), .d (.int .i64 v3), .d (.int .i64 v4), .d (.int .i64 v5)], .agg [.d (.lst c7 n8), .d (.int .i64 v10), .d (.int .i64 v11), .d (.int .i64 v12)], .d (.lst c14 n15)] ⟨.d (.bool b17), [], 0, True⟩ := by
  refine spec_b [6, 4] Try.func12 rfl rfl rfl fun J P hJ hP => ?_
  dsimp only [m_law12_LaneKeeps] at h
  cbv
  obtain ⟨j20, hj21, h⟩ := jn h
  refine JoinP.mk ({x : Unit // j20 () = some b17}) (fun x => ⟨[(2, .d (.lst c14 n15)), (3, .ptr 0 0), (4, .ptr 1 0)], [(0, .box [.d (.int .i64 v1), .d (.int .i64 v2), .d (.int .i64 v3), .d (.int .i64 v4), .d (.int .i64 v5)]), (1, .box [.d (.lst c7 n8), .d (.int .i64 v10), .d (.int .i64 v11), .d (.int .i64 v12)])], 2, 58⟩) (fun _ => True) [2, 3, 4] ?_ ?_
  · cbv
    obtain ⟨j23, hj24, h⟩ := jn h
    refine JoinP.mk ({x : Bool // j23 (x) = some b17}) (fun x => ⟨[(2, .d (.lst c14 n15)), (3, .ptr 0 0), (4, .ptr 1 0), (24, .d (.bool x.1))], [(0, .box [.d (.int .i64 v1), .d (.int .i64 v2), .d (.int .i64 v3), .d (.int .i64 v4), .d (.int .i64 v5)]), (1, .box [.d (.lst c7 n8), .d (.int .i64 v10), .d (.int .i64 v11), .d (.int .i64 v12)])], 2, 58⟩) (fun _ => True) [2, 3, 4, 24] ?_ ?_
    · cbv
      obtain ⟨b27, h26, h⟩ := bnd h
      refine call_by hP (s33 h26) hJ rfl rfl ?_
      cbv
      revert h
      refine st_not hJ fun b28 eb28 h => ?_
      cbv
      cases b28 with
      | true =>
        replace h := cnd_t h
        cbv
        exact ⟨⟨(true), h⟩, [(0, 0), (2, 1)], 2, [], rfl, trivial⟩
      | false =>
        replace h := cnd_f h
        cbv
        obtain ⟨b31, h30, h⟩ := bnd h
        refine call_by hP (s34 hl9 h30) hJ rfl rfl ?_
        cbv
        revert h
        refine st_not hJ fun b32 eb32 h => ?_
        cbv
        cases b32 with
        | true =>
          replace h := cnd_t h
          cbv
          exact ⟨⟨(true), h⟩, [(0, 0), (2, 1)], 2, [], rfl, trivial⟩
        | false =>
          replace h := cnd_f h
          cbv
          obtain ⟨b35, h34, h⟩ := bnd h
          refine call_by hP (s35 hl16 h34) hJ rfl rfl ?_
          cbv
          revert h
          refine st_not hJ fun b36 eb36 h => ?_
          cbv
          exact ⟨⟨(b36), h⟩, [(0, 0), (2, 1)], 2, [], rfl, trivial⟩
    · rintro ⟨b25, h⟩ -
      rw [hj24] at h
      try dsimp only at h ⊢
      cbv
      cases b25 with
      | true =>
        replace h := cnd_t h
        cbv
        obtain ⟨b28, h27, h⟩ := bnd h
        refine call_by hP (s33 h27) hJ rfl rfl ?_
        cbv
        cases h
        exact ⟨[], _, _, [], rfl, rfl, rfl, rfl⟩
      | false =>
        replace h := cnd_f h
        cbv
        exact ⟨⟨(), h⟩, [(0, 0), (1, 1)], 2, [], rfl, trivial⟩
  · rintro ⟨_, h⟩ -
    rw [hj21] at h
    try dsimp only at h ⊢
    cbv
    have hl22 : IsL (eI .i64) [] 0 [] := ⟨rfl, rfl⟩
    refine st_any hJ rfl rfl (by subst hJ; exact (by decide : 0 ≤ 16777216)) ?_
    cbv
    revert h
    refine st_app hJ (eI_len .i64) hl22 hl9 fun c24 n25 l23 hl26 h => ?_
    cbv
    refine ⟨fun _ => by kernel_rfl, ?_⟩
    cbv
    obtain ⟨⟨l29, ⟨l33, ⟨v37, v38, v39⟩⟩, b40⟩, h28, h⟩ := bnd h
    obtain ⟨c30, n31, hl32⟩ := nameL eAt l29
    obtain ⟨c34, n35, hl36⟩ := nameL (eI .i64) l33
    try dsimp only at h
    refine call_by hP (s37 hl9 hl16 hl32 hl36 h28) hJ rfl rfl ?_
    cbv
    obtain ⟨p42, q41, hp43, hf44, hq45⟩ := bnd_loop h
    clear h
    refine LoopB.mk ({x : Nat × Int × (List Int) × (List D) × Nat // IsL (eI .i64) x.2.2.2.1 x.2.2.2.2 x.2.2.1 ∧ loopN p42 x.1 (x.2.1, x.2.2.1) = some q41}) (fun x => ⟨[(3, .ptr 0 0), (4, .ptr 1 0), (7, .ptr 2 0), (9, .ptr 3 0), (11, .d (.int .i64 x.1.2.1))], [(0, .box [.d (.int .i64 v1), .d (.int .i64 v2), .d (.int .i64 v3), .d (.int .i64 v4), .d (.int .i64 v5)]), (1, .box [.d (.lst c7 n8), .d (.int .i64 v10), .d (.int .i64 v11), .d (.int .i64 v12)]), (2, .box [.own 4 n25 1, .d (.int .i64 v10), .d (.int .i64 v11), .d (.int .i64 v12)]), (3, .box [.own 5 x.1.2.2.2.2 1, .d (.int .i64 v37), .d (.int .i64 v38), .d (.int .i64 v39)]), (4, .row c24 1 3), (5, .row x.1.2.2.2.1 1 3)], 6, 58⟩) (fun x => x.1.1) [3, 4, 7, 9, 11] 6 ⟨(FUEL, 0, l33, c34, n35), hl36, hf44⟩ ⟨[(0, 0), (1, 1), (11, 2), (24, 3), (6, 4), (18, 5)], [], ?_⟩ ?_
    · rfl
    · rintro ⟨⟨N48, v51, l52, c53, n54⟩, hl55, hr47⟩
      obtain ⟨M49, o46, eN50, h, hr47⟩ := loopN_step hr47
      subst eN50
      rw [hp43] at h
      try dsimp only at h ⊢
      cbv
      revert h
      refine st_len hJ hl55 fun v56 ev56 h => ?_
      cbv
      revert h
      refine st_cmp hJ fun b57 eb57 h => ?_
      cbv
      cases b57 with
      | true =>
        replace h := cnd_t h
        cbv
        revert h
        refine st_idx_pr hJ hl55 fun y58 k59 hy60 ho61 h => ?_
        cbv
        revert h
        refine st_st hJ (eI_len .i64) hl55 hy60 ho61 0 (fun hJ => by subst hJ; rfl) rfl (Nat.le_of_ble_eq_true rfl) (-7) rfl fun c64 l63 hl65 h => ?_
        cbv
        revert h
        refine st_bin hJ fun v66 ev66 h => ?_
        cbv
        cases h
        exact ⟨⟨(M49, v66, l63, c64, n54), hl65, hr47⟩, [(0, 0), (1, 1), (2, 2), (3, 3), (4, 4), (5, 5)], 6, [], rfl, Nat.lt_succ_self _⟩
      | false =>
        replace h := cnd_f h
        cbv
        cases h
        have h := hq45
        obtain rfl := hr47
        try dsimp only at h
        obtain ⟨b60, h59, h⟩ := bnd h
        refine call_by hP (s44 hl9 h59) hJ rfl rfl ?_
        cbv
        obtain ⟨b63, h62, h⟩ := bnd h
        refine snap_by hP (s21 hl9 hl26 h62) hJ (by cbv) rfl ⟨by simp [V.noL, noLs, D.noL], trivial⟩ ?_
        cbv
        cases h
        exact ⟨[], _, _, [], rfl, rfl, rfl, rfl⟩
end Go.AX
