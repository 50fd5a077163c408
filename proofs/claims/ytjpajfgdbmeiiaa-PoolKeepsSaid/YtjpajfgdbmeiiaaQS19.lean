/- What functions of the program compute: each is what its Lean function says. -/
import Derived.Test.YtjpajfgdbmeiiaaQS11
import Derived.Test.YtjpajfgdbmeiiaaQS16
import Derived.Test.YtjpajfgdbmeiiaaQS17
import Derived.Test.YtjpajfgdbmeiiaaQS4
import Derived.Test.YtjpajfgdbmeiiaaQS8
namespace Go.AX
open Go.Proofs
set_option autoImplicit false
set_option linter.unusedVariables false
set_option maxRecDepth 100000
set_option maxHeartbeats 4000000
set_option linter.unusedSimpArgs false

theorem s4 {v1 : Int} {v2 : Int} {v3 : Int} {v4 : Int} {v5 : Int} {l6 : List Int} {c7 : List D} {n8 : Nat} {v10 : Int} {v11 : Int} {v12 : Int} {v13 : Int} {v14 : Int} (hl9 : IsL (eI .i64) c7 n8 l6) {b15 : Bool}  (h : m_law11_PoolKeeps (TGeom.mk v1 v2 v3 v4 v5) (TPool.mk l6 (A3.mk v10 v11 v12)) v13 v14 = some b15) : Spec Try.prog 4 [.agg [.d (.int .i64 v1), .d (.int .i64 v2), .d (.int .i64 v3), .d (.int .i64 v4), .d (.int .i64 v5)], .agg [.d (.lst c7 n8), .d (.int .i64 v10), .d (.int .i64 v11), .d (.int .i64 v12)], .d (.int .u8 v13), .d (.int .i64 v14)] ⟨.d (.bool b15), [], 0, True⟩ := by
  refine spec_b [6, 4] Try.func4 rfl rfl rfl fun J P hJ hP => ?_
  dsimp only [m_law11_PoolKeeps] at h
  cbv
  obtain ⟨j18, hj19, h⟩ := jn h
  refine JoinP.mk ({x : Unit // j18 () = some b15}) (fun x => ⟨[(2, .d (.int .u8 v13)), (3, .d (.int .i64 v14)), (4, .ptr 0 0), (5, .ptr 1 0)], [(0, .box [.d (.int .i64 v1), .d (.int .i64 v2), .d (.int .i64 v3), .d (.int .i64 v4), .d (.int .i64 v5)]), (1, .box [.d (.lst c7 n8), .d (.int .i64 v10), .d (.int .i64 v11), .d (.int .i64 v12)])], 2, 80⟩) (fun _ => True) [2, 3, 4, 5] ?_ ?_
  · cbv
    obtain ⟨j21, hj22, h⟩ := jn h
    refine JoinP.mk ({x : Bool // j21 (x) = some b15}) (fun x => ⟨[(2, .d (.int .u8 v13)), (3, .d (.int .i64 v14)), (4, .ptr 0 0), (5, .ptr 1 0), (29, .d (.bool x.1))], [(0, .box [.d (.int .i64 v1), .d (.int .i64 v2), .d (.int .i64 v3), .d (.int .i64 v4), .d (.int .i64 v5)]), (1, .box [.d (.lst c7 n8), .d (.int .i64 v10), .d (.int .i64 v11), .d (.int .i64 v12)])], 2, 80⟩) (fun _ => True) [2, 3, 4, 5, 29] ?_ ?_
    · cbv
      obtain ⟨b25, h24, h⟩ := bnd h
      refine call_by hP (s14 h24) hJ rfl rfl ?_
      cbv
      revert h
      refine st_not hJ fun b26 eb26 h => ?_
      cbv
      cases b26 with
      | true =>
        replace h := cnd_t h
        cbv
        exact ⟨⟨(true), h⟩, [(0, 0), (2, 1)], 2, [], rfl, trivial⟩
      | false =>
        replace h := cnd_f h
        cbv
        obtain ⟨b29, h28, h⟩ := bnd h
        refine call_by hP (s15 h28) hJ rfl rfl ?_
        cbv
        revert h
        refine st_not hJ fun b30 eb30 h => ?_
        cbv
        cases b30 with
        | true =>
          replace h := cnd_t h
          cbv
          exact ⟨⟨(true), h⟩, [(0, 0), (2, 1)], 2, [], rfl, trivial⟩
        | false =>
          replace h := cnd_f h
          cbv
          obtain ⟨b33, h32, h⟩ := bnd h
          refine call_by hP (s16 hl9 h32) hJ rfl rfl ?_
          cbv
          revert h
          refine st_not hJ fun b34 eb34 h => ?_
          cbv
          exact ⟨⟨(b34), h⟩, [(0, 0), (2, 1)], 2, [], rfl, trivial⟩
    · rintro ⟨b23, h⟩ -
      rw [hj22] at h
      try dsimp only at h ⊢
      cbv
      cases b23 with
      | true =>
        replace h := cnd_t h
        cbv
        obtain ⟨b26, h25, h⟩ := bnd h
        refine call_by hP (s14 h25) hJ rfl rfl ?_
        cbv
        cases h
        exact ⟨[], _, _, [], rfl, rfl, rfl, rfl⟩
      | false =>
        replace h := cnd_f h
        cbv
        exact ⟨⟨(), h⟩, [(0, 0), (1, 1)], 2, [], rfl, trivial⟩
  · rintro ⟨_, h⟩ -
    rw [hj19] at h
    try dsimp only at h ⊢
    cbv
    have hl20 : IsL (eI .i64) [] 0 [] := ⟨rfl, rfl⟩
    refine st_any hJ rfl rfl (by subst hJ; exact (by decide : 0 ≤ 16777216)) ?_
    cbv
    revert h
    refine st_app hJ (eI_len .i64) hl20 hl9 fun c22 n23 l21 hl24 h => ?_
    cbv
    refine ⟨fun _ => by kernel_rfl, ?_⟩
    cbv
    revert h
    refine st_div hJ fun v25 zv25 ev25 h => ?_
    cbv
    revert h
    refine st_conv hJ fun v26 ev26 h => ?_
    cbv
    obtain ⟨⟨⟨v29, v30⟩, ⟨l31, ⟨v35, v36, v37⟩⟩, b38⟩, h28, h⟩ := bnd h
    obtain ⟨c32, n33, hl34⟩ := nameL (eI .i64) l31
    try dsimp only at h
    refine call_by hP (s19 hl9 hl34 h28) hJ rfl rfl ?_
    cbv
    obtain ⟨⟨⟨l41, ⟨v45, v46, v47⟩⟩, b48⟩, h40, h⟩ := bnd h
    obtain ⟨c42, n43, hl44⟩ := nameL (eI .i64) l41
    try dsimp only at h
    refine call_by hP (s20 hl9 hl44 h40) hJ rfl rfl ?_
    cbv
    obtain ⟨p50, q49, hp51, hf52, hq53⟩ := bnd_loop h
    clear h
    refine LoopB.mk ({x : Nat × Int × (List Int) × (List D) × Nat // IsL (eI .i64) x.2.2.2.1 x.2.2.2.2 x.2.2.1 ∧ loopN p50 x.1 (x.2.1, x.2.2.1) = some q49}) (fun x => ⟨[(5, .ptr 0 0), (9, .ptr 1 0), (11, .ptr 2 0), (13, .ptr 3 0), (15, .d (.int .i64 x.1.2.1))], [(0, .box [.d (.lst c7 n8), .d (.int .i64 v10), .d (.int .i64 v11), .d (.int .i64 v12)]), (1, .box [.own 4 n23 1, .d (.int .i64 v10), .d (.int .i64 v11), .d (.int .i64 v12)]), (2, .box [.own 5 x.1.2.2.2.2 1, .d (.int .i64 v35), .d (.int .i64 v36), .d (.int .i64 v37)]), (3, .box [.own 6 n43 1, .d (.int .i64 v45), .d (.int .i64 v46), .d (.int .i64 v47)]), (4, .row c22 1 3), (5, .row x.1.2.2.2.1 1 3), (6, .row c42 1 3)], 7, 80⟩) (fun x => x.1.1) [5, 9, 11, 13, 15] 7 ⟨(FUEL, 0, l31, c32, n33), hl34, hf52⟩ ⟨[(1, 0), (11, 1), (27, 2), (40, 3), (6, 4), (19, 5), (35, 6)], [], ?_⟩ ?_
    · rfl
    · rintro ⟨⟨N56, v59, l60, c61, n62⟩, hl63, hr55⟩
      obtain ⟨M57, o54, eN58, h, hr55⟩ := loopN_step hr55
      subst eN58
      rw [hp51] at h
      try dsimp only at h ⊢
      cbv
      revert h
      refine st_len hJ hl63 fun v64 ev64 h => ?_
      cbv
      revert h
      refine st_cmp hJ fun b65 eb65 h => ?_
      cbv
      cases b65 with
      | true =>
        replace h := cnd_t h
        cbv
        revert h
        refine st_idx_pr hJ hl63 fun y66 k67 hy68 ho69 h => ?_
        cbv
        revert h
        refine st_st hJ (eI_len .i64) hl63 hy68 ho69 0 (fun hJ => by subst hJ; rfl) rfl (Nat.le_of_ble_eq_true rfl) (-7) rfl fun c72 l71 hl73 h => ?_
        cbv
        revert h
        refine st_bin hJ fun v74 ev74 h => ?_
        cbv
        cases h
        exact ⟨⟨(M57, v74, l71, c72, n62), hl73, hr55⟩, [(0, 0), (1, 1), (2, 2), (3, 3), (4, 4), (5, 5), (6, 6)], 7, [], rfl, Nat.lt_succ_self _⟩
      | false =>
        replace h := cnd_f h
        cbv
        cases h
        have h := hq53
        obtain rfl := hr55
        try dsimp only at h
        obtain ⟨p67, q66, hp68, hf69, hq70⟩ := bnd_loop h
        clear h
        refine LoopB.mk ({x : Nat × Int × (List Int) × (List D) × Nat // IsL (eI .i64) x.2.2.2.1 x.2.2.2.2 x.2.2.1 ∧ loopN p67 x.1 (x.2.1, x.2.2.1) = some q66}) (fun x => ⟨[(5, .ptr 0 0), (9, .ptr 1 0), (13, .ptr 2 0), (16, .d (.int .i64 x.1.2.1))], [(0, .box [.d (.lst c7 n8), .d (.int .i64 v10), .d (.int .i64 v11), .d (.int .i64 v12)]), (1, .box [.own 3 n23 1, .d (.int .i64 v10), .d (.int .i64 v11), .d (.int .i64 v12)]), (2, .box [.own 4 x.1.2.2.2.2 1, .d (.int .i64 v45), .d (.int .i64 v46), .d (.int .i64 v47)]), (3, .row c22 1 3), (4, .row x.1.2.2.2.1 1 3)], 5, 80⟩) (fun x => x.1.1) [5, 9, 13, 16] 5 ⟨(FUEL, 0, l41, c42, n43), hl44, hf69⟩ ⟨[(0, 0), (1, 1), (3, 2), (4, 3), (6, 4)], [], ?_⟩ ?_
        · rfl
        · rintro ⟨⟨N73, v76, l77, c78, n79⟩, hl80, hr72⟩
          obtain ⟨M74, o71, eN75, h, hr72⟩ := loopN_step hr72
          subst eN75
          rw [hp68] at h
          try dsimp only at h ⊢
          cbv
          revert h
          refine st_len hJ hl80 fun v81 ev81 h => ?_
          cbv
          revert h
          refine st_cmp hJ fun b82 eb82 h => ?_
          cbv
          cases b82 with
          | true =>
            replace h := cnd_t h
            cbv
            revert h
            refine st_idx_pr hJ hl80 fun y83 k84 hy85 ho86 h => ?_
            cbv
            revert h
            refine st_st hJ (eI_len .i64) hl80 hy85 ho86 0 (fun hJ => by subst hJ; rfl) rfl (Nat.le_of_ble_eq_true rfl) (-7) rfl fun c89 l88 hl90 h => ?_
            cbv
            revert h
            refine st_bin hJ fun v91 ev91 h => ?_
            cbv
            cases h
            exact ⟨⟨(M74, v91, l88, c89, n79), hl90, hr72⟩, [(0, 0), (1, 1), (2, 2), (3, 3), (4, 4)], 5, [], rfl, Nat.lt_succ_self _⟩
          | false =>
            replace h := cnd_f h
            cbv
            cases h
            have h := hq70
            obtain rfl := hr72
            try dsimp only at h
            obtain ⟨b85, h84, h⟩ := bnd h
            refine snap_by hP (s21 hl9 hl24 h84) hJ (by cbv) rfl ⟨by simp [V.noL, noLs, D.noL], trivial⟩ ?_
            cbv
            cases h
            exact ⟨[], _, _, [], rfl, rfl, rfl, rfl⟩
end Go.AX
