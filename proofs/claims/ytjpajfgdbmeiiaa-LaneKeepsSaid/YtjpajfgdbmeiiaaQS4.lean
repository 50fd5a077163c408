/- What functions of the program compute: each is what its Lean function says. -/
import Derived.Test.YtjpajfgdbmeiiaaQM
namespace Go.AX
open Go.Proofs
set_option autoImplicit false
set_option linter.unusedVariables false
set_option maxRecDepth 100000
set_option maxHeartbeats 4000000
set_option linter.unusedSimpArgs false

theorem s21 {l1 : List Int} {c2 : List D} {n3 : Nat} {v5 : Int} {v6 : Int} {v7 : Int} {l8 : List Int} {c9 : List D} {n10 : Nat} {v12 : Int} {v13 : Int} {v14 : Int} (hl4 : IsL (eI .i64) c2 n3 l1) (hl11 : IsL (eI .i64) c9 n10 l8) {b15 : Bool}  (h : m_ref11_Same (TPool.mk l1 (A3.mk v5 v6 v7)) (TPool.mk l8 (A3.mk v12 v13 v14)) = some b15) : Spec Try.prog 21 [.agg [.d (.lst c2 n3), .d (.int .i64 v5), .d (.int .i64 v6), .d (.int .i64 v7)], .agg [.d (.lst c9 n10), .d (.int .i64 v12), .d (.int .i64 v13), .d (.int .i64 v14)]] ⟨.d (.bool b15), [], 0, True⟩ := by
  refine spec_b [6] Try.func21 rfl rfl rfl fun J P hJ hP => ?_
  dsimp only [m_ref11_Same] at h
  cbv
  obtain ⟨j18, hj19, h⟩ := jn h
  refine JoinP.mk ({x : Unit // j18 () = some b15}) (fun x => ⟨[(2, .ptr 0 0), (3, .ptr 1 0)], [(0, .box [.d (.lst c2 n3), .d (.int .i64 v5), .d (.int .i64 v6), .d (.int .i64 v7)]), (1, .box [.d (.lst c9 n10), .d (.int .i64 v12), .d (.int .i64 v13), .d (.int .i64 v14)])], 2, 38⟩) (fun _ => True) [2, 3] ?_ ?_
  · cbv
    revert h
    refine st_bool hJ (fun hJ => by subst hJ; rfl) fun b20 eb20 h => ?_
    cbv
    cases b20 with
    | true =>
      replace h := cnd_t h
      cbv
      cases h
      exact ⟨[], _, _, [], rfl, rfl, rfl, rfl⟩
    | false =>
      replace h := cnd_f h
      cbv
      revert h
      refine st_len hJ hl4 fun v21 ev21 h => ?_
      cbv
      revert h
      refine st_len hJ hl11 fun v22 ev22 h => ?_
      cbv
      revert h
      refine st_cmp hJ fun b23 eb23 h => ?_
      cbv
      cases b23 with
      | true =>
        replace h := cnd_t h
        cbv
        cases h
        exact ⟨[], _, _, [], rfl, rfl, rfl, rfl⟩
      | false =>
        replace h := cnd_f h
        cbv
        exact ⟨⟨(), h⟩, [(0, 0), (2, 1)], 2, [], rfl, trivial⟩
  · rintro ⟨_, h⟩ -
    rw [hj19] at h
    try dsimp only at h ⊢
    cbv
    obtain ⟨p21, q20, hp22, hf23, hq24⟩ := bnd_loop h
    clear h
    refine LoopB.mk ({x : Nat × Int // loopN p21 x.1 (x.2) = some q20}) (fun x => ⟨[(2, .ptr 0 0), (3, .ptr 1 0), (5, .d (.int .i64 x.1.2))], [(0, .box [.d (.lst c2 n3), .d (.int .i64 v5), .d (.int .i64 v6), .d (.int .i64 v7)]), (1, .box [.d (.lst c9 n10), .d (.int .i64 v12), .d (.int .i64 v13), .d (.int .i64 v14)])], 2, 38⟩) (fun x => x.1.1) [2, 3, 5] 2 ⟨(FUEL, 0), hf23⟩ ⟨[(0, 0), (1, 1)], [], ?_⟩ ?_
    · rfl
    · rintro ⟨⟨N27, v30⟩, hr26⟩
      obtain ⟨M28, o25, eN29, h, hr26⟩ := loopN_step hr26
      subst eN29
      rw [hp22] at h
      try dsimp only at h ⊢
      cbv
      revert h
      refine st_len hJ hl4 fun v31 ev31 h => ?_
      cbv
      revert h
      refine st_cmp hJ fun b32 eb32 h => ?_
      cbv
      cases b32 with
      | true =>
        replace h := cnd_t h
        cbv
        revert h
        refine st_idx_lp hJ hl4 fun y33 k34 hy35 ho36 h => ?_
        cbv
        refine st_ld hJ (eI_len .i64) hl4 hy35 ho36 0 (fun hJ => by subst hJ; rfl) ([.int .i64 y33]) (Nat.le_of_ble_eq_true rfl) rfl (.int .nil) rfl ?_
        cbv
        revert h
        refine st_idx_lp hJ hl11 fun y38 k39 hy40 ho41 h => ?_
        cbv
        refine st_ld hJ (eI_len .i64) hl11 hy40 ho41 0 (fun hJ => by subst hJ; rfl) ([.int .i64 y38]) (Nat.le_of_ble_eq_true rfl) rfl (.int .nil) rfl ?_
        cbv
        revert h
        refine st_cmp hJ fun b43 eb43 h => ?_
        cbv
        refine ⟨fun _ => by kernel_rfl, ?_⟩
        cbv
        cases b43 with
        | true =>
          replace h := cnd_t h
          cbv
          cases h
          have h := hq24
          obtain rfl := hr26
          try dsimp only at h
          cases h
          exact ⟨[], _, _, [], rfl, rfl, rfl, rfl⟩
        | false =>
          replace h := cnd_f h
          cbv
          revert h
          refine st_bin hJ fun v44 ev44 h => ?_
          cbv
          cases h
          exact ⟨⟨(M28, v44), hr26⟩, [(0, 0), (1, 1)], 2, [], rfl, Nat.lt_succ_self _⟩
      | false =>
        replace h := cnd_f h
        cbv
        cases h
        have h := hq24
        obtain rfl := hr26
        try dsimp only at h
        cases h
        exact ⟨[], _, _, [], rfl, rfl, rfl, rfl⟩
theorem s53 {l1 : List TZone} {c2 : List D} {n3 : Nat} (hl4 : IsL eZone c2 n3 l1) {v5 : Int}  (h : m_ref04_opened l1 = some v5) : Spec Try.prog 53 [.d (.lst c2 n3)] ⟨.d (.int .i64 v5), [], 0, True⟩ := by
  refine spec_b [] Try.func53 rfl rfl rfl fun J P hJ hP => ?_
  dsimp only [m_ref04_opened] at h
  cbv
  obtain ⟨p8, q7, hp9, hf10, hq11⟩ := bnd_loop h
  clear h
  refine LoopB.mk ({x : Nat × Int × Int // loopN p8 x.1 (x.2.1, x.2.2) = some q7}) (fun x => ⟨[(0, .d (.lst c2 n3)), (3, .d (.int .i64 x.1.2.1)), (4, .d (.int .i64 x.1.2.2))], [], 0, 20⟩) (fun x => x.1.1) [0, 3, 4] 0 ⟨(FUEL, 0, 0), hf10⟩ ⟨[], [], ?_⟩ ?_
  · rfl
  · rintro ⟨⟨N14, v17, v18⟩, hr13⟩
    obtain ⟨M15, o12, eN16, h, hr13⟩ := loopN_step hr13
    subst eN16
    rw [hp9] at h
    try dsimp only at h ⊢
    cbv
    revert h
    refine st_len hJ hl4 fun v19 ev19 h => ?_
    cbv
    revert h
    refine st_cmp hJ fun b20 eb20 h => ?_
    cbv
    cases b20 with
    | true =>
      replace h := cnd_t h
      cbv
      revert h
      refine st_idx_lp hJ hl4 fun y21 k22 hy23 ho24 h => ?_
      obtain ⟨v25, v26⟩ := y21
      try dsimp only at h
      cbv
      refine st_ld hJ eZone_len hl4 hy23 ho24 0 (fun hJ => by subst hJ; rfl) ([.int .i64 v25]) (Nat.le_of_ble_eq_true rfl) rfl (.int .nil) rfl ?_
      cbv
      revert h
      refine st_cmp hJ fun b27 eb27 h => ?_
      cbv
      cases b27 with
      | true =>
        replace h := cnd_t h
        cbv
        revert h
        refine st_bin hJ fun v28 ev28 h => ?_
        cbv
        revert h
        refine st_bin hJ fun v29 ev29 h => ?_
        cbv
        cases h
        exact ⟨⟨(M15, v28, v29), hr13⟩, [], 0, [], rfl, Nat.lt_succ_self _⟩
      | false =>
        replace h := cnd_f h
        cbv
        revert h
        refine st_bin hJ fun v28 ev28 h => ?_
        cbv
        cases h
        exact ⟨⟨(M15, v17, v28), hr13⟩, [], 0, [], rfl, Nat.lt_succ_self _⟩
    | false =>
      replace h := cnd_f h
      cbv
      cases h
      have h := hq11
      obtain rfl := hr13
      try dsimp only at h
      cases h
      exact ⟨[], _, _, [], rfl, rfl, rfl, rfl⟩
end Go.AX
