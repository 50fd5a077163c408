/- What functions of the program compute: each is what its Lean function says. -/
import Derived.Test.YtjpajfgdbmeiiaaQM
namespace Go.AX
open Go.Proofs
set_option autoImplicit false
set_option linter.unusedVariables false
set_option maxRecDepth 100000
set_option maxHeartbeats 4000000
set_option linter.unusedSimpArgs false

theorem s61 {l1 : List Int} {c2 : List D} {n3 : Nat} {v5 : Int} (hl4 : IsL (eI .i64) c2 n3 l1) {v6 : Int}  (h : m_slices_Index l1 v5 = some v6) : Spec Try.prog 61 [.d (.lst c2 n3), .d (.int .i64 v5)] ⟨.d (.int .i64 v6), [], 0, True⟩ := by
  refine spec_b [] Try.func61 rfl rfl rfl fun J P hJ hP => ?_
  dsimp only [m_slices_Index] at h
  cbv
  revert h
  refine st_len hJ hl4 fun v8 ev8 h => ?_
  cbv
  obtain ⟨p10, q9, hp11, hf12, hq13⟩ := bnd_loop h
  clear h
  refine LoopB.mk ({x : Nat × Int // loopN p10 x.1 (x.2) = some q9}) (fun x => ⟨[(0, .d (.lst c2 n3)), (1, .d (.int .i64 v5)), (7, .d (.int .i64 v8)), (8, .d (.int .i64 x.1.2))], [], 0, 19⟩) (fun x => x.1.1) [0, 1, 7, 8] 0 ⟨(FUEL, 0), hf12⟩ ⟨[], [], ?_⟩ ?_
  · rfl
  · rintro ⟨⟨N16, v19⟩, hr15⟩
    obtain ⟨M17, o14, eN18, h, hr15⟩ := loopN_step hr15
    subst eN18
    rw [hp11] at h
    try dsimp only at h ⊢
    cbv
    revert h
    refine st_cmp hJ fun b20 eb20 h => ?_
    cbv
    cases b20 with
    | true =>
      replace h := cnd_t h
      cbv
      revert h
      refine st_idx_lp hJ hl4 fun y21 k22 hy23 ho24 h => ?_
      cbv
      refine st_ld hJ (eI_len .i64) hl4 hy23 ho24 0 (fun hJ => by subst hJ; rfl) ([.int .i64 y21]) (Nat.le_of_ble_eq_true rfl) rfl (.int .nil) rfl ?_
      cbv
      revert h
      refine st_cmp hJ fun b26 eb26 h => ?_
      cbv
      cases b26 with
      | true =>
        replace h := cnd_t h
        cbv
        cases h
        have h := hq13
        obtain rfl := hr15
        try dsimp only at h
        cases h
        exact ⟨[], _, _, [], rfl, rfl, rfl, rfl⟩
      | false =>
        replace h := cnd_f h
        cbv
        revert h
        refine st_bin hJ fun v27 ev27 h => ?_
        cbv
        cases h
        exact ⟨⟨(M17, v27), hr15⟩, [], 0, [], rfl, Nat.lt_succ_self _⟩
    | false =>
      replace h := cnd_f h
      cbv
      cases h
      have h := hq13
      obtain rfl := hr15
      try dsimp only at h
      cases h
      exact ⟨[], _, _, [], rfl, rfl, rfl, rfl⟩
theorem s17 {v1 : Int} {v2 : Int} {v3 : Int} {v4 : Int} {v5 : Int} {l6 : List Int} {c7 : List D} {n8 : Nat} {v10 : Int} {v11 : Int} {v12 : Int} {v13 : Int} (hl9 : IsL (eI .i64) c7 n8 l6) {v14 : Int}  (h : m_pool_Room (TGeom.mk v1 v2 v3 v4 v5) (TPool.mk l6 (A3.mk v10 v11 v12)) v13 = some v14) : Spec Try.prog 17 [.agg [.d (.int .i64 v1), .d (.int .i64 v2), .d (.int .i64 v3), .d (.int .i64 v4), .d (.int .i64 v5)], .agg [.d (.lst c7 n8), .d (.int .i64 v10), .d (.int .i64 v11), .d (.int .i64 v12)], .d (.int .i64 v13)] ⟨.d (.int .i64 v14), [], 0, True⟩ := by
  refine spec_b [] Try.func17 rfl rfl rfl fun J P hJ hP => ?_
  dsimp only [m_pool_Room] at h
  cbv
  revert h
  refine st_idx_px hJ (L := A3.l (A3.mk v10 v11 v12)) rfl fun v16 k17 hy18 ho19 h => ?_
  cbv
  refine st_ldA hJ rfl hy18 ho19 (fun hJ => by subst hJ; simp [stdJ, std]) ?_
  cbv
  revert h
  refine st_cmp hJ fun b20 eb20 h => ?_
  cbv
  cases b20 with
  | true =>
    replace h := cnd_t h
    cbv
    cases h
    exact ⟨[], _, _, [], rfl, rfl, rfl, rfl⟩
  | false =>
    replace h := cnd_f h
    cbv
    revert h
    refine st_bin hJ fun v21 ev21 h => ?_
    cbv
    revert h
    refine st_idx_lp hJ hl9 fun y22 k23 hy24 ho25 h => ?_
    cbv
    refine st_ld hJ (eI_len .i64) hl9 hy24 ho25 0 (fun hJ => by subst hJ; rfl) ([.int .i64 y22]) (Nat.le_of_ble_eq_true rfl) rfl (.int .nil) rfl ?_
    cbv
    revert h
    refine st_bin hJ fun v27 ev27 h => ?_
    cbv
    refine ⟨fun _ => by kernel_rfl, ?_⟩
    cbv
    cases h
    exact ⟨[], _, _, [], rfl, rfl, rfl, rfl⟩
theorem s60 {v1 : Int} {v2 : Int} {v3 : Int} {v4 : Int} {v5 : Int}  {v6 : Int}  (h : m_ref03_Blocks (TGeom.mk v1 v2 v3 v4 v5) = some v6) : Spec Try.prog 60 [.agg [.d (.int .i64 v1), .d (.int .i64 v2), .d (.int .i64 v3), .d (.int .i64 v4), .d (.int .i64 v5)]] ⟨.d (.int .i64 v6), [], 0, True⟩ := by
  refine spec_b [] Try.func60 rfl rfl rfl fun J P hJ hP => ?_
  dsimp only [m_ref03_Blocks] at h
  cbv
  obtain ⟨p9, q8, hp10, hf11, hq12⟩ := bnd_loop h
  clear h
  refine LoopB.mk ({x : Nat × Int × Int // loopN p9 x.1 (x.2.1, x.2.2) = some q8}) (fun x => ⟨[(1, .ptr 0 0), (3, .d (.int .i64 x.1.2.1)), (4, .d (.int .i64 x.1.2.2))], [(0, .box [.d (.int .i64 v1), .d (.int .i64 v2), .d (.int .i64 v3), .d (.int .i64 v4), .d (.int .i64 v5)])], 1, 19⟩) (fun x => x.1.1) [1, 3, 4] 1 ⟨(FUEL, 0, 5), hf11⟩ ⟨[(0, 0)], [], ?_⟩ ?_
  · rfl
  · rintro ⟨⟨N15, v18, v19⟩, hr14⟩
    obtain ⟨M16, o13, eN17, h, hr14⟩ := loopN_step hr14
    subst eN17
    rw [hp10] at h
    try dsimp only at h ⊢
    cbv
    revert h
    refine st_cmp hJ fun b20 eb20 h => ?_
    cbv
    cases b20 with
    | true =>
      replace h := cnd_t h
      cbv
      revert h
      refine st_div hJ fun v21 zv21 ev21 h => ?_
      cbv
      revert h
      refine st_bin hJ fun v22 ev22 h => ?_
      cbv
      revert h
      refine st_bin hJ fun v23 ev23 h => ?_
      cbv
      cases h
      exact ⟨⟨(M16, v22, v23), hr14⟩, [(0, 0)], 1, [], rfl, Nat.lt_succ_self _⟩
    | false =>
      replace h := cnd_f h
      cbv
      cases h
      have h := hq12
      obtain rfl := hr14
      try dsimp only at h
      revert h
      refine st_cmp hJ fun b21 eb21 h => ?_
      cbv
      cases b21 with
      | true =>
        replace h := cnd_t h
        cbv
        cases h
        exact ⟨[], _, _, [], rfl, rfl, rfl, rfl⟩
      | false =>
        replace h := cnd_f h
        cbv
        cases h
        exact ⟨[], _, _, [], rfl, rfl, rfl, rfl⟩
theorem s49 {l1 : List Int} {c2 : List D} {n3 : Nat} {v5 : Int} {v6 : Int} {v7 : Int} {v8 : Int} (hl4 : IsL (eI .i64) c2 n3 l1) {b9 : Bool}  (h : m_ref11_Head (TPool.mk l1 (A3.mk v5 v6 v7)) v8 = some b9) : Spec Try.prog 49 [.agg [.d (.lst c2 n3), .d (.int .i64 v5), .d (.int .i64 v6), .d (.int .i64 v7)], .d (.int .i64 v8)] ⟨.d (.bool b9), [], 0, True⟩ := by
  refine spec_b [] Try.func49 rfl rfl rfl fun J P hJ hP => ?_
  dsimp only [m_ref11_Head] at h
  cbv
  revert h
  refine st_cmp hJ fun b11 eb11 h => ?_
  cbv
  cases b11 with
  | true =>
    replace h := cnd_t h
    cbv
    refine st_val hJ ?_
    cbv
    revert h
    refine st_cmp hJ fun b12 eb12 h => ?_
    cbv
    cases b12 with
    | true =>
      replace h := cnd_t h
      cbv
      cases h
      exact ⟨[], _, _, [], rfl, rfl, rfl, rfl⟩
    | false =>
      replace h := cnd_f h
      cbv
      refine st_val hJ ?_
      cbv
      revert h
      refine st_cmp hJ fun b13 eb13 h => ?_
      cbv
      cases b13 with
      | true =>
        replace h := cnd_t h
        cbv
        cases h
        exact ⟨[], _, _, [], rfl, rfl, rfl, rfl⟩
      | false =>
        replace h := cnd_f h
        cbv
        refine st_val hJ ?_
        cbv
        revert h
        refine st_cmp hJ fun b14 eb14 h => ?_
        cbv
        cases h
        exact ⟨[], _, _, [], rfl, rfl, rfl, rfl⟩
  | false =>
    replace h := cnd_f h
    cbv
    cases h
    exact ⟨[], _, _, [], rfl, rfl, rfl, rfl⟩
end Go.AX
