/- What functions of the program compute: each is what its Lean function says. -/
import Derived.Test.YtjpajfgdbmeiiaaQS12
import Derived.Test.YtjpajfgdbmeiiaaQS6
namespace Go.AX
open Go.Proofs
set_option autoImplicit false
set_option linter.unusedVariables false
set_option maxRecDepth 100000
set_option maxHeartbeats 4000000
set_option linter.unusedSimpArgs false

theorem s26 {v1 : Int} {v2 : Int} {v3 : Int} {v4 : Int} {v5 : Int} {l6 : List Int} {c7 : List D} {n8 : Nat} {v10 : Int} {v11 : Int} {v12 : Int} {v13 : Int} (hl9 : IsL (eI .i64) c7 n8 l6) {v14 : Int} {v15 : Int} {l16 : List Int} {c17 : List D} {n18 : Nat} {v20 : Int} {v21 : Int} {v22 : Int} {b23 : Bool} (hl19 : IsL (eI .i64) c17 n18 l16) (h : m_ref11_Step (TGeom.mk v1 v2 v3 v4 v5) (TPool.mk l6 (A3.mk v10 v11 v12)) v13 = some ((TAt.mk v14 v15), (TPool.mk l16 (A3.mk v20 v21 v22)), b23)) : Spec Try.prog 26 [.agg [.d (.int .i64 v1), .d (.int .i64 v2), .d (.int .i64 v3), .d (.int .i64 v4), .d (.int .i64 v5)], .agg [.d (.lst c7 n8), .d (.int .i64 v10), .d (.int .i64 v11), .d (.int .i64 v12)], .d (.int .i64 v13)] ⟨.tup [.agg [.d (.int .i64 v14), .d (.int .i64 v15)], .agg [.d (.lst c17 n18), .d (.int .i64 v20), .d (.int .i64 v21), .d (.int .i64 v22)], .d (.bool b23)], [], 0, True⟩ := by
  refine spec_b [14, 24] Try.func26 rfl rfl rfl fun J P hJ hP => ?_
  dsimp only [m_ref11_Step] at h
  cbv
  revert h
  refine st_idx_px hJ (L := A3.l (A3.mk v10 v11 v12)) rfl fun v25 k26 hy27 ho28 h => ?_
  cbv
  refine st_ldA hJ rfl hy27 ho28 (fun hJ => by subst hJ; simp [stdJ, std]) ?_
  cbv
  obtain ⟨j30, hj31, h⟩ := jn h
  refine JoinP.mk ({x : Int // j30 (x) = some ((TAt.mk v14 v15), (TPool.mk l16 (A3.mk v20 v21 v22)), b23)}) (fun x => ⟨[(2, .d (.int .i64 v13)), (3, .ptr 0 0), (4, .ptr 1 0), (6, .ptr 2 0), (7, .ptr 3 0), (9, .d (.int .i64 x.1))], [(0, .box [.d (.int .i64 v1), .d (.int .i64 v2), .d (.int .i64 v3), .d (.int .i64 v4), .d (.int .i64 v5)]), (1, .box [.d (.lst c7 n8), .d (.int .i64 v10), .d (.int .i64 v11), .d (.int .i64 v12)]), (2, .box [.d (.int .i64 0), .d (.int .i64 0)]), (3, .box [.d .nils, .d (.int .i64 0), .d (.int .i64 0), .d (.int .i64 0)])], 4, 60⟩) (fun _ => True) [2, 3, 4, 6, 7, 9] ?_ ?_
  · cbv
    revert h
    refine st_cmp hJ fun b32 eb32 h => ?_
    cbv
    cases b32 with
    | true =>
      replace h := cnd_t h
      cbv
      obtain ⟨l35, h34, h⟩ := bnd h
      obtain ⟨c36, n37, hl38⟩ := nameL (eI .i64) l35
      refine call_by hP (s29 hl9 hl38 h34) hJ rfl rfl ?_
      cbv
      revert h
      refine st_len hJ hl38 fun v39 ev39 h => ?_
      cbv
      revert h
      refine st_cmp hJ fun b40 eb40 h => ?_
      cbv
      cases b40 with
      | true =>
        replace h := cnd_t h
        cbv
        refine ⟨fun _ => by kernel_rfl, ?_⟩
        cbv
        cases h
        obtain ⟨rfl, rfl⟩ := IsL.uniq hl19 hl9
        exact ⟨[], _, _, [], rfl, rfl, rfl, rfl⟩
      | false =>
        replace h := cnd_f h
        cbv
        revert h
        refine st_idx_pr hJ hl38 fun y41 k42 hy43 ho44 h => ?_
        cbv
        refine st_ld hJ (eI_len .i64) hl38 hy43 ho44 0 (fun hJ => by subst hJ; rfl) ([.int .i64 y41]) (Nat.le_of_ble_eq_true rfl) rfl (.int .nil) rfl ?_
        cbv
        exact ⟨⟨(y41), h⟩, [(0, 0), (2, 1), (4, 2), (6, 3)], 4, [], rfl, trivial⟩
    | false =>
      replace h := cnd_f h
      cbv
      exact ⟨⟨(v25), h⟩, [(0, 0), (2, 1), (4, 2), (6, 3)], 4, [], rfl, trivial⟩
  · rintro ⟨v32, h⟩ -
    rw [hj31] at h
    try dsimp only at h ⊢
    cbv
    revert h
    refine st_bin hJ fun v33 ev33 h => ?_
    cbv
    revert h
    refine st_idx_lp hJ hl9 fun y34 k35 hy36 ho37 h => ?_
    cbv
    refine st_ld hJ (eI_len .i64) hl9 hy36 ho37 0 (fun hJ => by subst hJ; rfl) ([.int .i64 y34]) (Nat.le_of_ble_eq_true rfl) rfl (.int .nil) rfl ?_
    cbv
    revert h
    refine st_bin hJ fun v39 ev39 h => ?_
    cbv
    obtain ⟨⟨l42, ⟨v46, v47, v48⟩⟩, h41, h⟩ := bnd h
    obtain ⟨c43, n44, hl45⟩ := nameL (eI .i64) l42
    try dsimp only at h
    refine call_by hP (s55 hl9 hl45 h41) hJ rfl rfl ?_
    cbv
    revert h
    refine st_idx_px hJ (L := A3.l (A3.mk v46 v47 v48)) rfl fun v49 k50 hy51 ho52 h => ?_
    cbv
    obtain ⟨w53, hw53, h⟩ := letv h
    obtain ⟨v54, v55, v56⟩ := w53
    obtain ⟨ev54, ev55, ev56⟩ := A3.put_eq hw53
    try dsimp only at h
    refine st_any hJ rfl (wr' := [(20, .box [.own 18 n44 1, .d (.int .i64 v54), .d (.int .i64 v55), .d (.int .i64 v56)])]) (by rw [sel_put hJ ho52 (at?_lt hy51).1, sel_put hJ ho52 (at?_lt hy51).1, sel_put hJ ho52 (at?_lt hy51).1]; first | rfl | simp [ev54, ev55, ev56]) (px_le hJ ho52 hy51) ?_
    cbv
    obtain ⟨j58, hj59, h⟩ := jn h
    refine JoinP.mk ({x : Int × Int × Int // j58 (x.1, x.2.1, x.2.2) = some ((TAt.mk v14 v15), (TPool.mk l16 (A3.mk v20 v21 v22)), b23)}) (fun x => ⟨[(6, .ptr 0 0), (7, .ptr 1 0), (9, .d (.int .i64 v32)), (11, .d (.int .i64 y34)), (12, .ptr 2 0)], [(0, .box [.d (.int .i64 0), .d (.int .i64 0)]), (1, .box [.d .nils, .d (.int .i64 0), .d (.int .i64 0), .d (.int .i64 0)]), (2, .box [.own 3 n44 1, .d (.int .i64 x.1.1), .d (.int .i64 x.1.2.1), .d (.int .i64 x.1.2.2)]), (3, .row c43 1 3)], 4, 60⟩) (fun _ => True) [6, 7, 9, 11, 12] ?_ ?_
    · cbv
      revert h
      refine st_bin hJ fun v60 ev60 h => ?_
      cbv
      revert h
      refine st_cmp hJ fun b61 eb61 h => ?_
      cbv
      cases b61 with
      | true =>
        replace h := cnd_t h
        cbv
        revert h
        refine st_idx_px hJ (L := A3.l (A3.mk v54 v55 v56)) rfl fun v62 k63 hy64 ho65 h => ?_
        cbv
        obtain ⟨w66, hw66, h⟩ := letv h
        obtain ⟨v67, v68, v69⟩ := w66
        obtain ⟨ev67, ev68, ev69⟩ := A3.put_eq hw66
        try dsimp only at h
        refine st_any hJ rfl (wr' := [(20, .box [.own 18 n44 1, .d (.int .i64 v67), .d (.int .i64 v68), .d (.int .i64 v69)])]) (by rw [sel_put hJ ho65 (at?_lt hy64).1, sel_put hJ ho65 (at?_lt hy64).1, sel_put hJ ho65 (at?_lt hy64).1]; first | rfl | simp [ev67, ev68, ev69]) (px_le hJ ho65 hy64) ?_
        cbv
        exact ⟨⟨(v67, v68, v69), h⟩, [(2, 0), (3, 1), (20, 2), (18, 3)], 4, [], rfl, trivial⟩
      | false =>
        replace h := cnd_f h
        cbv
        exact ⟨⟨(v54, v55, v56), h⟩, [(2, 0), (3, 1), (20, 2), (18, 3)], 4, [], rfl, trivial⟩
    · rintro ⟨⟨v60, v61, v62⟩, h⟩ -
      rw [hj59] at h
      try dsimp only at h ⊢
      cbv
      refine ⟨fun _ => by kernel_rfl, ?_⟩
      cbv
      cases h
      obtain ⟨rfl, rfl⟩ := IsL.uniq hl19 hl45
      exact ⟨[], _, _, [], rfl, rfl, rfl, rfl⟩
end Go.AX
