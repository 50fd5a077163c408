/- What functions of the program compute: each is what its Lean function says. -/
import Derived.Test.YtjpajfgdbmeiiaaQS20
import Derived.Test.YtjpajfgdbmeiiaaQS9
namespace Go.AX
open Go.Proofs
set_option autoImplicit false
set_option linter.unusedVariables false
set_option maxRecDepth 100000
set_option maxHeartbeats 4000000
set_option linter.unusedSimpArgs false

theorem s19 {v1 : Int} {v2 : Int} {v3 : Int} {v4 : Int} {v5 : Int} {l6 : List Int} {c7 : List D} {n8 : Nat} {v10 : Int} {v11 : Int} {v12 : Int} {v13 : Int} (hl9 : IsL (eI .i64) c7 n8 l6) {v14 : Int} {v15 : Int} {l16 : List Int} {c17 : List D} {n18 : Nat} {v20 : Int} {v21 : Int} {v22 : Int} {b23 : Bool} (hl19 : IsL (eI .i64) c17 n18 l16) (h : m_pool_Step (TGeom.mk v1 v2 v3 v4 v5) (TPool.mk l6 (A3.mk v10 v11 v12)) v13 = some ((TAt.mk v14 v15), (TPool.mk l16 (A3.mk v20 v21 v22)), b23)) : Spec Try.prog 19 [.agg [.d (.int .i64 v1), .d (.int .i64 v2), .d (.int .i64 v3), .d (.int .i64 v4), .d (.int .i64 v5)], .agg [.d (.lst c7 n8), .d (.int .i64 v10), .d (.int .i64 v11), .d (.int .i64 v12)], .d (.int .i64 v13)] ⟨.tup [.agg [.d (.int .i64 v14), .d (.int .i64 v15)], .agg [.own 0 n18 1, .d (.int .i64 v20), .d (.int .i64 v21), .d (.int .i64 v22)], .d (.bool b23)], [(0, .row c17 1 3)], 1, True⟩ := by
  refine spec_b [16] Try.func19 rfl rfl rfl fun J P hJ hP => ?_
  dsimp only [m_pool_Step] at h
  cbv
  obtain ⟨⟨l27, ⟨v31, v32, v33⟩⟩, h26, h⟩ := bnd h
  obtain ⟨c28, n29, hl30⟩ := nameL (eI .i64) l27
  try dsimp only at h
  refine call_by hP (s51 hl9 hl30 h26) hJ rfl rfl ?_
  cbv
  revert h
  refine st_idx_px hJ (L := A3.l (A3.mk v10 v11 v12)) rfl fun v34 k35 hy36 ho37 h => ?_
  cbv
  refine st_ldA hJ rfl hy36 ho37 (fun hJ => by subst hJ; simp [stdJ, std]) ?_
  cbv
  obtain ⟨j39, hj40, h⟩ := jn h
  refine JoinP.mk ({x : Int // j39 (x) = some ((TAt.mk v14 v15), (TPool.mk l16 (A3.mk v20 v21 v22)), b23)}) (fun x => ⟨[(2, .d (.int .i64 v13)), (3, .ptr 0 0), (6, .ptr 1 0), (7, .ptr 2 0), (9, .ptr 3 0), (10, .d (.int .i64 x.1))], [(0, .box [.d (.int .i64 v1), .d (.int .i64 v2), .d (.int .i64 v3), .d (.int .i64 v4), .d (.int .i64 v5)]), (1, .box [.d (.int .i64 0), .d (.int .i64 0)]), (2, .box [.d .nils, .d (.int .i64 0), .d (.int .i64 0), .d (.int .i64 0)]), (3, .box [.own 4 n29 1, .d (.int .i64 v31), .d (.int .i64 v32), .d (.int .i64 v33)]), (4, .row c28 1 3)], 5, 65⟩) (fun _ => True) [2, 3, 6, 7, 9, 10] ?_ ?_
  · cbv
    revert h
    refine st_cmp hJ fun b41 eb41 h => ?_
    cbv
    cases b41 with
    | true =>
      replace h := cnd_t h
      cbv
      obtain ⟨l44, h43, h⟩ := bnd h
      obtain ⟨c45, n46, hl47⟩ := nameL (eI .i64) l44
      refine call_by hP (s18 hl9 hl47 h43) hJ rfl rfl ?_
      cbv
      revert h
      refine st_len hJ hl47 fun v48 ev48 h => ?_
      cbv
      revert h
      refine st_cmp hJ fun b49 eb49 h => ?_
      cbv
      cases b49 with
      | true =>
        replace h := cnd_t h
        cbv
        refine ⟨fun _ => by kernel_rfl, ?_⟩
        cbv
        cases h
        obtain ⟨rfl, rfl⟩ := IsL.uniq hl19 hl30
        exact ⟨[], _, _, [(10, 0)], rfl, rfl, rfl, rfl⟩
      | false =>
        replace h := cnd_f h
        cbv
        revert h
        refine st_idx_pr hJ hl47 fun y50 k51 hy52 ho53 h => ?_
        cbv
        refine st_ld hJ (eI_len .i64) hl47 hy52 ho53 0 (fun hJ => by subst hJ; rfl) ([.int .i64 y50]) (Nat.le_of_ble_eq_true rfl) rfl (.int .nil) rfl ?_
        cbv
        exact ⟨⟨(y50), h⟩, [(0, 0), (4, 1), (6, 2), (12, 3), (10, 4)], 5, [], rfl, trivial⟩
    | false =>
      replace h := cnd_f h
      cbv
      exact ⟨⟨(v34), h⟩, [(0, 0), (4, 1), (6, 2), (12, 3), (10, 4)], 5, [], rfl, trivial⟩
  · rintro ⟨v41, h⟩ -
    rw [hj40] at h
    try dsimp only at h ⊢
    cbv
    revert h
    refine st_bin hJ fun v42 ev42 h => ?_
    cbv
    revert h
    refine st_idx_pr hJ hl30 fun y43 k44 hy45 ho46 h => ?_
    cbv
    refine st_ld hJ (eI_len .i64) hl30 hy45 ho46 0 (fun hJ => by subst hJ; rfl) ([.int .i64 y43]) (Nat.le_of_ble_eq_true rfl) rfl (.int .nil) rfl ?_
    cbv
    refine st_ld hJ (eI_len .i64) hl30 hy45 ho46 0 (fun hJ => by subst hJ; rfl) ([.int .i64 y43]) (Nat.le_of_ble_eq_true rfl) rfl (.int .nil) rfl ?_
    cbv
    revert h
    refine st_bin hJ fun v48 ev48 h => ?_
    cbv
    revert h
    refine st_st hJ (eI_len .i64) hl30 hy45 ho46 0 (fun hJ => by subst hJ; rfl) rfl (Nat.le_of_ble_eq_true rfl) v48 rfl fun c50 l49 hl51 h => ?_
    cbv
    revert h
    refine st_idx_px hJ (L := A3.l (A3.mk v31 v32 v33)) rfl fun v52 k53 hy54 ho55 h => ?_
    cbv
    obtain ⟨w56, hw56, h⟩ := letv h
    obtain ⟨v57, v58, v59⟩ := w56
    obtain ⟨ev57, ev58, ev59⟩ := A3.put_eq hw56
    try dsimp only at h
    refine st_any hJ rfl (wr' := [(3, .box [.own 4 n29 1, .d (.int .i64 v57), .d (.int .i64 v58), .d (.int .i64 v59)])]) (by rw [sel_put hJ ho55 (at?_lt hy54).1, sel_put hJ ho55 (at?_lt hy54).1, sel_put hJ ho55 (at?_lt hy54).1]; first | rfl | simp [ev57, ev58, ev59]) (px_le hJ ho55 hy54) ?_
    cbv
    obtain ⟨y60, hy61, h⟩ := bnd h
    refine st_ld hJ (eI_len .i64) hl51 hy61 ho46 0 (fun hJ => by subst hJ; rfl) ([.int .i64 y60]) (Nat.le_of_ble_eq_true rfl) rfl (.int .nil) rfl ?_
    cbv
    revert h
    refine st_cmp hJ fun b63 eb63 h => ?_
    cbv
    refine ⟨fun _ => by kernel_rfl, ?_⟩
    cbv
    cases b63 with
    | true =>
      replace h := cnd_t h
      cbv
      revert h
      refine st_idx_px hJ (L := A3.l (A3.mk v57 v58 v59)) rfl fun v64 k65 hy66 ho67 h => ?_
      cbv
      obtain ⟨w68, hw68, h⟩ := letv h
      obtain ⟨v69, v70, v71⟩ := w68
      obtain ⟨ev69, ev70, ev71⟩ := A3.put_eq hw68
      try dsimp only at h
      refine st_any hJ rfl (wr' := [(3, .box [.own 4 n29 1, .d (.int .i64 v69), .d (.int .i64 v70), .d (.int .i64 v71)])]) (by rw [sel_put hJ ho67 (at?_lt hy66).1, sel_put hJ ho67 (at?_lt hy66).1, sel_put hJ ho67 (at?_lt hy66).1]; first | rfl | simp [ev69, ev70, ev71]) (px_le hJ ho67 hy66) ?_
      cbv
      refine ⟨fun _ => by kernel_rfl, ?_⟩
      cbv
      cases h
      obtain ⟨rfl, rfl⟩ := IsL.uniq hl19 hl51
      exact ⟨[], _, _, [(4, 0)], rfl, rfl, rfl, rfl⟩
    | false =>
      replace h := cnd_f h
      cbv
      refine ⟨fun _ => by kernel_rfl, ?_⟩
      cbv
      cases h
      obtain ⟨rfl, rfl⟩ := IsL.uniq hl19 hl51
      exact ⟨[], _, _, [(4, 0)], rfl, rfl, rfl, rfl⟩
theorem s20 {v1 : Int} {v2 : Int} {v3 : Int} {v4 : Int} {v5 : Int} {l6 : List Int} {c7 : List D} {n8 : Nat} {v10 : Int} {v11 : Int} {v12 : Int} {v13 : Int} (hl9 : IsL (eI .i64) c7 n8 l6) {l14 : List Int} {c15 : List D} {n16 : Nat} {v18 : Int} {v19 : Int} {v20 : Int} {b21 : Bool} (hl17 : IsL (eI .i64) c15 n16 l14) (h : m_pool_Reset (TGeom.mk v1 v2 v3 v4 v5) (TPool.mk l6 (A3.mk v10 v11 v12)) v13 = some ((TPool.mk l14 (A3.mk v18 v19 v20)), b21)) : Spec Try.prog 20 [.agg [.d (.int .i64 v1), .d (.int .i64 v2), .d (.int .i64 v3), .d (.int .i64 v4), .d (.int .i64 v5)], .agg [.d (.lst c7 n8), .d (.int .i64 v10), .d (.int .i64 v11), .d (.int .i64 v12)], .d (.int .i64 v13)] ⟨.tup [.agg [.own 0 n16 1, .d (.int .i64 v18), .d (.int .i64 v19), .d (.int .i64 v20)], .d (.bool b21)], [(0, .row c15 1 3)], 1, True⟩ := by
  refine spec_b [] Try.func20 rfl rfl rfl fun J P hJ hP => ?_
  dsimp only [m_pool_Reset] at h
  cbv
  obtain ⟨⟨l25, ⟨v29, v30, v31⟩⟩, h24, h⟩ := bnd h
  obtain ⟨c26, n27, hl28⟩ := nameL (eI .i64) l25
  try dsimp only at h
  refine call_by hP (s51 hl9 hl28 h24) hJ rfl rfl ?_
  cbv
  obtain ⟨l34, h33, h⟩ := bnd h
  obtain ⟨c35, n36, hl37⟩ := nameL (eI .i64) l34
  refine call_by hP (s30 hl9 hl37 h33) hJ rfl rfl ?_
  cbv
  obtain ⟨b40, h39, h⟩ := bnd h
  refine snap_by hP (s52 hl37 h39) hJ (by cbv) rfl ⟨by simp [V.noL, noLs, D.noL], trivial⟩ ?_
  cbv
  revert h
  refine st_not hJ fun b41 eb41 h => ?_
  cbv
  cases b41 with
  | true =>
    replace h := cnd_t h
    cbv
    cases h
    obtain ⟨rfl, rfl⟩ := IsL.uniq hl17 hl28
    exact ⟨[], _, _, [(8, 0)], rfl, rfl, rfl, rfl⟩
  | false =>
    replace h := cnd_f h
    cbv
    revert h
    refine st_bin hJ fun v42 ev42 h => ?_
    cbv
    revert h
    refine st_idx_pr hJ hl28 fun y43 k44 hy45 ho46 h => ?_
    cbv
    revert h
    refine st_st hJ (eI_len .i64) hl28 hy45 ho46 0 (fun hJ => by subst hJ; rfl) rfl (Nat.le_of_ble_eq_true rfl) 0 rfl fun c49 l48 hl50 h => ?_
    cbv
    cases h
    obtain ⟨rfl, rfl⟩ := IsL.uniq hl17 hl50
    exact ⟨[], _, _, [(8, 0)], rfl, rfl, rfl, rfl⟩
end Go.AX
