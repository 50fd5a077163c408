/- What functions of the program compute: each is what its Lean function says. -/
import Derived.Test.YtjpajfgdbmeiiaaQM
namespace Go.AX
open Go.Proofs
set_option autoImplicit false
set_option linter.unusedVariables false
set_option maxRecDepth 100000
set_option maxHeartbeats 4000000
set_option linter.unusedSimpArgs false

theorem s24 {v1 : Int} {v2 : Int} {v3 : Int} {v4 : Int} {v5 : Int} {l6 : List TZone} {c7 : List D} {n8 : Nat} (hl9 : IsL eZone c7 n8 l6) {l10 : List Int} {c11 : List D} {n12 : Nat} {v14 : Int} {v15 : Int} {v16 : Int} {b17 : Bool} (hl13 : IsL (eI .i64) c11 n12 l10) (h : m_ref11_Open (TGeom.mk v1 v2 v3 v4 v5) l6 = some ((TPool.mk l10 (A3.mk v14 v15 v16)), b17)) : Spec Try.prog 24 [.agg [.d (.int .i64 v1), .d (.int .i64 v2), .d (.int .i64 v3), .d (.int .i64 v4), .d (.int .i64 v5)], .d (.lst c7 n8)] ⟨.tup [.agg [.own 0 n12 1, .d (.int .i64 v14), .d (.int .i64 v15), .d (.int .i64 v16)], .d (.bool b17)], [(0, .row c11 1 3)], 1, True⟩ := by
  refine spec_b [18, 22] Try.func24 rfl rfl rfl fun J P hJ hP => ?_
  dsimp only [m_ref11_Open] at h
  cbv
  obtain ⟨p20, q19, hp21, hf22, hq23⟩ := bnd_loop h
  clear h
  refine LoopB.mk ({x : Nat × Int × Int × Int × Int × Int × (List Int) × (List D) × Nat // IsL (eI .i64) x.2.2.2.2.2.2.2.1 x.2.2.2.2.2.2.2.2 x.2.2.2.2.2.2.1 ∧ loopN p20 x.1 (x.2.1, x.2.2.1, x.2.2.2.1, x.2.2.2.2.1, x.2.2.2.2.2.1, x.2.2.2.2.2.2.1) = some q19}) (fun x => ⟨[(1, .d (.lst c7 n8)), (2, .ptr 0 0), (4, .ptr 1 0), (6, .ptr 2 0), (7, .d (.int .i64 x.1.2.1)), (8, .d (.int .i64 x.1.2.2.1))], [(0, .box [.d (.int .i64 v1), .d (.int .i64 v2), .d (.int .i64 v3), .d (.int .i64 v4), .d (.int .i64 v5)]), (1, .box [.d .nils, .d (.int .i64 0), .d (.int .i64 0), .d (.int .i64 0)]), (2, .box [.own 3 x.1.2.2.2.2.2.2.2.2 1, .d (.int .i64 x.1.2.2.2.1), .d (.int .i64 x.1.2.2.2.2.1), .d (.int .i64 x.1.2.2.2.2.2.1)]), (3, .row x.1.2.2.2.2.2.2.2.1 1 3)], 4, 60⟩) (fun x => x.1.1) [1, 2, 4, 6, 7, 8] 3 ⟨(FUEL, 0, v1, 0, 0, 0, ([] : List Int), [], 0), IsL.nil', hf22⟩ ⟨[(0, 0), (2, 1), (5, 2)], [.cell 2 0 3 1 3], ?_⟩ ?_
  · rfl
  · rintro ⟨⟨N26, v29, v30, v31, v32, v33, l34, c35, n36⟩, hl37, hr25⟩
    obtain ⟨M27, o24, eN28, h, hr25⟩ := loopN_step hr25
    subst eN28
    rw [hp21] at h
    try dsimp only at h ⊢
    cbv
    revert h
    refine st_bin hJ fun v38 ev38 h => ?_
    cbv
    revert h
    refine st_cmp hJ fun b39 eb39 h => ?_
    cbv
    cases b39 with
    | true =>
      replace h := cnd_t h
      cbv
      revert h
      refine st_idx_lp hJ hl9 fun y40 k41 hy42 ho43 h => ?_
      obtain ⟨v44, v45⟩ := y40
      try dsimp only at h
      cbv
      refine st_ld hJ eZone_len hl9 hy42 ho43 1 (fun hJ => by subst hJ; rfl) [.int .i64 v45] (Nat.le_of_ble_eq_true rfl) rfl rfl rfl ?_
      cbv
      obtain ⟨j47, hj48, h⟩ := jn h
      refine JoinP.mk ({x : Int // j47 (x) = some o24}) (fun x => ⟨[(1, .d (.lst c7 n8)), (2, .ptr 0 0), (4, .ptr 1 0), (6, .ptr 2 0), (7, .d (.int .i64 v29)), (8, .d (.int .i64 v30)), (9, .d (.int .i64 x.1))], [(0, .box [.d (.int .i64 v1), .d (.int .i64 v2), .d (.int .i64 v3), .d (.int .i64 v4), .d (.int .i64 v5)]), (1, .box [.d .nils, .d (.int .i64 0), .d (.int .i64 0), .d (.int .i64 0)]), (2, .box [.own 3 n36 1, .d (.int .i64 v31), .d (.int .i64 v32), .d (.int .i64 v33)]), (3, .row c35 1 3)], 4, 60⟩) (fun _ => True) [1, 2, 4, 6, 7, 8, 9] ?_ ?_
      · cbv
        revert h
        refine st_idx_lp hJ hl9 fun y49 k50 hy51 ho52 h => ?_
        obtain ⟨v53, v54⟩ := y49
        try dsimp only at h
        cbv
        refine st_ld hJ eZone_len hl9 hy51 ho52 0 (fun hJ => by subst hJ; rfl) [.int .i64 v53] (Nat.le_of_ble_eq_true rfl) rfl rfl rfl ?_
        cbv
        revert h
        refine st_cmp hJ fun b55 eb55 h => ?_
        cbv
        cases b55 with
        | true =>
          replace h := cnd_t h
          cbv
          exact ⟨⟨(v4), h⟩, [(0, 0), (1, 1), (2, 2), (3, 3)], 4, [], rfl, trivial⟩
        | false =>
          replace h := cnd_f h
          cbv
          exact ⟨⟨(v45), h⟩, [(0, 0), (1, 1), (2, 2), (3, 3)], 4, [], rfl, trivial⟩
      · rintro ⟨v49, h⟩ -
        rw [hj48] at h
        try dsimp only at h ⊢
        cbv
        have hl50 : IsL (eI .i64) [.int .i64 v49] 1 [v49] := ⟨rfl, rfl⟩
        refine st_any hJ rfl rfl (by subst hJ; exact (by decide : 1 ≤ 16777216)) ?_
        cbv
        revert h
        refine st_app hJ (eI_len .i64) hl37 hl50 fun c52 n53 l51 hl54 h => ?_
        cbv
        obtain ⟨j56, hj57, h⟩ := jn h
        refine JoinP.mk ({x : Bool // j56 (x) = some o24}) (fun x => ⟨[(1, .d (.lst c7 n8)), (2, .ptr 0 0), (4, .ptr 1 0), (6, .ptr 2 0), (7, .d (.int .i64 v29)), (8, .d (.int .i64 v30)), (47, .d (.bool x.1))], [(0, .box [.d (.int .i64 v1), .d (.int .i64 v2), .d (.int .i64 v3), .d (.int .i64 v4), .d (.int .i64 v5)]), (1, .box [.d .nils, .d (.int .i64 0), .d (.int .i64 0), .d (.int .i64 0)]), (2, .box [.own 3 n53 1, .d (.int .i64 v31), .d (.int .i64 v32), .d (.int .i64 v33)]), (3, .row c52 1 3)], 4, 60⟩) (fun _ => True) [1, 2, 4, 6, 7, 8, 47] ?_ ?_
        · cbv
          revert h
          refine st_cmp hJ fun b58 eb58 h => ?_
          cbv
          cases b58 with
          | true =>
            replace h := cnd_t h
            cbv
            revert h
            refine st_cmp hJ fun b59 eb59 h => ?_
            cbv
            exact ⟨⟨(b59), h⟩, [(0, 0), (1, 1), (2, 2), (9, 3)], 4, [], rfl, trivial⟩
          | false =>
            replace h := cnd_f h
            cbv
            exact ⟨⟨(false), h⟩, [(0, 0), (1, 1), (2, 2), (9, 3)], 4, [], rfl, trivial⟩
        · rintro ⟨b58, h⟩ -
          rw [hj57] at h
          try dsimp only at h ⊢
          cbv
          cases b58 with
          | true =>
            replace h := cnd_t h
            cbv
            revert h
            refine st_cmp hJ fun b59 eb59 h => ?_
            cbv
            cases b59 with
            | true =>
              replace h := cnd_t h
              cbv
              revert h
              refine st_idx_px hJ (L := A3.l (A3.mk v31 v32 v33)) rfl fun v60 k61 hy62 ho63 h => ?_
              cbv
              obtain ⟨w64, hw64, h⟩ := letv h
              obtain ⟨v65, v66, v67⟩ := w64
              obtain ⟨ev65, ev66, ev67⟩ := A3.put_eq hw64
              try dsimp only at h
              refine st_any hJ rfl (wr' := [(2, .box [.own 3 n53 1, .d (.int .i64 v65), .d (.int .i64 v66), .d (.int .i64 v67)])]) (by rw [sel_put hJ ho63 (at?_lt hy62).1, sel_put hJ ho63 (at?_lt hy62).1, sel_put hJ ho63 (at?_lt hy62).1]; first | rfl | simp [ev65, ev66, ev67]) (px_le hJ ho63 hy62) ?_
              cbv
              revert h
              refine st_bin hJ fun v68 ev68 h => ?_
              cbv
              revert h
              refine st_bin hJ fun v69 ev69 h => ?_
              cbv
              cases h
              exact ⟨⟨(M27, v68, v69, v65, v66, v67, l51, c52, n53), hl54, hr25⟩, [(0, 0), (1, 1), (2, 2), (3, 3)], 4, [], rfl, Nat.lt_succ_self _⟩
            | false =>
              replace h := cnd_f h
              cbv
              revert h
              refine st_bin hJ fun v60 ev60 h => ?_
              cbv
              revert h
              refine st_bin hJ fun v61 ev61 h => ?_
              cbv
              cases h
              exact ⟨⟨(M27, v60, v61, v31, v32, v33, l51, c52, n53), hl54, hr25⟩, [(0, 0), (1, 1), (2, 2), (3, 3)], 4, [], rfl, Nat.lt_succ_self _⟩
          | false =>
            replace h := cnd_f h
            cbv
            revert h
            refine st_bin hJ fun v59 ev59 h => ?_
            cbv
            cases h
            exact ⟨⟨(M27, v29, v59, v31, v32, v33, l51, c52, n53), hl54, hr25⟩, [(0, 0), (1, 1), (2, 2), (3, 3)], 4, [], rfl, Nat.lt_succ_self _⟩
    | false =>
      replace h := cnd_f h
      cbv
      cases h
      have h := hq23
      obtain rfl := hr25
      try dsimp only at h
      revert h
      refine st_cmp hJ fun b40 eb40 h => ?_
      cbv
      cases b40 with
      | true =>
        replace h := cnd_t h
        cbv
        cases h
        obtain ⟨rfl, rfl⟩ := IsL.nil hl13
        exact ⟨[.cell 1 0 1000000 1 3], _, _, [(1000000, 0)], rfl, rfl, rfl, rfl⟩
      | false =>
        replace h := cnd_f h
        cbv
        cases h
        obtain ⟨rfl, rfl⟩ := IsL.uniq hl13 hl37
        exact ⟨[], _, _, [(3, 0)], rfl, rfl, rfl, rfl⟩
end Go.AX
