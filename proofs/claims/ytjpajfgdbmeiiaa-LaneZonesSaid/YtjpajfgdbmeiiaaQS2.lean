/- What functions of the program compute: each is what its Lean function says. -/
import Derived.Test.YtjpajfgdbmeiiaaQM
namespace Go.AX
open Go.Proofs
set_option autoImplicit false
set_option linter.unusedVariables false
set_option maxRecDepth 100000
set_option maxHeartbeats 4000000
set_option linter.unusedSimpArgs false

theorem s23 {v1 : Int} {v2 : Int} {v3 : Int} {v4 : Int} {v5 : Int} {l6 : List TZone} {c7 : List D} {n8 : Nat} (hl9 : IsL eZone c7 n8 l6) {l10 : List Int} {c11 : List D} {n12 : Nat} {v14 : Int} {v15 : Int} {v16 : Int} {b17 : Bool} (hl13 : IsL (eI .i64) c11 n12 l10) (h : m_pool_Open (TGeom.mk v1 v2 v3 v4 v5) l6 = some ((TPool.mk l10 (A3.mk v14 v15 v16)), b17)) : Spec Try.prog 23 [.agg [.d (.int .i64 v1), .d (.int .i64 v2), .d (.int .i64 v3), .d (.int .i64 v4), .d (.int .i64 v5)], .d (.lst c7 n8)] ⟨.tup [.agg [.own 0 n12 1, .d (.int .i64 v14), .d (.int .i64 v15), .d (.int .i64 v16)], .d (.bool b17)], [(0, .row c11 1 3)], 1, True⟩ := by
  refine spec_b [18, 22] Try.func23 rfl rfl rfl fun J P hJ hP => ?_
  dsimp only [m_pool_Open] at h
  cbv
  revert h
  refine st_from hJ eZone_len hl9 fun c20 n21 l19 hl22 h => ?_
  cbv
  revert h
  refine st_len hJ hl22 fun v23 ev23 h => ?_
  cbv
  obtain ⟨p25, q24, hp26, hf27, hq28⟩ := bnd_loop h
  clear h
  refine LoopB.mk ({x : Nat × Int × Int × Int × Int × Int × (List Int) × (List D) × Nat // IsL (eI .i64) x.2.2.2.2.2.2.2.1 x.2.2.2.2.2.2.2.2 x.2.2.2.2.2.2.1 ∧ loopN p25 x.1 (x.2.1, x.2.2.1, x.2.2.2.1, x.2.2.2.2.1, x.2.2.2.2.2.1, x.2.2.2.2.2.2.1) = some q24}) (fun x => ⟨[(2, .ptr 0 0), (4, .ptr 1 0), (6, .ptr 2 0), (7, .d (.int .i64 x.1.2.1)), (14, .d (.lst c20 n21)), (15, .d (.int .i64 v23)), (16, .d (.int .i64 x.1.2.2.1))], [(0, .box [.d (.int .i64 v1), .d (.int .i64 v2), .d (.int .i64 v3), .d (.int .i64 v4), .d (.int .i64 v5)]), (1, .box [.d .nils, .d (.int .i64 0), .d (.int .i64 0), .d (.int .i64 0)]), (2, .box [.own 3 x.1.2.2.2.2.2.2.2.2 1, .d (.int .i64 x.1.2.2.2.1), .d (.int .i64 x.1.2.2.2.2.1), .d (.int .i64 x.1.2.2.2.2.2.1)]), (3, .row x.1.2.2.2.2.2.2.2.1 1 3)], 4, 56⟩) (fun x => x.1.1) [2, 4, 6, 7, 14, 15, 16] 3 ⟨(FUEL, 0, 0, 0, 0, 0, ([] : List Int), [], 0), IsL.nil', hf27⟩ ⟨[(0, 0), (2, 1), (5, 2)], [.cell 2 0 3 1 3], ?_⟩ ?_
  · rfl
  · rintro ⟨⟨N31, v34, v35, v36, v37, v38, l39, c40, n41⟩, hl42, hr30⟩
    obtain ⟨M32, o29, eN33, h, hr30⟩ := loopN_step hr30
    subst eN33
    rw [hp26] at h
    try dsimp only at h ⊢
    cbv
    revert h
    refine st_cmp hJ fun b43 eb43 h => ?_
    cbv
    cases b43 with
    | true =>
      replace h := cnd_t h
      cbv
      revert h
      refine st_idx_lp hJ hl22 fun y44 k45 hy46 ho47 h => ?_
      obtain ⟨v48, v49⟩ := y44
      try dsimp only at h
      cbv
      refine st_ld hJ eZone_len hl22 hy46 ho47 0 (fun hJ => by subst hJ; rfl) ([.int .i64 v48, .int .i64 v49]) (Nat.le_of_ble_eq_true rfl) rfl (.int (.int .nil)) rfl ?_
      cbv
      obtain ⟨j51, hj52, h⟩ := jn h
      refine JoinP.mk ({x : Int // j51 (x) = some o29}) (fun x => ⟨[(2, .ptr 0 0), (4, .ptr 1 0), (6, .ptr 2 0), (7, .d (.int .i64 v34)), (8, .d (.int .i64 v35)), (10, .d (.int .i64 x.1)), (14, .d (.lst c20 n21)), (15, .d (.int .i64 v23)), (16, .d (.int .i64 v35))], [(0, .box [.d (.int .i64 v1), .d (.int .i64 v2), .d (.int .i64 v3), .d (.int .i64 v4), .d (.int .i64 v5)]), (1, .box [.d .nils, .d (.int .i64 0), .d (.int .i64 0), .d (.int .i64 0)]), (2, .box [.own 3 n41 1, .d (.int .i64 v36), .d (.int .i64 v37), .d (.int .i64 v38)]), (3, .row c40 1 3)], 4, 56⟩) (fun _ => True) [2, 4, 6, 7, 8, 10, 14, 15, 16] ?_ ?_
      · cbv
        revert h
        refine st_cmp hJ fun b53 eb53 h => ?_
        cbv
        cases b53 with
        | true =>
          replace h := cnd_t h
          cbv
          exact ⟨⟨(v4), h⟩, [(0, 0), (1, 1), (2, 2), (3, 3)], 4, [], rfl, trivial⟩
        | false =>
          replace h := cnd_f h
          cbv
          exact ⟨⟨(v49), h⟩, [(0, 0), (1, 1), (2, 2), (3, 3)], 4, [], rfl, trivial⟩
      · rintro ⟨v53, h⟩ -
        rw [hj52] at h
        try dsimp only at h ⊢
        cbv
        have hl54 : IsL (eI .i64) [.int .i64 v53] 1 [v53] := ⟨rfl, rfl⟩
        refine st_any hJ rfl rfl (by subst hJ; exact (by decide : 1 ≤ 16777216)) ?_
        cbv
        revert h
        refine st_app hJ (eI_len .i64) hl42 hl54 fun c56 n57 l55 hl58 h => ?_
        cbv
        obtain ⟨j60, hj61, h⟩ := jn h
        refine JoinP.mk ({x : Unit // j60 () = some o29}) (fun x => ⟨[(2, .ptr 0 0), (4, .ptr 1 0), (6, .ptr 2 0), (7, .d (.int .i64 v34)), (8, .d (.int .i64 v35)), (14, .d (.lst c20 n21)), (15, .d (.int .i64 v23)), (16, .d (.int .i64 v35))], [(0, .box [.d (.int .i64 v1), .d (.int .i64 v2), .d (.int .i64 v3), .d (.int .i64 v4), .d (.int .i64 v5)]), (1, .box [.d .nils, .d (.int .i64 0), .d (.int .i64 0), .d (.int .i64 0)]), (2, .box [.own 3 n57 1, .d (.int .i64 v36), .d (.int .i64 v37), .d (.int .i64 v38)]), (3, .row c56 1 3)], 4, 56⟩) (fun _ => True) [2, 4, 6, 7, 8, 14, 15, 16] ?_ ?_
        · cbv
          revert h
          refine st_cmp hJ fun b62 eb62 h => ?_
          cbv
          cases b62 with
          | true =>
            replace h := cnd_t h
            cbv
            revert h
            refine st_bin hJ fun v63 ev63 h => ?_
            cbv
            cases h
            exact ⟨⟨(M32, v34, v63, v36, v37, v38, l55, c56, n57), hl58, hr30⟩, [(0, 0), (1, 1), (2, 2), (9, 3)], 4, [], rfl, Nat.lt_succ_self _⟩
          | false =>
            replace h := cnd_f h
            cbv
            revert h
            refine st_cmp hJ fun b63 eb63 h => ?_
            cbv
            cases b63 with
            | true =>
              replace h := cnd_t h
              cbv
              revert h
              refine st_bin hJ fun v64 ev64 h => ?_
              cbv
              cases h
              exact ⟨⟨(M32, v34, v64, v36, v37, v38, l55, c56, n57), hl58, hr30⟩, [(0, 0), (1, 1), (2, 2), (9, 3)], 4, [], rfl, Nat.lt_succ_self _⟩
            | false =>
              replace h := cnd_f h
              cbv
              exact ⟨⟨(), h⟩, [(0, 0), (1, 1), (2, 2), (9, 3)], 4, [], rfl, trivial⟩
        · rintro ⟨_, h⟩ -
          rw [hj61] at h
          try dsimp only at h ⊢
          cbv
          revert h
          refine st_cmp hJ fun b62 eb62 h => ?_
          cbv
          cases b62 with
          | true =>
            replace h := cnd_t h
            cbv
            cases h
            have h := hq28
            obtain rfl := hr30
            try dsimp only at h
            cases h
            obtain ⟨rfl, rfl⟩ := IsL.nil hl13
            exact ⟨[.cell 1 0 1000000 1 3], _, _, [(1000000, 0)], rfl, rfl, rfl, rfl⟩
          | false =>
            replace h := cnd_f h
            cbv
            revert h
            refine st_bin hJ fun v63 ev63 h => ?_
            cbv
            revert h
            refine st_idx_px hJ (L := A3.l (A3.mk v36 v37 v38)) rfl fun v64 k65 hy66 ho67 h => ?_
            cbv
            obtain ⟨w68, hw68, h⟩ := letv h
            obtain ⟨v69, v70, v71⟩ := w68
            obtain ⟨ev69, ev70, ev71⟩ := A3.put_eq hw68
            try dsimp only at h
            refine st_any hJ rfl (wr' := [(2, .box [.own 3 n57 1, .d (.int .i64 v69), .d (.int .i64 v70), .d (.int .i64 v71)])]) (by rw [sel_put hJ ho67 (at?_lt hy66).1, sel_put hJ ho67 (at?_lt hy66).1, sel_put hJ ho67 (at?_lt hy66).1]; first | rfl | simp [ev69, ev70, ev71]) (px_le hJ ho67 hy66) ?_
            cbv
            revert h
            refine st_bin hJ fun v72 ev72 h => ?_
            cbv
            revert h
            refine st_bin hJ fun v73 ev73 h => ?_
            cbv
            cases h
            exact ⟨⟨(M32, v72, v73, v69, v70, v71, l55, c56, n57), hl58, hr30⟩, [(0, 0), (1, 1), (2, 2), (3, 3)], 4, [], rfl, Nat.lt_succ_self _⟩
    | false =>
      replace h := cnd_f h
      cbv
      cases h
      have h := hq28
      obtain rfl := hr30
      try dsimp only at h
      cases h
      obtain ⟨rfl, rfl⟩ := IsL.uniq hl13 hl42
      exact ⟨[], _, _, [(3, 0)], rfl, rfl, rfl, rfl⟩
theorem s57 {l1 : List Int} {c2 : List D} {n3 : Nat} (hl4 : IsL (eI .i64) c2 n3 l1) {l5 : List Int} {c6 : List D} {n7 : Nat} (hl8 : IsL (eI .i64) c6 n7 l5) (h : m_slices_Clone l1 = some l5) : Spec Try.prog 57 [.d (.lst c2 n3)] ⟨.own 0 n7 1, [(0, .row c6 1 3)], 1, True⟩ := by
  refine spec_b [] Try.func57 rfl rfl rfl fun J P hJ hP => ?_
  dsimp only [m_slices_Clone] at h
  cbv
  intro b hb
  cases b with
  | true =>
    cbv
    have hn : n3 = 0 := hb rfl
    have h0 : l1 = [] := List.eq_nil_of_length_eq_zero (by rw [← hl4.n]; exact hn)
    subst h0
    have h1 : l5 = [] := (Option.some.inj h).symm
    subst h1
    obtain ⟨rfl, rfl⟩ := IsL.nil hl8
    exact ⟨[.slot 2 1000000 1 3], _, _, [(1000000, 0)], rfl, rfl, rfl, rfl⟩
  | false =>
    cbv
    refine st_any hJ rfl rfl (by subst hJ; exact (by decide : 0 ≤ 16777216)) ?_
    cbv
    revert h
    refine st_app hJ (eI_len .i64) IsL.nil' hl4 fun c'' n'' l'' hl'' h => ?_
    cbv
    cases h
    obtain ⟨rfl, rfl⟩ := IsL.uniq hl8 hl''
    exact ⟨[], _, _, [(6, 0)], rfl, rfl, rfl, rfl⟩
end Go.AX
