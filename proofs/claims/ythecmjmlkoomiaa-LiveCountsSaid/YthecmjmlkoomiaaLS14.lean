/- What functions of the program compute: each is what its Lean function says. -/
import Derived.Test.YthecmjmlkoomiaaLS1
import Derived.Test.YthecmjmlkoomiaaLS12
import Derived.Test.YthecmjmlkoomiaaLS5
import Derived.Test.YthecmjmlkoomiaaLS6
import Derived.Test.YthecmjmlkoomiaaLS8
namespace Go.AX
open Go.Proofs
set_option autoImplicit false
set_option linter.unusedVariables false
set_option maxRecDepth 100000
set_option maxHeartbeats 100000000
set_option linter.unusedSimpArgs false

theorem s6 {v1 : Int} {v2 : Int} {v3 : Int} {v4 : Int} {v5 : Int} {l6 : List TLaw10_Act} {c7 : List D} {n8 : Nat} (hl9 : IsL eLaw10_Act c7 n8 l6) {b10 : Bool}  (h : m_law10_LiveCounts (TGeom.mk v1 v2 v3 v4 v5) l6 = some b10) : Spec Try.prog 6 [.agg [.d (.int .i64 v1), .d (.int .i64 v2), .d (.int .i64 v3), .d (.int .i64 v4), .d (.int .i64 v5)], .d (.lst c7 n8)] ⟨.d (.bool b10), [], 0, True⟩ := by
  refine spec_b [6, 4, 18, 40] Try.func6 rfl rfl rfl fun J P hJ hP => ?_
  dsimp only [m_law10_LiveCounts] at h
  cbv
  obtain ⟨j13, hj14, h⟩ := jn h
  refine JoinP.mk ({x : Unit // j13 () = some b10}) (fun x => ⟨[(1, .d (.lst c7 n8)), (2, .ptr 0 0)], [(0, .box [.d (.int .i64 v1), .d (.int .i64 v2), .d (.int .i64 v3), .d (.int .i64 v4), .d (.int .i64 v5)])], 1, 157⟩) (fun _ => True) [1, 2] ?_ ?_
  · cbv
    obtain ⟨j16, hj17, h⟩ := jn h
    refine JoinP.mk ({x : Bool // j16 (x) = some b10}) (fun x => ⟨[(1, .d (.lst c7 n8)), (2, .ptr 0 0), (25, .d (.bool x.1))], [(0, .box [.d (.int .i64 v1), .d (.int .i64 v2), .d (.int .i64 v3), .d (.int .i64 v4), .d (.int .i64 v5)])], 1, 157⟩) (fun _ => True) [1, 2, 25] ?_ ?_
    · cbv
      obtain ⟨b20, h19, h⟩ := bnd h
      refine call_by hP (s28 h19) hJ rfl rfl ?_
      cbv
      revert h
      refine st_not hJ fun b21 eb21 h => ?_
      cbv
      cases b21 with
      | true =>
        replace h := cnd_t h
        cbv
        exact ⟨⟨(true), h⟩, [(0, 0)], 1, [], rfl, trivial⟩
      | false =>
        replace h := cnd_f h
        cbv
        obtain ⟨b24, h23, h⟩ := bnd h
        refine call_by hP (s29 h23) hJ rfl rfl ?_
        cbv
        revert h
        refine st_not hJ fun b25 eb25 h => ?_
        cbv
        cases b25 with
        | true =>
          replace h := cnd_t h
          cbv
          exact ⟨⟨(true), h⟩, [(0, 0)], 1, [], rfl, trivial⟩
        | false =>
          replace h := cnd_f h
          cbv
          revert h
          refine st_len hJ hl9 fun v26 ev26 h => ?_
          cbv
          revert h
          refine st_cmp hJ fun b27 eb27 h => ?_
          cbv
          exact ⟨⟨(b27), h⟩, [(0, 0)], 1, [], rfl, trivial⟩
    · rintro ⟨b18, h⟩ -
      rw [hj17] at h
      try dsimp only at h ⊢
      cbv
      cases b18 with
      | true =>
        replace h := cnd_t h
        cbv
        obtain ⟨b21, h20, h⟩ := bnd h
        refine call_by hP (s28 h20) hJ rfl rfl ?_
        cbv
        cases h
        exact ⟨_, .refl _, [], _, _, [], _, rfl, rfl, rfl, rfl, rfl, rfl⟩
      | false =>
        replace h := cnd_f h
        cbv
        exact ⟨⟨(), h⟩, [(0, 0)], 1, [], rfl, trivial⟩
  · rintro ⟨_, h⟩ -
    rw [hj14] at h
    try dsimp only at h ⊢
    cbv
    obtain ⟨⟨⟨v17, v18, v19, v20, v21⟩, m22, m25⟩, h16, h⟩ := bnd h
    obtain ⟨c23, hm24⟩ := nameM eAt (eI .i64) m22
    obtain ⟨c26, hm27⟩ := nameM (eI .i64) (eI .i64) m25
    try dsimp only at h
    refine callM_by hP (s30 hm24 hm27 h16) [] false hJ rfl rfl rfl rfl rfl (.inl rfl) ?_
    cbv
    obtain ⟨p29, q28, hp30, hf31, hq32⟩ := bnd_loop h
    clear h
    refine LoopB.mk ({x : Nat × Int × Int × Int × Int × Int × Int × Int × (List (TAt × Int)) × (List (List D × List D)) × (List (Int × Int)) × (List (List D × List D)) // x.2.2.2.2.2.2.2.2.2.1 = encM eAt (eI .i64) x.2.2.2.2.2.2.2.2.1 ∧ x.2.2.2.2.2.2.2.2.2.2.2 = encM (eI .i64) (eI .i64) x.2.2.2.2.2.2.2.2.2.2.1 ∧ loopN p29 x.1 (x.2.1, x.2.2.1, x.2.2.2.1, x.2.2.2.2.1, x.2.2.2.2.2.1, x.2.2.2.2.2.2.1, x.2.2.2.2.2.2.2.1, x.2.2.2.2.2.2.2.2.1, x.2.2.2.2.2.2.2.2.2.2.1) = some q28}) (fun x => ⟨[(1, .d (.lst c7 n8)), (2, .ptr 0 0), (5, .ptr 1 0), (6, .d (.int .i64 x.1.2.1)), (7, .d (.int .i64 x.1.2.2.1))], [(0, .box [.d (.int .i64 v1), .d (.int .i64 v2), .d (.int .i64 v3), .d (.int .i64 v4), .d (.int .i64 v5)]), (1, .box [.d (.int .i64 x.1.2.2.2.1), .d (.int .i64 x.1.2.2.2.2.1), .d (.int .i64 x.1.2.2.2.2.2.1), .d (.int .i64 x.1.2.2.2.2.2.2.1), .d (.int .i64 x.1.2.2.2.2.2.2.2.1), .map 2, .map 3]), (2, .mp true false x.1.2.2.2.2.2.2.2.2.2.1), (3, .mp false false x.1.2.2.2.2.2.2.2.2.2.2.2)], 4, 157⟩) (fun x => x.1.1) [1, 2, 5, 6, 7] 4 ⟨(FUEL, 0, 0, v17, v18, v19, v20, v21, m22, c23, m25, c26), hm24, hm27, hf31⟩ ⟨[(0, 0), (2, 1), (3, 2), (4, 3)], [], ?_⟩ ?_
    · rfl
    · rintro ⟨⟨N35, v38, v39, v40, v41, v42, v43, v44, m45, c46, m48, c49⟩, hm47, hm50, hr34⟩
      obtain ⟨M36, o33, eN37, h, hr34⟩ := loopN_step hr34
      subst eN37
      rw [hp30] at h
      try dsimp only at h ⊢
      cbv
      revert h
      refine st_len hJ hl9 fun v51 ev51 h => ?_
      cbv
      revert h
      refine st_cmp hJ fun b52 eb52 h => ?_
      cbv
      cases b52 with
      | true =>
        replace h := cnd_t h
        cbv
        obtain ⟨j54, hj55, h⟩ := jn h
        refine JoinP.mk ({x : Bool × Int × Int × Int × Int × Int × (List (TAt × Int)) × (List (List D × List D)) × (List (Int × Int)) × (List (List D × List D)) // x.2.2.2.2.2.2.2.1 = encM eAt (eI .i64) x.2.2.2.2.2.2.1 ∧ x.2.2.2.2.2.2.2.2.2 = encM (eI .i64) (eI .i64) x.2.2.2.2.2.2.2.2.1 ∧ j54 (x.1, x.2.1, x.2.2.1, x.2.2.2.1, x.2.2.2.2.1, x.2.2.2.2.2.1, x.2.2.2.2.2.2.1, x.2.2.2.2.2.2.2.2.1) = some o33}) (fun x => ⟨[(1, .d (.lst c7 n8)), (2, .ptr 0 0), (5, .ptr 1 0), (6, .d (.int .i64 v38)), (7, .d (.int .i64 v39)), (49, .d (.bool x.1.1))], [(0, .box [.d (.int .i64 v1), .d (.int .i64 v2), .d (.int .i64 v3), .d (.int .i64 v4), .d (.int .i64 v5)]), (1, .box [.d (.int .i64 x.1.2.1), .d (.int .i64 x.1.2.2.1), .d (.int .i64 x.1.2.2.2.1), .d (.int .i64 x.1.2.2.2.2.1), .d (.int .i64 x.1.2.2.2.2.2.1), .map 2, .map 3]), (2, .mp true false x.1.2.2.2.2.2.2.2.1), (3, .mp false false x.1.2.2.2.2.2.2.2.2.2)], 4, 157⟩) (fun _ => True) [1, 2, 5, 6, 7, 49] ?_ ?_
        · cbv
          revert h
          refine st_idx_lp hJ hl9 fun y56 k57 hy58 ho59 h => ?_
          obtain ⟨b60, ⟨v61, v62⟩⟩ := y56
          try dsimp only at h
          cbv
          refine st_ld hJ eLaw10_Act_len hl9 hy58 ho59 0 (fun hJ => by subst hJ; rfl) ([.bool b60]) (Nat.le_of_ble_eq_true rfl) rfl (.bool .nil) rfl ?_
          cbv
          cases b60 with
          | true =>
            replace h := cnd_t h
            cbv
            revert h
            refine st_idx_lp hJ hl9 fun y63 k64 hy65 ho66 h => ?_
            obtain ⟨b67, ⟨v68, v69⟩⟩ := y63
            try dsimp only at h
            cbv
            refine st_ld hJ eLaw10_Act_len hl9 hy65 ho66 1 (fun hJ => by subst hJ; rfl) ([.int .i64 v68]) (Nat.le_of_ble_eq_true rfl) rfl (.int .nil) rfl ?_
            cbv
            obtain ⟨⟨b72, ⟨⟨v73, v74, v75, v76, v77⟩, m78, m81⟩⟩, h71, h⟩ := bnd h
            obtain ⟨c79, hm80⟩ := nameM eAt (eI .i64) m78
            obtain ⟨c82, hm83⟩ := nameM (eI .i64) (eI .i64) m81
            try dsimp only at h
            refine callM_by hP (s32 hm47 hm50 hm80 hm83 h71) [(1, 0), (2, 1), (3, 2)] false hJ rfl rfl rfl rfl rfl (.inl rfl) ?_
            cbv
            exact ⟨⟨(b72, v73, v74, v75, v76, v77, m78, c79, m81, c82), hm80, hm83, h⟩, [(0, 0), (1, 1), (2, 2), (3, 3)], 4, [], rfl, trivial⟩
          | false =>
            replace h := cnd_f h
            cbv
            exact ⟨⟨(false, v40, v41, v42, v43, v44, m45, c46, m48, c49), hm47, hm50, h⟩, [(0, 0), (1, 1), (2, 2), (3, 3)], 4, [], rfl, trivial⟩
        · rintro ⟨⟨b56, v57, v58, v59, v60, v61, m62, c63, m65, c66⟩, hm64, hm67, h⟩ -
          rw [hj55] at h
          try dsimp only at h ⊢
          cbv
          cases b56 with
          | true =>
            replace h := cnd_t h
            cbv
            revert h
            refine st_bin hJ fun v68 ev68 h => ?_
            cbv
            revert h
            refine st_bin hJ fun v69 ev69 h => ?_
            cbv
            cases h
            exact ⟨⟨(M36, v68, v69, v57, v58, v59, v60, v61, m62, c63, m65, c66), hm64, hm67, hr34⟩, [(0, 0), (1, 1), (2, 2), (3, 3)], 4, [], rfl, Nat.lt_succ_self _⟩
          | false =>
            replace h := cnd_f h
            cbv
            revert h
            refine st_idx_lp hJ hl9 fun y68 k69 hy70 ho71 h => ?_
            obtain ⟨b72, ⟨v73, v74⟩⟩ := y68
            try dsimp only at h
            cbv
            refine st_ld hJ eLaw10_Act_len hl9 hy70 ho71 0 (fun hJ => by subst hJ; rfl) ([.bool b72]) (Nat.le_of_ble_eq_true rfl) rfl (.bool .nil) rfl ?_
            cbv
            revert h
            refine st_not hJ fun b75 eb75 h => ?_
            cbv
            cases b75 with
            | true =>
              replace h := cnd_t h
              cbv
              revert h
              refine st_idx_lp hJ hl9 fun y76 k77 hy78 ho79 h => ?_
              obtain ⟨b80, ⟨v81, v82⟩⟩ := y76
              try dsimp only at h
              cbv
              refine st_ld hJ eLaw10_Act_len hl9 hy78 ho79 1 (fun hJ => by subst hJ; rfl) ([.int .i64 v81]) (Nat.le_of_ble_eq_true rfl) rfl (.int .nil) rfl ?_
              cbv
              revert h
              refine st_idx_lp hJ hl9 fun y83 k84 hy85 ho86 h => ?_
              obtain ⟨b87, ⟨v88, v89⟩⟩ := y83
              try dsimp only at h
              cbv
              refine st_ld hJ eLaw10_Act_len hl9 hy85 ho86 2 (fun hJ => by subst hJ; rfl) ([.int .i64 v89]) (Nat.le_of_ble_eq_true rfl) rfl (.int .nil) rfl ?_
              cbv
              obtain ⟨⟨b92, ⟨⟨v93, v94, v95, v96, v97⟩, m98, m101⟩⟩, h91, h⟩ := bnd h
              obtain ⟨c99, hm100⟩ := nameM eAt (eI .i64) m98
              obtain ⟨c102, hm103⟩ := nameM (eI .i64) (eI .i64) m101
              try dsimp only at h
              refine callM_by hP (s33 hm64 hm67 hm100 hm103 h91) [(1, 0), (2, 1), (3, 2)] false hJ rfl rfl rfl rfl rfl (.inl rfl) ?_
              cbv
              refine ⟨fun _ => by kernel_rfl, ?_⟩
              cbv
              cases b92 with
              | true =>
                replace h := cnd_t h
                cbv
                revert h
                refine st_bin hJ fun v104 ev104 h => ?_
                cbv
                revert h
                refine st_bin hJ fun v105 ev105 h => ?_
                cbv
                cases h
                exact ⟨⟨(M36, v104, v105, v93, v94, v95, v96, v97, m98, c99, m101, c102), hm100, hm103, hr34⟩, [(0, 0), (1, 1), (2, 2), (3, 3)], 4, [], rfl, Nat.lt_succ_self _⟩
              | false =>
                replace h := cnd_f h
                cbv
                revert h
                refine st_bin hJ fun v104 ev104 h => ?_
                cbv
                cases h
                exact ⟨⟨(M36, v38, v104, v93, v94, v95, v96, v97, m98, c99, m101, c102), hm100, hm103, hr34⟩, [(0, 0), (1, 1), (2, 2), (3, 3)], 4, [], rfl, Nat.lt_succ_self _⟩
            | false =>
              replace h := cnd_f h
              cbv
              refine ⟨fun _ => by kernel_rfl, ?_⟩
              cbv
              revert h
              refine st_bin hJ fun v76 ev76 h => ?_
              cbv
              cases h
              exact ⟨⟨(M36, v38, v76, v57, v58, v59, v60, v61, m62, c63, m65, c66), hm64, hm67, hr34⟩, [(0, 0), (1, 1), (2, 2), (3, 3)], 4, [], rfl, Nat.lt_succ_self _⟩
      | false =>
        replace h := cnd_f h
        cbv
        cases h
        have h := hq32
        obtain rfl := hr34
        try dsimp only at h
        obtain ⟨p54, q53, hp55, hf56, hq57⟩ := bnd_loop h
        clear h
        refine LoopB.mk ({x : Nat × Int × Int // loopN p54 x.1 (x.2.1, x.2.2) = some q53}) (fun x => ⟨[(2, .ptr 0 0), (5, .ptr 1 0), (6, .d (.int .i64 v38)), (8, .d (.int .i64 x.1.2.1)), (9, .d (.int .i64 x.1.2.2))], [(0, .box [.d (.int .i64 v1), .d (.int .i64 v2), .d (.int .i64 v3), .d (.int .i64 v4), .d (.int .i64 v5)]), (1, .box [.d (.int .i64 v40), .d (.int .i64 v41), .d (.int .i64 v42), .d (.int .i64 v43), .d (.int .i64 v44), .map 2, .map 3]), (2, .mp true false c46), (3, .mp false false c49)], 4, 157⟩) (fun x => x.1.1) [2, 5, 6, 8, 9] 4 ⟨(FUEL, 0, 0), hf56⟩ ⟨[(0, 0), (1, 1), (2, 2), (3, 3)], [], ?_⟩ ?_
        · rfl
        · rintro ⟨⟨N60, v63, v64⟩, hr59⟩
          obtain ⟨M61, o58, eN62, h, hr59⟩ := loopN_step hr59
          subst eN62
          rw [hp55] at h
          try dsimp only at h ⊢
          cbv
          revert h
          refine st_bin hJ fun v65 ev65 h => ?_
          cbv
          revert h
          refine st_cmp hJ fun b66 eb66 h => ?_
          cbv
          cases b66 with
          | true =>
            replace h := cnd_t h
            cbv
            obtain ⟨v69, h68, h⟩ := bnd h
            refine callM_by hP (s35 hm47 hm50 h68) [(1, 0), (2, 1), (3, 2)] false hJ rfl rfl rfl rfl rfl (.inl rfl) ?_
            cbv
            revert h
            refine st_bin hJ fun v70 ev70 h => ?_
            cbv
            obtain ⟨l73, h72, h⟩ := bnd h
            obtain ⟨c74, n75, hl76⟩ := nameL eAt l73
            refine callM_by hP (s36 hm47 hm50 hl76 h72) [(1, 0), (2, 1), (3, 2)] false hJ rfl rfl rfl rfl rfl (.inl rfl) ?_
            cbv
            obtain ⟨j78, hj79, h⟩ := jn h
            refine JoinP.mk ({x : Unit // j78 () = some o58}) (fun x => ⟨[(2, .ptr 0 0), (5, .ptr 1 0), (6, .d (.int .i64 v38)), (8, .d (.int .i64 v70)), (9, .d (.int .i64 v64)), (10, .own 2 n75 2)], [(0, .box [.d (.int .i64 v1), .d (.int .i64 v2), .d (.int .i64 v3), .d (.int .i64 v4), .d (.int .i64 v5)]), (1, .box [.d (.int .i64 v40), .d (.int .i64 v41), .d (.int .i64 v42), .d (.int .i64 v43), .d (.int .i64 v44), .map 3, .map 4]), (2, .row c74 2 40), (3, .mp true false c46), (4, .mp false false c49)], 5, 157⟩) (fun _ => True) [2, 5, 6, 8, 9, 10] ?_ ?_
            · cbv
              revert h
              refine st_len hJ hl76 fun v80 ev80 h => ?_
              cbv
              obtain ⟨v83, h82, h⟩ := bnd h
              refine callM_by hP (s35 hm47 hm50 h82) [(1, 0), (2, 1), (3, 2)] false hJ rfl rfl rfl rfl rfl (.inl rfl) ?_
              cbv
              revert h
              refine st_cmp hJ fun b84 eb84 h => ?_
              cbv
              cases b84 with
              | true =>
                replace h := cnd_t h
                cbv
                cases h
                have h := hq57
                obtain rfl := hr59
                try dsimp only at h
                cases h
                exact ⟨_, .refl _, [], _, _, [], _, rfl, rfl, rfl, rfl, rfl, rfl⟩
              | false =>
                replace h := cnd_f h
                cbv
                revert h
                refine st_cmp hJ fun b85 eb85 h => ?_
                cbv
                cases b85 with
                | true =>
                  replace h := cnd_t h
                  cbv
                  revert h
                  refine st_len hJ hl76 fun v86 ev86 h => ?_
                  cbv
                  revert h
                  refine st_cmp hJ fun b87 eb87 h => ?_
                  cbv
                  cases b87 with
                  | true =>
                    replace h := cnd_t h
                    cbv
                    cases h
                    have h := hq57
                    obtain rfl := hr59
                    try dsimp only at h
                    cases h
                    exact ⟨_, .refl _, [], _, _, [], _, rfl, rfl, rfl, rfl, rfl, rfl⟩
                  | false =>
                    replace h := cnd_f h
                    cbv
                    exact ⟨⟨(), h⟩, [(0, 0), (1, 1), (19, 2), (2, 3), (3, 4)], 5, [], rfl, trivial⟩
                | false =>
                  replace h := cnd_f h
                  cbv
                  exact ⟨⟨(), h⟩, [(0, 0), (1, 1), (19, 2), (2, 3), (3, 4)], 5, [], rfl, trivial⟩
            · rintro ⟨_, h⟩ -
              rw [hj79] at h
              try dsimp only at h ⊢
              cbv
              obtain ⟨p81, q80, hp82, hf83, hq84⟩ := bnd_loop h
              clear h
              refine LoopB.mk ({x : Nat × Int // loopN p81 x.1 (x.2) = some q80}) (fun x => ⟨[(2, .ptr 0 0), (5, .ptr 1 0), (6, .d (.int .i64 v38)), (8, .d (.int .i64 v70)), (9, .d (.int .i64 v64)), (10, .own 2 n75 2), (11, .d (.int .i64 x.1.2))], [(0, .box [.d (.int .i64 v1), .d (.int .i64 v2), .d (.int .i64 v3), .d (.int .i64 v4), .d (.int .i64 v5)]), (1, .box [.d (.int .i64 v40), .d (.int .i64 v41), .d (.int .i64 v42), .d (.int .i64 v43), .d (.int .i64 v44), .map 3, .map 4]), (2, .row c74 2 40), (3, .mp true false c46), (4, .mp false false c49)], 5, 157⟩) (fun x => x.1.1) [2, 5, 6, 8, 9, 10, 11] 5 ⟨(FUEL, 0), hf83⟩ ⟨[(0, 0), (1, 1), (2, 2), (3, 3), (4, 4)], [], ?_⟩ ?_
              · rfl
              · rintro ⟨⟨N87, v90⟩, hr86⟩
                obtain ⟨M88, o85, eN89, h, hr86⟩ := loopN_step hr86
                subst eN89
                rw [hp82] at h
                try dsimp only at h ⊢
                cbv
                revert h
                refine st_len hJ hl76 fun v91 ev91 h => ?_
                cbv
                revert h
                refine st_cmp hJ fun b92 eb92 h => ?_
                cbv
                cases b92 with
                | true =>
                  replace h := cnd_t h
                  cbv
                  revert h
                  refine st_idx_pr hJ hl76 fun y93 k94 hy95 ho96 h => ?_
                  obtain ⟨v97, v98⟩ := y93
                  try dsimp only at h
                  cbv
                  refine st_ld hJ eAt_len hl76 hy95 ho96 0 (fun hJ => by subst hJ; rfl) ([.int .i64 v97, .int .i64 v98]) (Nat.le_of_ble_eq_true rfl) rfl (.int (.int .nil)) rfl ?_
                  cbv
                  obtain ⟨⟨v101, b102⟩, h100, h⟩ := bnd h
                  try dsimp only at h
                  refine callM_by hP (s37 hm47 hm50 h100) [(1, 0), (3, 1), (4, 2)] false hJ rfl rfl rfl rfl rfl (.inl rfl) ?_
                  cbv
                  revert h
                  refine st_not hJ fun b103 eb103 h => ?_
                  cbv
                  cases b103 with
                  | true =>
                    replace h := cnd_t h
                    cbv
                    refine ⟨fun _ => by kernel_rfl, ?_⟩
                    cbv
                    cases h
                    have h := hq84
                    obtain rfl := hr86
                    try dsimp only at h
                    cases h
                    have h := hq57
                    obtain rfl := hr59
                    try dsimp only at h
                    cases h
                    exact ⟨_, .refl _, [], _, _, [], _, rfl, rfl, rfl, rfl, rfl, rfl⟩
                  | false =>
                    replace h := cnd_f h
                    cbv
                    revert h
                    refine st_idx_pr hJ hl76 fun y104 k105 hy106 ho107 h => ?_
                    obtain ⟨v108, v109⟩ := y104
                    try dsimp only at h
                    cbv
                    refine st_ld hJ eAt_len hl76 hy106 ho107 0 (fun hJ => by subst hJ; rfl) ([.int .i64 v108]) (Nat.le_of_ble_eq_true rfl) rfl (.int .nil) rfl ?_
                    cbv
                    revert h
                    refine st_cmp hJ fun b110 eb110 h => ?_
                    cbv
                    cases b110 with
                    | true =>
                      replace h := cnd_t h
                      cbv
                      refine ⟨fun _ => by kernel_rfl, ?_⟩
                      cbv
                      cases h
                      have h := hq84
                      obtain rfl := hr86
                      try dsimp only at h
                      cases h
                      have h := hq57
                      obtain rfl := hr59
                      try dsimp only at h
                      cases h
                      exact ⟨_, .refl _, [], _, _, [], _, rfl, rfl, rfl, rfl, rfl, rfl⟩
                    | false =>
                      replace h := cnd_f h
                      cbv
                      revert h
                      refine st_cmp hJ fun b111 eb111 h => ?_
                      cbv
                      cases b111 with
                      | true =>
                        replace h := cnd_t h
                        cbv
                        revert h
                        refine st_bin hJ fun v112 ev112 h => ?_
                        cbv
                        revert h
                        refine st_idx_pr hJ hl76 fun y113 k114 hy115 ho116 h => ?_
                        obtain ⟨v117, v118⟩ := y113
                        try dsimp only at h
                        cbv
                        refine st_ld hJ eAt_len hl76 hy115 ho116 1 (fun hJ => by subst hJ; rfl) ([.int .i64 v118]) (Nat.le_of_ble_eq_true rfl) rfl (.int .nil) rfl ?_
                        cbv
                        revert h
                        refine st_idx_pr hJ hl76 fun y119 k120 hy121 ho122 h => ?_
                        obtain ⟨v123, v124⟩ := y119
                        try dsimp only at h
                        cbv
                        refine st_ld hJ eAt_len hl76 hy121 ho122 1 (fun hJ => by subst hJ; rfl) ([.int .i64 v124]) (Nat.le_of_ble_eq_true rfl) rfl (.int .nil) rfl ?_
                        cbv
                        revert h
                        refine st_cmp hJ fun b125 eb125 h => ?_
                        cbv
                        refine ⟨fun _ => by kernel_rfl, ?_⟩
                        cbv
                        cases b125 with
                        | true =>
                          replace h := cnd_t h
                          cbv
                          cases h
                          have h := hq84
                          obtain rfl := hr86
                          try dsimp only at h
                          cases h
                          have h := hq57
                          obtain rfl := hr59
                          try dsimp only at h
                          cases h
                          exact ⟨_, .refl _, [], _, _, [], _, rfl, rfl, rfl, rfl, rfl, rfl⟩
                        | false =>
                          replace h := cnd_f h
                          cbv
                          revert h
                          refine st_bin hJ fun v126 ev126 h => ?_
                          cbv
                          cases h
                          exact ⟨⟨(M88, v126), hr86⟩, [(0, 0), (1, 1), (2, 2), (3, 3), (4, 4)], 5, [], rfl, Nat.lt_succ_self _⟩
                      | false =>
                        replace h := cnd_f h
                        cbv
                        refine ⟨fun _ => by kernel_rfl, ?_⟩
                        cbv
                        revert h
                        refine st_bin hJ fun v112 ev112 h => ?_
                        cbv
                        cases h
                        exact ⟨⟨(M88, v112), hr86⟩, [(0, 0), (1, 1), (2, 2), (3, 3), (4, 4)], 5, [], rfl, Nat.lt_succ_self _⟩
                | false =>
                  replace h := cnd_f h
                  cbv
                  cases h
                  have h := hq84
                  obtain rfl := hr86
                  try dsimp only at h
                  revert h
                  refine st_bin hJ fun v93 ev93 h => ?_
                  cbv
                  cases h
                  exact ⟨⟨(M61, v70, v93), hr59⟩, [(0, 0), (1, 1), (3, 2), (4, 3)], 4, [], rfl, Nat.lt_succ_self _⟩
          | false =>
            replace h := cnd_f h
            cbv
            cases h
            have h := hq57
            obtain rfl := hr59
            try dsimp only at h
            revert h
            refine st_cmp hJ fun b67 eb67 h => ?_
            cbv
            cases h
            exact ⟨_, .refl _, [], _, _, [], _, rfl, rfl, rfl, rfl, rfl, rfl⟩
end Go.AX
