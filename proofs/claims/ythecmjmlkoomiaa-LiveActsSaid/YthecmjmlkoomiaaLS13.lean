/- What functions of the program compute: each is what its Lean function says. -/
import Derived.Test.YthecmjmlkoomiaaLS1
import Derived.Test.YthecmjmlkoomiaaLS10
import Derived.Test.YthecmjmlkoomiaaLS12
import Derived.Test.YthecmjmlkoomiaaLS5
import Derived.Test.YthecmjmlkoomiaaLS6
import Derived.Test.YthecmjmlkoomiaaLS8
namespace Go.AX
open Go.Proofs
set_option autoImplicit false
set_option linter.unusedVariables false
set_option maxRecDepth 100000
set_option maxHeartbeats 100000000
set_option linter.unusedSimpArgs false

theorem s5 {v1 : Int} {v2 : Int} {v3 : Int} {v4 : Int} {v5 : Int} {l6 : List TLaw10_Act} {c7 : List D} {n8 : Nat} (hl9 : IsL eLaw10_Act c7 n8 l6) {b10 : Bool}  (h : m_law10_LiveActs (TGeom.mk v1 v2 v3 v4 v5) l6 = some b10) : Spec Try.prog 5 [.agg [.d (.int .i64 v1), .d (.int .i64 v2), .d (.int .i64 v3), .d (.int .i64 v4), .d (.int .i64 v5)], .d (.lst c7 n8)] ⟨.d (.bool b10), [], 0, True⟩ := by
  refine spec_b [6, 4] Try.func5 rfl rfl rfl fun J P hJ hP => ?_
  dsimp only [m_law10_LiveActs] at h
  cbv
  obtain ⟨j13, hj14, h⟩ := jn h
  refine JoinP.mk ({x : Unit // j13 () = some b10}) (fun x => ⟨[(1, .d (.lst c7 n8)), (2, .ptr 0 0)], [(0, .box [.d (.int .i64 v1), .d (.int .i64 v2), .d (.int .i64 v3), .d (.int .i64 v4), .d (.int .i64 v5)])], 1, 73⟩) (fun _ => True) [1, 2] ?_ ?_
  · cbv
    obtain ⟨j16, hj17, h⟩ := jn h
    refine JoinP.mk ({x : Bool // j16 (x) = some b10}) (fun x => ⟨[(1, .d (.lst c7 n8)), (2, .ptr 0 0), (23, .d (.bool x.1))], [(0, .box [.d (.int .i64 v1), .d (.int .i64 v2), .d (.int .i64 v3), .d (.int .i64 v4), .d (.int .i64 v5)])], 1, 73⟩) (fun _ => True) [1, 2, 23] ?_ ?_
    · cbv
      obtain ⟨b20, h19, h⟩ := bnd h
      refine call_by hP (s28 h19) hJ rfl rfl ?_
      cbv
      revert h
      refine st_not hJ fun b21 eb21 h => ?_
      cbv
      cases b21 with
      | true =>
        replace h := cnd_t h
        cbv
        exact ⟨⟨(true), h⟩, [(0, 0)], 1, [], rfl, trivial⟩
      | false =>
        replace h := cnd_f h
        cbv
        obtain ⟨b24, h23, h⟩ := bnd h
        refine call_by hP (s29 h23) hJ rfl rfl ?_
        cbv
        revert h
        refine st_not hJ fun b25 eb25 h => ?_
        cbv
        cases b25 with
        | true =>
          replace h := cnd_t h
          cbv
          exact ⟨⟨(true), h⟩, [(0, 0)], 1, [], rfl, trivial⟩
        | false =>
          replace h := cnd_f h
          cbv
          revert h
          refine st_len hJ hl9 fun v26 ev26 h => ?_
          cbv
          revert h
          refine st_cmp hJ fun b27 eb27 h => ?_
          cbv
          exact ⟨⟨(b27), h⟩, [(0, 0)], 1, [], rfl, trivial⟩
    · rintro ⟨b18, h⟩ -
      rw [hj17] at h
      try dsimp only at h ⊢
      cbv
      cases b18 with
      | true =>
        replace h := cnd_t h
        cbv
        obtain ⟨b21, h20, h⟩ := bnd h
        refine call_by hP (s28 h20) hJ rfl rfl ?_
        cbv
        cases h
        exact ⟨_, .refl _, [], _, _, [], _, rfl, rfl, rfl, rfl, rfl, rfl⟩
      | false =>
        replace h := cnd_f h
        cbv
        exact ⟨⟨(), h⟩, [(0, 0)], 1, [], rfl, trivial⟩
  · rintro ⟨_, h⟩ -
    rw [hj14] at h
    try dsimp only at h ⊢
    cbv
    obtain ⟨⟨⟨v17, v18, v19, v20, v21⟩, m22, m25⟩, h16, h⟩ := bnd h
    obtain ⟨c23, hm24⟩ := nameM eAt (eI .i64) m22
    obtain ⟨c26, hm27⟩ := nameM (eI .i64) (eI .i64) m25
    try dsimp only at h
    refine callM_by hP (s30 hm24 hm27 h16) [] false hJ rfl rfl rfl rfl rfl (.inl rfl) ?_
    cbv
    obtain ⟨p29, q28, hp30, hf31, hq32⟩ := bnd_loop h
    clear h
    refine LoopB.mk ({x : Nat × (List TRef10_Cell) × (List D) × Nat × Int × Int × Int × Int × Int × Int × (List (TAt × Int)) × (List (List D × List D)) × (List (Int × Int)) × (List (List D × List D)) // IsL eRef10_Cell x.2.2.1 x.2.2.2.1 x.2.1 ∧ x.2.2.2.2.2.2.2.2.2.2.2.1 = encM eAt (eI .i64) x.2.2.2.2.2.2.2.2.2.2.1 ∧ x.2.2.2.2.2.2.2.2.2.2.2.2.2 = encM (eI .i64) (eI .i64) x.2.2.2.2.2.2.2.2.2.2.2.2.1 ∧ loopN p29 x.1 (x.2.1, x.2.2.2.2.1, x.2.2.2.2.2.1, x.2.2.2.2.2.2.1, x.2.2.2.2.2.2.2.1, x.2.2.2.2.2.2.2.2.1, x.2.2.2.2.2.2.2.2.2.1, x.2.2.2.2.2.2.2.2.2.2.1, x.2.2.2.2.2.2.2.2.2.2.2.2.1) = some q28}) (fun x => ⟨[(1, .d (.lst c7 n8)), (2, .ptr 0 0), (5, .ptr 1 0), (6, .d (.lst x.1.2.2.1 x.1.2.2.2.1)), (7, .d (.int .i64 x.1.2.2.2.2.1))], [(0, .box [.d (.int .i64 v1), .d (.int .i64 v2), .d (.int .i64 v3), .d (.int .i64 v4), .d (.int .i64 v5)]), (1, .box [.d (.int .i64 x.1.2.2.2.2.2.1), .d (.int .i64 x.1.2.2.2.2.2.2.1), .d (.int .i64 x.1.2.2.2.2.2.2.2.1), .d (.int .i64 x.1.2.2.2.2.2.2.2.2.1), .d (.int .i64 x.1.2.2.2.2.2.2.2.2.2.1), .map 2, .map 3]), (2, .mp true false x.1.2.2.2.2.2.2.2.2.2.2.2.1), (3, .mp false false x.1.2.2.2.2.2.2.2.2.2.2.2.2.2)], 4, 73⟩) (fun x => x.1.1) [1, 2, 5, 6, 7] 4 ⟨(FUEL, ([] : List TRef10_Cell), [], 0, 0, v17, v18, v19, v20, v21, m22, c23, m25, c26), (IsL.nil' (g := eRef10_Cell)), hm24, hm27, hf31⟩ ⟨[(0, 0), (2, 1), (3, 2), (4, 3)], [.nlS 6 0], ?_⟩ ?_
    · rfl
    · rintro ⟨⟨N35, l38, c39, n40, v42, v43, v44, v45, v46, v47, m48, c49, m51, c52⟩, hl41, hm50, hm53, hr34⟩
      obtain ⟨M36, o33, eN37, h, hr34⟩ := loopN_step hr34
      subst eN37
      rw [hp30] at h
      try dsimp only at h ⊢
      cbv
      revert h
      refine st_len hJ hl9 fun v54 ev54 h => ?_
      cbv
      revert h
      refine st_cmp hJ fun b55 eb55 h => ?_
      cbv
      cases b55 with
      | true =>
        replace h := cnd_t h
        cbv
        revert h
        refine st_idx_lp hJ hl9 fun y56 k57 hy58 ho59 h => ?_
        obtain ⟨b60, ⟨v61, v62⟩⟩ := y56
        try dsimp only at h
        cbv
        refine st_ld hJ eLaw10_Act_len hl9 hy58 ho59 1 (fun hJ => by subst hJ; rfl) ([.int .i64 v61, .int .i64 v62]) (Nat.le_of_ble_eq_true rfl) rfl (.int (.int .nil)) rfl ?_
        cbv
        revert h
        refine st_idx_lp hJ hl9 fun y63 k64 hy65 ho66 h => ?_
        obtain ⟨b67, ⟨v68, v69⟩⟩ := y63
        try dsimp only at h
        cbv
        refine st_ld hJ eLaw10_Act_len hl9 hy65 ho66 0 (fun hJ => by subst hJ; rfl) ([.bool b67]) (Nat.le_of_ble_eq_true rfl) rfl (.bool .nil) rfl ?_
        cbv
        obtain ⟨⟨l72, b76⟩, h71, h⟩ := bnd h
        obtain ⟨c73, n74, hl75⟩ := nameL eRef10_Cell l72
        try dsimp only at h
        refine call_by hP (s31 hl41 hl75 h71) hJ rfl rfl ?_
        cbv
        refine ⟨fun _ => by kernel_rfl, ?_⟩
        cbv
        revert h
        refine st_idx_lp hJ hl9 fun y77 k78 hy79 ho80 h => ?_
        obtain ⟨b81, ⟨v82, v83⟩⟩ := y77
        try dsimp only at h
        cbv
        refine st_ld hJ eLaw10_Act_len hl9 hy79 ho80 0 (fun hJ => by subst hJ; rfl) ([.bool b81]) (Nat.le_of_ble_eq_true rfl) rfl (.bool .nil) rfl ?_
        cbv
        cases b81 with
        | true =>
          replace h := cnd_t h
          cbv
          obtain ⟨⟨b86, ⟨⟨v87, v88, v89, v90, v91⟩, m92, m95⟩⟩, h85, h⟩ := bnd h
          obtain ⟨c93, hm94⟩ := nameM eAt (eI .i64) m92
          obtain ⟨c96, hm97⟩ := nameM (eI .i64) (eI .i64) m95
          try dsimp only at h
          refine callM_by hP (s32 hm50 hm53 hm94 hm97 h85) [(1, 0), (2, 1), (3, 2)] false hJ rfl rfl rfl rfl rfl (.inl rfl) ?_
          cbv
          revert h
          refine st_neb hJ fun b98 eb98 h => ?_
          cbv
          cases b98 with
          | true =>
            replace h := cnd_t h
            cbv
            cases h
            have h := hq32
            obtain rfl := hr34
            try dsimp only at h
            cases h
            exact ⟨_, .refl _, [], _, _, [], _, rfl, rfl, rfl, rfl, rfl, rfl⟩
          | false =>
            replace h := cnd_f h
            cbv
            revert h
            refine st_bin hJ fun v99 ev99 h => ?_
            cbv
            cases h
            exact ⟨⟨(M36, l72, c73, n74, v99, v87, v88, v89, v90, v91, m92, c93, m95, c96), hl75, hm94, hm97, hr34⟩, [(0, 0), (1, 1), (2, 2), (3, 3)], 4, [], rfl, Nat.lt_succ_self _⟩
        | false =>
          replace h := cnd_f h
          cbv
          obtain ⟨⟨b86, ⟨⟨v87, v88, v89, v90, v91⟩, m92, m95⟩⟩, h85, h⟩ := bnd h
          obtain ⟨c93, hm94⟩ := nameM eAt (eI .i64) m92
          obtain ⟨c96, hm97⟩ := nameM (eI .i64) (eI .i64) m95
          try dsimp only at h
          refine callM_by hP (s33 hm50 hm53 hm94 hm97 h85) [(1, 0), (2, 1), (3, 2)] false hJ rfl rfl rfl rfl rfl (.inl rfl) ?_
          cbv
          revert h
          refine st_neb hJ fun b98 eb98 h => ?_
          cbv
          cases b98 with
          | true =>
            replace h := cnd_t h
            cbv
            cases h
            have h := hq32
            obtain rfl := hr34
            try dsimp only at h
            cases h
            exact ⟨_, .refl _, [], _, _, [], _, rfl, rfl, rfl, rfl, rfl, rfl⟩
          | false =>
            replace h := cnd_f h
            cbv
            revert h
            refine st_bin hJ fun v99 ev99 h => ?_
            cbv
            cases h
            exact ⟨⟨(M36, l72, c73, n74, v99, v87, v88, v89, v90, v91, m92, c93, m95, c96), hl75, hm94, hm97, hr34⟩, [(0, 0), (1, 1), (2, 2), (3, 3)], 4, [], rfl, Nat.lt_succ_self _⟩
      | false =>
        replace h := cnd_f h
        cbv
        cases h
        have h := hq32
        obtain rfl := hr34
        try dsimp only at h
        obtain ⟨b58, h57, h⟩ := bnd h
        refine callM_by hP (s34 hl41 hm50 hm53 h57) [(1, 0), (2, 1), (3, 2)] false hJ rfl rfl rfl rfl rfl (.inl rfl) ?_
        cbv
        cases h
        exact ⟨_, .refl _, [], _, _, [], _, rfl, rfl, rfl, rfl, rfl, rfl⟩
end Go.AX
