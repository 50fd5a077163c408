/- What functions of the program compute: each is what its Lean function says. -/
import Derived.Test.YtjpajfgdbmeiiaaQS10
import Derived.Test.YtjpajfgdbmeiiaaQS13
namespace Go.AX
open Go.Proofs
set_option autoImplicit false
set_option linter.unusedVariables false
set_option maxRecDepth 100000
set_option maxHeartbeats 4000000
set_option linter.unusedSimpArgs false

theorem s63 {l1 : List Int} {c2 : List D} {n3 : Nat} {v5 : Int} (hl4 : IsL (eI .i64) c2 n3 l1) {l6 : List Int} {c7 : List D} {n8 : Nat} (hl9 : IsL (eI .i64) c7 n8 l6) (h : m_slices_Repeat l1 v5 = some l6) : Spec Try.prog 63 [.d (.lst c2 n3), .d (.int .i64 v5)] ⟨.own 0 n8 1, [(0, .row c7 1 3)], 1, True⟩ := by
  refine spec_b [6, 12] Try.func63 rfl rfl rfl fun J P hJ hP => ?_
  dsimp only [m_slices_Repeat] at h
  cbv
  obtain ⟨j12, hj13, h⟩ := jn h
  refine JoinP.mk ({x : Unit // j12 () = some l6}) (fun x => ⟨[(0, .d (.lst c2 n3)), (1, .d (.int .i64 v5))], [], 0, 48⟩) (fun _ => True) [0, 1] ?_ ?_
  · cbv
    revert h
    refine st_cmp hJ fun b14 eb14 h => ?_
    cbv
    cases b14 with
    | true =>
      replace h := cnd_t h
      cbv
      cases h
    | false =>
      replace h := cnd_f h
      cbv
      exact ⟨⟨(), h⟩, [], 0, [], rfl, trivial⟩
  · rintro ⟨_, h⟩ -
    rw [hj13] at h
    try dsimp only at h ⊢
    cbv
    revert h
    refine st_len hJ hl4 fun v14 ev14 h => ?_
    cbv
    revert h
    refine st_conv hJ fun v15 ev15 h => ?_
    cbv
    revert h
    refine st_conv hJ fun v16 ev16 h => ?_
    cbv
    obtain ⟨⟨v19, v20⟩, h18, h⟩ := bnd h
    try dsimp only at h
    refine call_by hP (s65 h18) hJ rfl rfl ?_
    cbv
    obtain ⟨j22, hj23, h⟩ := jn h
    refine JoinP.mk ({x : Unit // j22 () = some l6}) (fun x => ⟨[(0, .d (.lst c2 n3)), (6, .d (.int .u64 v20))], [], 0, 48⟩) (fun _ => True) [0, 6] ?_ ?_
    · cbv
      revert h
      refine st_cmp hJ fun b24 eb24 h => ?_
      cbv
      cases b24 with
      | true =>
        replace h := cnd_t h
        cbv
        cases h
      | false =>
        replace h := cnd_f h
        cbv
        revert h
        refine st_cmp hJ fun b25 eb25 h => ?_
        cbv
        cases b25 with
        | true =>
          replace h := cnd_t h
          cbv
          cases h
        | false =>
          replace h := cnd_f h
          cbv
          exact ⟨⟨(), h⟩, [], 0, [], rfl, trivial⟩
    · rintro ⟨_, h⟩ -
      rw [hj23] at h
      try dsimp only at h ⊢
      cbv
      revert h
      refine st_conv hJ fun v24 ev24 h => ?_
      cbv
      revert h
      refine st_mk hJ (g := (eI .i64)) (z := 0) rfl fun c26 n27 l25 hl28 h => ?_
      cbv
      revert h
      rw [show l25.length = n27 from hl28.n.symm]
      refine st_copy hJ (eI_len .i64) hl28 0 (fun hJ => by simp) (by rw [hl28.n]; omega) (fun hJ => (src_lst hJ (eI_len .i64) hl4).1) hl4.n (fun hJ => (src_lst hJ (eI_len .i64) hl4).2) (fun hJ => dst_own hJ (eI_len .i64) hl28 (by rw [hl28.n]; exact Nat.le_refl _)) fun c30 l29 v32 hl31 e33 e34 h => ?_
      have h := letq e34 h
      cbv
      obtain ⟨p36, q35, hp37, hf38, hq39⟩ := bnd_loop h
      clear h
      refine LoopB.mk ({x : Nat × Int × (List Int) × (List D) × Nat // IsL (eI .i64) x.2.2.2.1 x.2.2.2.2 x.2.2.1 ∧ loopN p36 x.1 (x.2.1, x.2.2.1) = some q35}) (fun x => ⟨[(7, .own 0 x.1.2.2.2.2 1), (8, .d (.int .i64 x.1.2.1))], [(0, .row x.1.2.2.2.1 1 3)], 1, 48⟩) (fun x => x.1.1) [7, 8] 1 ⟨(FUEL, v32, l29, c30, n27), hl31, hf38⟩ ⟨[(2, 0)], [], ?_⟩ ?_
      · rfl
      · rintro ⟨⟨N42, v45, l46, c47, n48⟩, hl49, hr41⟩
        obtain ⟨M43, o40, eN44, h, hr41⟩ := loopN_step hr41
        subst eN44
        rw [hp37] at h
        try dsimp only at h ⊢
        cbv
        revert h
        refine st_len hJ hl49 fun v50 ev50 h => ?_
        cbv
        revert h
        refine st_cmp hJ fun b51 eb51 h => ?_
        cbv
        cases b51 with
        | true =>
          replace h := cnd_t h
          cbv
          revert h
          refine st_own_from hJ (eI_len .i64) hl49 fun k57 n53 l52 ho58 hn55 hp54 hq56 h => ?_
          cbv
          revert h
          refine st_own_upto hJ hl49 fun n60 l59 hn62 hp61 hq63 h => ?_
          cbv
          revert h
          rw [show l52.length = n53 from hn55.symm]
          refine st_copy hJ (eI_len .i64) hl49 v45.toNat (fun hJ => ho58) hq56 (fun hJ => (src_own hJ (eI_len .i64) hl49 hn62 hp61).1) hn62 (fun hJ => (src_own hJ (eI_len .i64) hl49 hn62 hp61).2) (fun hJ => dst_slc hJ (eI_len .i64) hl49 ho58 hq56) fun c65 l64 v67 hl66 e68 e69 h => ?_
          have h := letq e69 h
          cbv
          revert h
          refine st_bin hJ fun v70 ev70 h => ?_
          cbv
          refine ⟨fun _ => by kernel_rfl, ?_⟩
          cbv
          cases h
          exact ⟨⟨(M43, v70, l64, c65, n48), hl66, hr41⟩, [(0, 0)], 1, [], rfl, Nat.lt_succ_self _⟩
        | false =>
          replace h := cnd_f h
          cbv
          cases h
          have h := hq39
          obtain rfl := hr41
          try dsimp only at h
          cases h
          obtain ⟨rfl, rfl⟩ := IsL.uniq hl9 hl49
          exact ⟨[], _, _, [(0, 0)], rfl, rfl, rfl, rfl⟩
theorem s56 {v1 : Int} {v2 : Int} {v3 : Int} {v4 : Int} {v5 : Int} {l6 : List Int} {c7 : List D} {n8 : Nat} {v10 : Int} {v11 : Int} {v12 : Int} (hl9 : IsL (eI .i64) c7 n8 l6) {b13 : Bool}  (h : m_ref12_Little (TGeom.mk v1 v2 v3 v4 v5) (TPool.mk l6 (A3.mk v10 v11 v12)) = some b13) : Spec Try.prog 56 [.agg [.d (.int .i64 v1), .d (.int .i64 v2), .d (.int .i64 v3), .d (.int .i64 v4), .d (.int .i64 v5)], .agg [.d (.lst c7 n8), .d (.int .i64 v10), .d (.int .i64 v11), .d (.int .i64 v12)]] ⟨.d (.bool b13), [], 0, True⟩ := by
  refine spec_b [] Try.func56 rfl rfl rfl fun J P hJ hP => ?_
  dsimp only [m_ref12_Little] at h
  cbv
  revert h
  refine st_cmp hJ fun b15 eb15 h => ?_
  cbv
  cases b15 with
  | true =>
    replace h := cnd_t h
    cbv
    revert h
    refine st_cmp hJ fun b16 eb16 h => ?_
    cbv
    cases b16 with
    | true =>
      replace h := cnd_t h
      cbv
      obtain ⟨b19, h18, h⟩ := bnd h
      refine call_by hP (s16 hl9 h18) hJ rfl rfl ?_
      cbv
      cases h
      exact ⟨[], _, _, [], rfl, rfl, rfl, rfl⟩
    | false =>
      replace h := cnd_f h
      cbv
      cases h
      exact ⟨[], _, _, [], rfl, rfl, rfl, rfl⟩
  | false =>
    replace h := cnd_f h
    cbv
    cases h
    exact ⟨[], _, _, [], rfl, rfl, rfl, rfl⟩
end Go.AX
