/- What functions of the program compute: each is what its Lean function says. -/
import Derived.Test.YthecmjmlkoomiaaRM
namespace Go.AX
open Go.Proofs
set_option autoImplicit false
set_option linter.unusedVariables false
set_option maxRecDepth 100000
set_option maxHeartbeats 100000000
set_option linter.unusedSimpArgs false

theorem s63 {l1 : List TRef05_Cell} {c2 : List D} {n3 : Nat} {v5 : Int} {v6 : Int} (hl4 : IsL eRef05_Cell c2 n3 l1) {a7 : Ar 64} {d8 : List D} {b10 : Bool} (ha9 : d8 = encL (eI .u8) a7.l) (h : m_ref05_Find l1 (TAt.mk v5 v6) = some (a7, b10)) : Spec Try.prog 63 [.d (.lst c2 n3), .agg [.d (.int .i64 v5), .d (.int .i64 v6)]] ⟨.tup [.agg [.big 64 d8], .d (.bool b10)], [], 0, True⟩ := by
  refine spec_b [] Try.func63 rfl rfl rfl fun J P hJ hP => ?_
  dsimp only [m_ref05_Find] at h
  cbv
  revert h
  refine st_len hJ hl4 fun v12 ev12 h => ?_
  cbv
  revert h
  refine st_bin hJ fun v13 ev13 h => ?_
  cbv
  obtain ⟨p15, q14, hp16, hf17, hq18⟩ := bnd_loop h
  clear h
  refine LoopB.mk ({x : Nat × Int // loopN p15 x.1 (x.2) = some q14}) (fun x => ⟨[(0, .d (.lst c2 n3)), (3, .ptr 0 0), (4, .ptr 1 0), (6, .d (.int .i64 x.1.2))], [(0, .box [.d (.int .i64 v5), .d (.int .i64 v6)]), (1, .box [.big 64 (J .rep 64 (.int .u8 0))])], 2, 27⟩) (fun x => x.1.1) [0, 3, 4, 6] 2 ⟨(FUEL, v13), hf17⟩ ⟨[(0, 0), (2, 1)], [], ?_⟩ ?_
  · rfl
  · rintro ⟨⟨N21, v24⟩, hr20⟩
    obtain ⟨M22, o19, eN23, h, hr20⟩ := loopN_step hr20
    subst eN23
    rw [hp16] at h
    try dsimp only at h ⊢
    cbv
    revert h
    refine st_cmp hJ fun b25 eb25 h => ?_
    cbv
    cases b25 with
    | true =>
      replace h := cnd_t h
      cbv
      revert h
      refine st_idx_lp hJ hl4 fun y26 k27 hy28 ho29 h => ?_
      obtain ⟨⟨v30, v31⟩, a32⟩ := y26
      obtain ⟨d33, ha34⟩ := nameA .u8 a32
      try dsimp only at h
      cbv
      refine st_ld hJ eRef05_Cell_len hl4 hy28 ho29 0 (fun hJ => by subst hJ; rfl) ([.int .i64 v30, .int .i64 v31]) (by simp [encL_len (k := 1) (eI_len _), Ar.h]) (by first | done | rfl | simp [eRef05_Cell, encL_len (k := 1) (eI_len _), Ar.h, takeA]) (.int (.int .nil)) rfl ?_
      cbv
      revert h
      refine st_bool hJ (fun hJ => by subst hJ; rfl) fun b35 eb35 h => ?_
      cbv
      refine ⟨fun _ => by kernel_rfl, ?_⟩
      cbv
      cases b35 with
      | true =>
        replace h := cnd_t h
        cbv
        revert h
        refine st_idx_lp hJ hl4 fun y36 k37 hy38 ho39 h => ?_
        obtain ⟨⟨v40, v41⟩, a42⟩ := y36
        obtain ⟨d43, ha44⟩ := nameA .u8 a42
        try dsimp only at h
        cbv
        refine st_ld hJ eRef05_Cell_len hl4 hy38 ho39 2 (fun hJ => by subst hJ; rfl) (d43 ++ []) (by rw [(show d43 = encL (eI .u8) a42.l from ha44)]; simp [encL_len (k := 1) (eI_len _), Ar.h]) (by rw [(show d43 = encL (eI .u8) a42.l from ha44)]; first | done | rfl | simp [eRef05_Cell, encL_len (k := 1) (eI_len _), Ar.h, takeA]) (.big ⟨by rw [(show d43 = encL (eI .u8) a42.l from ha44)]; exact eA_len _ _, by decide⟩ .nil) rfl ?_
        cbv
        cases h
        have h := hq18
        obtain rfl := hr20
        try dsimp only at h
        cases h
        obtain rfl := ha9.trans (ha44).symm
        exact ⟨_, .refl _, [], _, _, [], _, rfl, rfl, rfl, rfl, rfl, rfl⟩
      | false =>
        replace h := cnd_f h
        cbv
        revert h
        refine st_bin hJ fun v36 ev36 h => ?_
        cbv
        cases h
        exact ⟨⟨(M22, v36), hr20⟩, [(0, 0), (1, 1)], 2, [], rfl, Nat.lt_succ_self _⟩
    | false =>
      replace h := cnd_f h
      cbv
      cases h
      have h := hq18
      obtain rfl := hr20
      try dsimp only at h
      cases h
      obtain rfl := ha9.trans ((rep_z hJ 64 .u8)).symm
      exact ⟨_, .refl _, [], _, _, [], _, rfl, rfl, rfl, rfl, rfl, rfl⟩
theorem s84 {v1 : Int} {v2 : Int} {v3 : Int} {v4 : Int} {v5 : Int} {v6 : Int}  {v7 : Int}  (h : m_ref03_Sectors (TGeom.mk v1 v2 v3 v4 v5) v6 = some v7) : Spec Try.prog 84 [.agg [.d (.int .i64 v1), .d (.int .i64 v2), .d (.int .i64 v3), .d (.int .i64 v4), .d (.int .i64 v5)], .d (.int .i64 v6)] ⟨.d (.int .i64 v7), [], 0, True⟩ := by
  refine spec_b [6] Try.func84 rfl rfl rfl fun J P hJ hP => ?_
  dsimp only [m_ref03_Sectors] at h
  cbv
  obtain ⟨j10, hj11, h⟩ := jn h
  refine JoinP.mk ({x : Unit // j10 () = some v7}) (fun x => ⟨[(1, .d (.int .i64 v6)), (2, .ptr 0 0)], [(0, .box [.d (.int .i64 v1), .d (.int .i64 v2), .d (.int .i64 v3), .d (.int .i64 v4), .d (.int .i64 v5)])], 1, 24⟩) (fun _ => True) [1, 2] ?_ ?_
  · cbv
    revert h
    refine st_cmp hJ fun b12 eb12 h => ?_
    cbv
    cases b12 with
    | true =>
      replace h := cnd_t h
      cbv
      cases h
      exact ⟨_, .refl _, [], _, _, [], _, rfl, rfl, rfl, rfl, rfl, rfl⟩
    | false =>
      replace h := cnd_f h
      cbv
      revert h
      refine st_bin hJ fun v13 ev13 h => ?_
      cbv
      revert h
      refine st_cmp hJ fun b14 eb14 h => ?_
      cbv
      cases b14 with
      | true =>
        replace h := cnd_t h
        cbv
        cases h
        exact ⟨_, .refl _, [], _, _, [], _, rfl, rfl, rfl, rfl, rfl, rfl⟩
      | false =>
        replace h := cnd_f h
        cbv
        exact ⟨⟨(), h⟩, [(0, 0)], 1, [], rfl, trivial⟩
  · rintro ⟨_, h⟩ -
    rw [hj11] at h
    try dsimp only at h ⊢
    cbv
    revert h
    refine st_cmp hJ fun b12 eb12 h => ?_
    cbv
    cases b12 with
    | true =>
      replace h := cnd_t h
      cbv
      cases h
      exact ⟨_, .refl _, [], _, _, [], _, rfl, rfl, rfl, rfl, rfl, rfl⟩
    | false =>
      replace h := cnd_f h
      cbv
      cases h
      exact ⟨_, .refl _, [], _, _, [], _, rfl, rfl, rfl, rfl, rfl, rfl⟩
theorem s85 {l1 : List Int} {c2 : List D} {n3 : Nat} {v5 : Int} (hl4 : IsL (eI .i64) c2 n3 l1) {b6 : Bool}  (h : m_ref05_has l1 v5 = some b6) : Spec Try.prog 85 [.d (.lst c2 n3), .d (.int .i64 v5)] ⟨.d (.bool b6), [], 0, True⟩ := by
  refine spec_b [] Try.func85 rfl rfl rfl fun J P hJ hP => ?_
  dsimp only [m_ref05_has] at h
  cbv
  obtain ⟨p9, q8, hp10, hf11, hq12⟩ := bnd_loop h
  clear h
  refine LoopB.mk ({x : Nat × Int // loopN p9 x.1 (x.2) = some q8}) (fun x => ⟨[(0, .d (.lst c2 n3)), (1, .d (.int .i64 v5)), (5, .d (.int .i64 x.1.2))], [], 0, 18⟩) (fun x => x.1.1) [0, 1, 5] 0 ⟨(FUEL, 0), hf11⟩ ⟨[], [], ?_⟩ ?_
  · rfl
  · rintro ⟨⟨N15, v18⟩, hr14⟩
    obtain ⟨M16, o13, eN17, h, hr14⟩ := loopN_step hr14
    subst eN17
    rw [hp10] at h
    try dsimp only at h ⊢
    cbv
    revert h
    refine st_len hJ hl4 fun v19 ev19 h => ?_
    cbv
    revert h
    refine st_cmp hJ fun b20 eb20 h => ?_
    cbv
    cases b20 with
    | true =>
      replace h := cnd_t h
      cbv
      revert h
      refine st_idx_lp hJ hl4 fun y21 k22 hy23 ho24 h => ?_
      cbv
      refine st_ld hJ (eI_len .i64) hl4 hy23 ho24 0 (fun hJ => by subst hJ; rfl) ([.int .i64 y21]) (Nat.le_of_ble_eq_true rfl) rfl (.int .nil) rfl ?_
      cbv
      revert h
      refine st_cmp hJ fun b26 eb26 h => ?_
      cbv
      cases b26 with
      | true =>
        replace h := cnd_t h
        cbv
        cases h
        have h := hq12
        obtain rfl := hr14
        try dsimp only at h
        cases h
        exact ⟨_, .refl _, [], _, _, [], _, rfl, rfl, rfl, rfl, rfl, rfl⟩
      | false =>
        replace h := cnd_f h
        cbv
        revert h
        refine st_bin hJ fun v27 ev27 h => ?_
        cbv
        cases h
        exact ⟨⟨(M16, v27), hr14⟩, [], 0, [], rfl, Nat.lt_succ_self _⟩
    | false =>
      replace h := cnd_f h
      cbv
      cases h
      have h := hq12
      obtain rfl := hr14
      try dsimp only at h
      cases h
      exact ⟨_, .refl _, [], _, _, [], _, rfl, rfl, rfl, rfl, rfl, rfl⟩
theorem s86 {l1 : List TZone} {c2 : List D} {n3 : Nat} {v5 : Int} {v6 : Int} {v7 : Int} (hl4 : IsL eZone c2 n3 l1) {l8 : List TZone} {c9 : List D} {n10 : Nat} (hl11 : IsL eZone c9 n10 l8) (h : m_ref04_with l1 v5 (TZone.mk v6 v7) = some l8) : Spec Try.prog 86 [.d (.lst c2 n3), .d (.int .i64 v5), .agg [.d (.int .i64 v6), .d (.int .i64 v7)]] ⟨.own 0 n10 2, [(0, .row c9 2 53)], 1, True⟩ := by
  refine spec_b [] Try.func86 rfl rfl rfl fun J P hJ hP => ?_
  dsimp only [m_ref04_with] at h
  cbv
  have hl13 : IsL eZone [] 0 [] := ⟨rfl, rfl⟩
  refine st_any hJ rfl rfl (by subst hJ; exact (by decide : 0 ≤ 16777216)) ?_
  cbv
  revert h
  refine st_app hJ eZone_len hl13 hl4 fun c15 n16 l14 hl17 h => ?_
  cbv
  revert h
  refine st_idx_pr hJ hl17 fun y18 k19 hy20 ho21 h => ?_
  obtain ⟨v22, v23⟩ := y18
  try dsimp only at h
  cbv
  revert h
  refine st_st hJ eZone_len hl17 hy20 ho21 0 (fun hJ => by subst hJ; rfl) rfl (Nat.le_of_ble_eq_true rfl) (TZone.mk v6 v7) rfl fun c25 l24 hl26 h => ?_
  cbv
  cases h
  obtain ⟨rfl, rfl⟩ := IsL.uniq hl11 hl26
  exact ⟨_, .refl _, [], _, _, [(6, 0)], _, rfl, rfl, rfl, rfl, rfl, rfl⟩
end Go.AX
