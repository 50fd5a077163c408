/- What functions of the program compute: each is what its Lean function says. -/
import Derived.Test.YthecmjmlkoomiaaRS10
import Derived.Test.YthecmjmlkoomiaaRS11
import Derived.Test.YthecmjmlkoomiaaRS2
namespace Go.AX
open Go.Proofs
set_option autoImplicit false
set_option linter.unusedVariables false
set_option maxRecDepth 100000
set_option maxHeartbeats 100000000
set_option linter.unusedSimpArgs false

theorem s13 {v1 : Int} {v2 : Int} {v3 : Int} {v4 : Int} {v5 : Int}  {v6 : Int} {v7 : Int} {v8 : Int} {v9 : Int} {v10 : Int} {l11 : List TZone} {c12 : List D} {n13 : Nat} {m15 : List (Int × Bool)} {c16 : List (List D × List D)} {m18 : List (TAt × (Ar 64))} {c19 : List (List D × List D)} {m21 : List (TAt × (Ar 64))} {c22 : List (List D × List D)} {l24 : List TDev_write} {c25 : List D} {n26 : Nat} {v28 : Int} {b29 : Bool} {v30 : Int} (hl14 : IsL eZone c12 n13 l11) (hm17 : c16 = encM (eI .i64) eB m15) (hm20 : c19 = encM eAt (eA .u8) m18) (hm23 : c22 = encM eAt (eA .u8) m21) (hl27 : IsL eDev_write c25 n26 l24) (h : m_dev_New (TGeom.mk v1 v2 v3 v4 v5) = some (TDev_Device.mk (TGeom.mk v6 v7 v8 v9 v10) l11 m15 m18 m21 l24 v28 b29 v30)) : SpecM Try.prog 13 0 [] [.agg [.d (.int .i64 v1), .d (.int .i64 v2), .d (.int .i64 v3), .d (.int .i64 v4), .d (.int .i64 v5)]] ⟨.ptr 0 0, [(0, .box [.d (.int .i64 v6), .d (.int .i64 v7), .d (.int .i64 v8), .d (.int .i64 v9), .d (.int .i64 v10), .own 1 n13 2, .map 2, .map 3, .map 4, .d .nils, .d (.int .i64 v28), .d (.bool b29), .d (.int .i64 v30)]), (1, .row c12 2 53), (2, .mp false false c16), (3, .mp true true c19), (4, .mp true true c22)], 5, True⟩ := by
  refine specM_b [] 0 0 Try.func13 rfl rfl rfl rfl rfl rfl fun J P hJ hP => ?_
  dsimp only [m_dev_New] at h
  cbv
  obtain ⟨l34, h33, h⟩ := bnd h
  obtain ⟨c35, n36, hl37⟩ := nameL eZone l34
  refine call_by hP (s44 hl37 h33) hJ rfl rfl ?_
  cbv
  refine st_mkm hJ ?_
  cbv
  refine st_mkm hJ ?_
  cbv
  refine st_mkm hJ ?_
  cbv
  refine ⟨fun _ => by kernel_rfl, ?_⟩
  cbv
  cases h
  obtain ⟨rfl, rfl⟩ := IsL.uniq hl14 hl37
  obtain rfl := hm17.trans ((rfl : [] = encM (eI .i64) eB [])).symm
  obtain rfl := hm20.trans ((rfl : [] = encM eAt (eA .u8) [])).symm
  obtain rfl := hm23.trans ((rfl : [] = encM eAt (eA .u8) [])).symm
  obtain ⟨rfl, rfl⟩ := IsL.nil hl27
  exact ⟨_, .refl _, [], _, _, [(14, 0), (5, 1), (7, 2), (9, 3), (11, 4)], _, rfl, rfl, rfl, rfl, rfl, rfl⟩
theorem s90 {v1 : Int} {v2 : Int} {v3 : Int} {v4 : Int} {v5 : Int} {v6 : Int} {v7 : Int}  {b8 : Bool}  (h : m_zone_there (TGeom.mk v1 v2 v3 v4 v5) (TAt.mk v6 v7) = some b8) : Spec Try.prog 90 [.agg [.d (.int .i64 v1), .d (.int .i64 v2), .d (.int .i64 v3), .d (.int .i64 v4), .d (.int .i64 v5)], .agg [.d (.int .i64 v6), .d (.int .i64 v7)]] ⟨.d (.bool b8), [], 0, True⟩ := by
  refine spec_b [] Try.func90 rfl rfl rfl fun J P hJ hP => ?_
  dsimp only [m_zone_there] at h
  cbv
  revert h
  refine st_cmp hJ fun b10 eb10 h => ?_
  cbv
  cases b10 with
  | true =>
    replace h := cnd_t h
    cbv
    obtain ⟨v13, h12, h⟩ := bnd h
    refine call_by hP (s104 h12) hJ rfl rfl ?_
    cbv
    revert h
    refine st_cmp hJ fun b14 eb14 h => ?_
    cbv
    refine ⟨fun _ => by kernel_rfl, ?_⟩
    cbv
    cases h
    exact ⟨_, .refl _, [], _, _, [], _, rfl, rfl, rfl, rfl, rfl, rfl⟩
  | false =>
    replace h := cnd_f h
    cbv
    refine ⟨fun _ => by kernel_rfl, ?_⟩
    cbv
    cases h
    exact ⟨_, .refl _, [], _, _, [], _, rfl, rfl, rfl, rfl, rfl, rfl⟩
theorem s88 {l1 : List TDev_write} {c2 : List D} {n3 : Nat} (hl4 : IsL eDev_write c2 n3 l1) {l5 : List TDev_write} {c6 : List D} {n7 : Nat} (hl8 : IsL eDev_write c6 n7 l5) (h : m_slices_DeleteFunc l1 = some l5) : SpecM Try.prog 88 1 [(0, .row c2 66 109)] [.own 0 n3 66, .fn 56 []] ⟨.own 1 n7 66, [(1, .row c6 66 109), (0, .dead)], 1, True⟩ := by
  refine specM_b [] 0 1 Try.func88 rfl rfl rfl rfl rfl rfl fun J P hJ hP => ?_
  dsimp only [m_slices_DeleteFunc] at h
  cbv
  obtain ⟨v12, h11, h⟩ := bnd h
  refine snap_by hP (s102 hl4 h11) hJ (by cbv) rfl ⟨trivial, trivial⟩ ?_
  cbv
  revert h
  refine st_cmp hJ fun b13 eb13 h => ?_
  cbv
  cases b13 with
  | true =>
    replace h := cnd_t h
    cbv
    cases h
    obtain ⟨rfl, rfl⟩ := IsL.uniq hl8 hl4
    exact ⟨_, .refl _, [], _, _, [(0, 1)], _, rfl, rfl, rfl, rfl, rfl, rfl⟩
  | false =>
    replace h := cnd_f h
    cbv
    revert h
    refine st_bin hJ fun v14 ev14 h => ?_
    cbv
    obtain ⟨p16, q15, hp17, hf18, hq19⟩ := bnd_loop h
    clear h
    refine LoopB.mk ({x : Nat × Int × Int × (List TDev_write) × (List D) × Nat // IsL eDev_write x.2.2.2.2.1 x.2.2.2.2.2 x.2.2.2.1 ∧ loopN p16 x.1 (x.2.1, x.2.2.1, x.2.2.2.1) = some q15}) (fun x => ⟨[(0, .own 0 x.1.2.2.2.2.2 66), (1, .fn 56 []), (5, .d (.int .i64 x.1.2.1)), (6, .d (.int .i64 x.1.2.2.1))], [(0, .row x.1.2.2.2.2.1 66 109)], 1, 42⟩) (fun x => x.1.1) [0, 1, 5, 6] 1 ⟨(FUEL, v12, v14, l1, c2, n3), hl4, hf18⟩ ⟨[(0, 0)], [], ?_⟩ ?_
    · rfl
    · rintro ⟨⟨N22, v25, v26, l27, c28, n29⟩, hl30, hr21⟩
      obtain ⟨M23, o20, eN24, h, hr21⟩ := loopN_step hr21
      subst eN24
      rw [hp17] at h
      try dsimp only at h ⊢
      cbv
      revert h
      refine st_len hJ hl30 fun v31 ev31 h => ?_
      cbv
      revert h
      refine st_cmp hJ fun b32 eb32 h => ?_
      cbv
      cases b32 with
      | true =>
        replace h := cnd_t h
        cbv
        revert h
        refine st_idx_pr hJ hl30 fun y33 k34 hy35 ho36 h => ?_
        obtain ⟨⟨v37, v38⟩, a39⟩ := y33
        obtain ⟨d40, ha41⟩ := nameA .u8 a39
        try dsimp only at h
        cbv
        refine st_ldW hJ eDev_write_len hl30 hy35 ho36 (fun hJ => by subst hJ; rfl) ([.int .i64 v37, .int .i64 v38] ++ (d40 ++ [])) (by rw [(show d40 = encL (eI .u8) a39.l from ha41)]; first | done | rfl | simp [eDev_write, encL_len (k := 1) (eI_len _), Ar.h]) (.int (.int (.big ⟨by rw [(show d40 = encL (eI .u8) a39.l from ha41)]; exact eA_len _ _, by decide⟩ .nil))) rfl ?_
        cbv
        obtain ⟨b44, h43, h⟩ := bnd h
        refine call_by hP (s56 ha41 h43) hJ rfl rfl ?_
        cbv
        revert h
        refine st_not hJ fun b45 eb45 h => ?_
        cbv
        cases b45 with
        | true =>
          replace h := cnd_t h
          cbv
          revert h
          refine st_idx_pr hJ hl30 fun y46 k47 hy48 ho49 h => ?_
          obtain ⟨⟨v50, v51⟩, a52⟩ := y46
          obtain ⟨d53, ha54⟩ := nameA .u8 a52
          try dsimp only at h
          cbv
          revert h
          refine st_st hJ eDev_write_len hl30 hy48 ho49 0 (fun hJ => by subst hJ; rfl) (by rw [(show d40 = encL (eI .u8) a39.l from ha41)]; subst hJ; simp [stdJ, std, encL_len (k := 1) (eI_len _), Ar.h]) (Nat.le_of_ble_eq_true rfl) (TDev_write.mk (TAt.mk v37 v38) a39) (setAll_full (by rw [(show d40 = encL (eI .u8) a39.l from ha41)]; subst hJ; simp [stdJ, std, eDev_write, encL_len (k := 1) (eI_len _), Ar.h]) (by rw [(show d40 = encL (eI .u8) a39.l from ha41)]; subst hJ; simp [stdJ, std, eDev_write])) fun c56 l55 hl57 h => ?_
          cbv
          revert h
          refine st_bin hJ fun v58 ev58 h => ?_
          cbv
          revert h
          refine st_bin hJ fun v59 ev59 h => ?_
          cbv
          cases h
          exact ⟨⟨(M23, v58, v59, l55, c56, n29), hl57, hr21⟩, [(0, 0)], 1, [], rfl, Nat.lt_succ_self _⟩
        | false =>
          replace h := cnd_f h
          cbv
          revert h
          refine st_bin hJ fun v46 ev46 h => ?_
          cbv
          cases h
          exact ⟨⟨(M23, v25, v46, l27, c28, n29), hl30, hr21⟩, [(0, 0)], 1, [], rfl, Nat.lt_succ_self _⟩
      | false =>
        replace h := cnd_f h
        cbv
        cases h
        have h := hq19
        obtain rfl := hr21
        try dsimp only at h
        revert h
        refine st_own_from hJ eDev_write_len hl30 fun k38 n34 l33 ho39 hn36 hp35 hq37 h => ?_
        cbv
        revert h
        rw [show l33.length = n34 from hn36.symm]
        refine st_clear hJ eDev_write_len hl30 (z := (TDev_write.mk (TAt.mk 0 0) (Ar.zero 64))) (fun hJ => by subst hJ; first | done | rfl | simp [stdJ, std, eDev_write, encL, eI]) v25.toNat (fun hJ => ho39) hq37 fun c41 l40 hl42 h => ?_
        cbv
        revert h
        refine st_own_upto hJ hl42 fun n44 l43 hn46 hp45 hq47 h => ?_
        cbv
        cases h
        obtain rfl := hl8.n.trans hn46.symm
        exact ⟨_, (.row _ 0 _ _ _ _ rfl (trim_part hl42 hl8 hp45)), [], _, _, [(0, 1)], _, rfl, rfl, rfl, rfl, rfl, rfl⟩
end Go.AX
