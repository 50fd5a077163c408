/- What functions of the program compute: each is what its Lean function says. -/
import Derived.Test.YthecmjmlkoomiaaRS14
import Derived.Test.YthecmjmlkoomiaaRS5
namespace Go.AX
open Go.Proofs
set_option autoImplicit false
set_option linter.unusedVariables false
set_option maxRecDepth 100000
set_option maxHeartbeats 100000000
set_option linter.unusedSimpArgs false

theorem s88_2 {l1 : List TDev_write} {c2 : List D} {n3 : Nat} {v5 : Int} (hl4 : IsL eDev_write c2 n3 l1) {l6 : List TDev_write} {c7 : List D} {n8 : Nat} (hl9 : IsL eDev_write c7 n8 l6) (h : m_slices_DeleteFunc__ l1 v5 = some l6) : SpecM Try.prog 88 2 [(0, .box [.d (.int .i64 v5)]), (1, .row c2 66 109)] [.own 1 n3 66, .fn 83 [.ptr 0 0]] ⟨.own 2 n8 66, [(0, .box [.d (.int .i64 v5)]), (2, .row c7 66 109), (1, .dead)], 1, True⟩ := by
  refine specM_b [] 1 2 Try.func88 rfl rfl rfl rfl rfl rfl fun J P hJ hP => ?_
  dsimp only [m_slices_DeleteFunc__] at h
  cbv
  obtain ⟨v13, h12, h⟩ := bnd h
  refine callM_by hP (s102_2 hl4 h12) [(0, 0)] true hJ rfl rfl (by cbv) rfl rfl (.inr ⟨trivial, ⟨⟨trivial, trivial⟩, trivial⟩⟩) ?_
  cbv
  revert h
  refine st_cmp hJ fun b14 eb14 h => ?_
  cbv
  cases b14 with
  | true =>
    replace h := cnd_t h
    cbv
    cases h
    obtain ⟨rfl, rfl⟩ := IsL.uniq hl9 hl4
    exact ⟨_, .refl _, [], _, _, [(0, 0), (1, 2)], _, rfl, rfl, rfl, rfl, rfl, rfl⟩
  | false =>
    replace h := cnd_f h
    cbv
    revert h
    refine st_bin hJ fun v15 ev15 h => ?_
    cbv
    obtain ⟨p17, q16, hp18, hf19, hq20⟩ := bnd_loop h
    clear h
    refine LoopB.mk ({x : Nat × Int × Int × (List TDev_write) × (List D) × Nat // IsL eDev_write x.2.2.2.2.1 x.2.2.2.2.2 x.2.2.2.1 ∧ loopN p17 x.1 (x.2.1, x.2.2.1, x.2.2.2.1) = some q16}) (fun x => ⟨[(0, .own 1 x.1.2.2.2.2.2 66), (1, .fn 83 [.ptr 0 0]), (5, .d (.int .i64 x.1.2.1)), (6, .d (.int .i64 x.1.2.2.1))], [(0, .box [.d (.int .i64 v5)]), (1, .row x.1.2.2.2.2.1 66 109)], 2, 42⟩) (fun x => x.1.1) [0, 1, 5, 6] 2 ⟨(FUEL, v13, v15, l1, c2, n3), hl4, hf19⟩ ⟨[(0, 0), (1, 1)], [], ?_⟩ ?_
    · rfl
    · rintro ⟨⟨N23, v26, v27, l28, c29, n30⟩, hl31, hr22⟩
      obtain ⟨M24, o21, eN25, h, hr22⟩ := loopN_step hr22
      subst eN25
      rw [hp18] at h
      try dsimp only at h ⊢
      cbv
      revert h
      refine st_len hJ hl31 fun v32 ev32 h => ?_
      cbv
      revert h
      refine st_cmp hJ fun b33 eb33 h => ?_
      cbv
      cases b33 with
      | true =>
        replace h := cnd_t h
        cbv
        revert h
        refine st_idx_pr hJ hl31 fun y34 k35 hy36 ho37 h => ?_
        obtain ⟨⟨v38, v39⟩, a40⟩ := y34
        obtain ⟨d41, ha42⟩ := nameA .u8 a40
        try dsimp only at h
        cbv
        refine st_ldW hJ eDev_write_len hl31 hy36 ho37 (fun hJ => by subst hJ; rfl) ([.int .i64 v38, .int .i64 v39] ++ (d41 ++ [])) (by rw [(show d41 = encL (eI .u8) a40.l from ha42)]; first | done | rfl | simp [eDev_write, encL_len (k := 1) (eI_len _), Ar.h]) (.int (.int (.big ⟨by rw [(show d41 = encL (eI .u8) a40.l from ha42)]; exact eA_len _ _, by decide⟩ .nil))) rfl ?_
        cbv
        obtain ⟨b45, h44, h⟩ := bnd h
        refine callM_by hP (s83 ha42 h44) [(0, 0)] false hJ rfl rfl rfl rfl rfl (.inl rfl) ?_
        cbv
        revert h
        refine st_not hJ fun b46 eb46 h => ?_
        cbv
        cases b46 with
        | true =>
          replace h := cnd_t h
          cbv
          revert h
          refine st_idx_pr hJ hl31 fun y47 k48 hy49 ho50 h => ?_
          obtain ⟨⟨v51, v52⟩, a53⟩ := y47
          obtain ⟨d54, ha55⟩ := nameA .u8 a53
          try dsimp only at h
          cbv
          revert h
          refine st_st hJ eDev_write_len hl31 hy49 ho50 0 (fun hJ => by subst hJ; rfl) (by rw [(show d41 = encL (eI .u8) a40.l from ha42)]; subst hJ; simp [stdJ, std, encL_len (k := 1) (eI_len _), Ar.h]) (Nat.le_of_ble_eq_true rfl) (TDev_write.mk (TAt.mk v38 v39) a40) (setAll_full (by rw [(show d41 = encL (eI .u8) a40.l from ha42)]; subst hJ; simp [stdJ, std, eDev_write, encL_len (k := 1) (eI_len _), Ar.h]) (by rw [(show d41 = encL (eI .u8) a40.l from ha42)]; subst hJ; simp [stdJ, std, eDev_write])) fun c57 l56 hl58 h => ?_
          cbv
          revert h
          refine st_bin hJ fun v59 ev59 h => ?_
          cbv
          revert h
          refine st_bin hJ fun v60 ev60 h => ?_
          cbv
          cases h
          exact ⟨⟨(M24, v59, v60, l56, c57, n30), hl58, hr22⟩, [(0, 0), (1, 1)], 2, [], rfl, Nat.lt_succ_self _⟩
        | false =>
          replace h := cnd_f h
          cbv
          revert h
          refine st_bin hJ fun v47 ev47 h => ?_
          cbv
          cases h
          exact ⟨⟨(M24, v26, v47, l28, c29, n30), hl31, hr22⟩, [(0, 0), (1, 1)], 2, [], rfl, Nat.lt_succ_self _⟩
      | false =>
        replace h := cnd_f h
        cbv
        cases h
        have h := hq20
        obtain rfl := hr22
        try dsimp only at h
        revert h
        refine st_own_from hJ eDev_write_len hl31 fun k39 n35 l34 ho40 hn37 hp36 hq38 h => ?_
        cbv
        revert h
        rw [show l34.length = n35 from hn37.symm]
        refine st_clear hJ eDev_write_len hl31 (z := (TDev_write.mk (TAt.mk 0 0) (Ar.zero 64))) (fun hJ => by subst hJ; first | done | rfl | simp [stdJ, std, eDev_write, encL, eI]) v26.toNat (fun hJ => ho40) hq38 fun c42 l41 hl43 h => ?_
        cbv
        revert h
        refine st_own_upto hJ hl43 fun n45 l44 hn47 hp46 hq48 h => ?_
        cbv
        cases h
        obtain rfl := hl9.n.trans hn47.symm
        exact ⟨_, (.row _ 1 _ _ _ _ rfl (trim_part hl43 hl9 hp46)), [], _, _, [(0, 0), (1, 2)], _, rfl, rfl, rfl, rfl, rfl, rfl⟩
end Go.AX
