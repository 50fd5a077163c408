/- What functions of the program compute: each is what its Lean function says. -/
import Derived.Test.YthecmjmlkoomiaaRS1
import Derived.Test.YthecmjmlkoomiaaRS2
namespace Go.AX
open Go.Proofs
set_option autoImplicit false
set_option linter.unusedVariables false
set_option maxRecDepth 100000
set_option maxHeartbeats 100000000
set_option linter.unusedSimpArgs false

theorem s53 {l1 : List TZone} {c2 : List D} {n3 : Nat} {v5 : Int} {v6 : Int} {v7 : Int} {v8 : Int} {v9 : Int} {v10 : Int} {l11 : List TZone} {c12 : List D} {n13 : Nat} {m15 : List (Int × Bool)} {c16 : List (List D × List D)} {m18 : List (TAt × (Ar 64))} {c19 : List (List D × List D)} {m21 : List (TAt × (Ar 64))} {c22 : List (List D × List D)} {l24 : List TDev_write} {c25 : List D} {n26 : Nat} {v28 : Int} {b29 : Bool} {v30 : Int} {a31 : Ar 64} {d32 : List D} {v34 : Int} {v35 : Int} (hl4 : IsL eZone c2 n3 l1) (hl14 : IsL eZone c12 n13 l11) (hm17 : c16 = encM (eI .i64) eB m15) (hm20 : c19 = encM eAt (eA .u8) m18) (hm23 : c22 = encM eAt (eA .u8) m21) (hl27 : IsL eDev_write c25 n26 l24) (ha33 : d32 = encL (eI .u8) a31.l) {v36 : Int} {v37 : Int} {v38 : Int} {v39 : Int} {v40 : Int} {v41 : Int} {l42 : List TZone} {c43 : List D} {n44 : Nat} {m46 : List (Int × Bool)} {c47 : List (List D × List D)} {m49 : List (TAt × (Ar 64))} {c50 : List (List D × List D)} {m52 : List (TAt × (Ar 64))} {c53 : List (List D × List D)} {l55 : List TDev_write} {c56 : List D} {n57 : Nat} {v59 : Int} {b60 : Bool} {v61 : Int} (hl45 : IsL eZone c43 n44 l42) (hm48 : c47 = encM (eI .i64) eB m46) (hm51 : c50 = encM eAt (eA .u8) m49) (hm54 : c53 = encM eAt (eA .u8) m52) (hl58 : IsL eDev_write c56 n57 l55) (h : m___dev_Device__command l1 v5 (TDev_Device.mk (TGeom.mk v6 v7 v8 v9 v10) l11 m15 m18 m21 l24 v28 b29 v30) a31 (TAt.mk v34 v35) = some (v36, (TDev_Device.mk (TGeom.mk v37 v38 v39 v40 v41) l42 m46 m49 m52 l55 v59 b60 v61))) : SpecM Try.prog 53 10 [(0, .box [.d (.int .i64 v6), .d (.int .i64 v7), .d (.int .i64 v8), .d (.int .i64 v9), .d (.int .i64 v10), .own 8 n13 2, .map 4, .map 5, .map 6, .own 9 n26 66, .d (.int .i64 v28), .d (.bool b29), .d (.int .i64 v30)]), (1, .box [.big 64 d32]), (2, .box [.ptr 0 0]), (3, .box [.d (.int .i64 v34), .d (.int .i64 v35)]), (4, .mp false false c16), (5, .mp true true c19), (6, .mp true true c22), (7, .row c2 2 53), (8, .row c12 2 53), (9, .row c25 66 109)] [.ptr 0 0, .own 7 n3 2, .d (.int .i64 v5), .fn 66 [.ptr 1 0, .ptr 2 0, .ptr 3 0]] ⟨.d (.int .i64 v36), [(0, .box [.d (.int .i64 v37), .d (.int .i64 v38), .d (.int .i64 v39), .d (.int .i64 v40), .d (.int .i64 v41), .own 10 n44 2, .map 4, .map 5, .map 6, .own 11 n57 66, .d (.int .i64 v59), .d (.bool b60), .d (.int .i64 v61)]), (1, .box [.big 64 d32]), (2, .box [.ptr 0 0]), (3, .box [.d (.int .i64 v34), .d (.int .i64 v35)]), (4, .mp false false c47), (5, .mp true true c50), (6, .mp true true c53), (10, .row c43 2 53), (11, .row c56 66 109), (9, .dead), (8, .dead), (7, .dead)], 2, True⟩ := by
  refine specM_b [] 7 10 Try.func53 rfl rfl rfl rfl rfl rfl fun J P hJ hP => ?_
  dsimp only [m___dev_Device__command] at h
  cbv
  cases b29 with
  | true =>
    replace h := cnd_t h
    cbv
    cases h
    obtain ⟨rfl, rfl⟩ := IsL.uniq hl45 hl14
    obtain rfl := hm48.trans (hm17).symm
    obtain rfl := hm51.trans (hm20).symm
    obtain rfl := hm54.trans (hm23).symm
    obtain ⟨rfl, rfl⟩ := IsL.uniq hl58 hl27
    exact ⟨_, .refl _, [], _, _, [(0, 0), (1, 1), (2, 2), (3, 3), (4, 4), (5, 5), (6, 6), (8, 10), (9, 11)], _, rfl, rfl, rfl, rfl, rfl, rfl⟩
  | false =>
    replace h := cnd_f h
    cbv
    obtain ⟨⟨v65, ⟨⟨v66, v67, v68, v69, v70⟩, l71, m75, m78, m81, l84, v88, b89, v90⟩⟩, h64, h⟩ := bnd h
    obtain ⟨c72, n73, hl74⟩ := nameL eZone l71
    obtain ⟨c76, hm77⟩ := nameM (eI .i64) eB m75
    obtain ⟨c79, hm80⟩ := nameM eAt (eA .u8) m78
    obtain ⟨c82, hm83⟩ := nameM eAt (eA .u8) m81
    obtain ⟨c85, n86, hl87⟩ := nameL eDev_write l84
    try dsimp only at h
    obtain ⟨_, h149, h⟩ := bnd h
    obtain rfl := lenq_n h149 hl74 hl14
    obtain ⟨_, h150, h⟩ := bnd h
    obtain rfl := lenq_n h150 hl87 hl27
    refine callM_by hP (s61 hl14 hm17 hm20 hm23 hl27 hl74 hm77 hm80 hm83 hl87 h64) [(0, 0), (8, 1), (4, 2), (5, 3), (6, 4), (9, 5)] false hJ rfl rfl rfl rfl rfl (.inl rfl) ?_
    cbv
    revert h
    refine st_cmp hJ fun b91 eb91 h => ?_
    cbv
    cases b91 with
    | true =>
      replace h := cnd_t h
      cbv
      cases h
      obtain ⟨rfl, rfl⟩ := IsL.uniq hl45 hl74
      obtain rfl := hm48.trans (hm77).symm
      obtain rfl := hm51.trans (hm80).symm
      obtain rfl := hm54.trans (hm83).symm
      obtain ⟨rfl, rfl⟩ := IsL.uniq hl58 hl87
      exact ⟨_, .refl _, [], _, _, [(0, 0), (1, 1), (2, 2), (3, 3), (4, 4), (5, 5), (6, 6), (8, 10), (9, 11)], _, rfl, rfl, rfl, rfl, rfl, rfl⟩
    | false =>
      replace h := cnd_f h
      cbv
      obtain ⟨⟨⟨v94, v95, v96, v97, v98⟩, l99, m103, m106, m109, l112, v116, b117, v118⟩, h93, h⟩ := bnd h
      obtain ⟨c100, n101, hl102⟩ := nameL eZone l99
      obtain ⟨c104, hm105⟩ := nameM (eI .i64) eB m103
      obtain ⟨c107, hm108⟩ := nameM eAt (eA .u8) m106
      obtain ⟨c110, hm111⟩ := nameM eAt (eA .u8) m109
      obtain ⟨c113, n114, hl115⟩ := nameL eDev_write l112
      try dsimp only at h
      obtain ⟨_, h148, h⟩ := bnd h
      obtain rfl := lenq_n h148 hl102 hl4
      refine callM_by hP (s66 ha33 hl4 hm77 hm80 hm83 hl87 hl102 hm105 hm108 hm111 hl115 h93) [(1, 0), (2, 1), (3, 2), (0, 3), (7, 4), (4, 5), (5, 6), (6, 7), (9, 8)] false hJ rfl rfl rfl rfl rfl (.inl rfl) ?_
      cbv
      obtain ⟨⟨⟨v121, v122, v123, v124, v125⟩, l126, m130, m133, m136, l139, v143, b144, v145⟩, h120, h⟩ := bnd h
      obtain ⟨c127, n128, hl129⟩ := nameL eZone l126
      obtain ⟨c131, hm132⟩ := nameM (eI .i64) eB m130
      obtain ⟨c134, hm135⟩ := nameM eAt (eA .u8) m133
      obtain ⟨c137, hm138⟩ := nameM eAt (eA .u8) m136
      obtain ⟨c140, n141, hl142⟩ := nameL eDev_write l139
      try dsimp only at h
      obtain ⟨_, h146, h⟩ := bnd h
      obtain rfl := lenq_n h146 hl129 hl102
      obtain ⟨_, h147, h⟩ := bnd h
      obtain rfl := lenq_n h147 hl142 hl115
      refine callM_by hP (s87 hl102 hm105 hm108 hm111 hl115 hl129 hm132 hm135 hm138 hl142 h120) [(0, 0), (7, 1), (4, 2), (5, 3), (6, 4), (25, 5)] false hJ rfl rfl rfl rfl rfl (.inl rfl) ?_
      cbv
      cases h
      obtain ⟨rfl, rfl⟩ := IsL.uniq hl45 hl129
      obtain rfl := hm48.trans (hm132).symm
      obtain rfl := hm51.trans (hm135).symm
      obtain rfl := hm54.trans (hm138).symm
      obtain ⟨rfl, rfl⟩ := IsL.uniq hl58 hl142
      exact ⟨_, .refl _, [], _, _, [(0, 0), (1, 1), (2, 2), (3, 3), (4, 4), (5, 5), (6, 6), (7, 10), (25, 11)], _, rfl, rfl, rfl, rfl, rfl, rfl⟩
theorem s102 {l1 : List TDev_write} {c2 : List D} {n3 : Nat} (hl4 : IsL eDev_write c2 n3 l1) {v5 : Int}  (h : m_slices_IndexFunc l1 = some v5) : Spec Try.prog 102 [.d (.lst c2 n3), .fn 56 []] ⟨.d (.int .i64 v5), [], 0, True⟩ := by
  refine spec_b [] Try.func102 rfl rfl rfl fun J P hJ hP => ?_
  dsimp only [m_slices_IndexFunc] at h
  cbv
  revert h
  refine st_len hJ hl4 fun v7 ev7 h => ?_
  cbv
  obtain ⟨p9, q8, hp10, hf11, hq12⟩ := bnd_loop h
  clear h
  refine LoopB.mk ({x : Nat × Int // loopN p9 x.1 (x.2) = some q8}) (fun x => ⟨[(0, .d (.lst c2 n3)), (1, .fn 56 []), (7, .d (.int .i64 v7)), (8, .d (.int .i64 x.1.2))], [], 0, 19⟩) (fun x => x.1.1) [0, 1, 7, 8] 0 ⟨(FUEL, 0), hf11⟩ ⟨[], [], ?_⟩ ?_
  · rfl
  · rintro ⟨⟨N15, v18⟩, hr14⟩
    obtain ⟨M16, o13, eN17, h, hr14⟩ := loopN_step hr14
    subst eN17
    rw [hp10] at h
    try dsimp only at h ⊢
    cbv
    revert h
    refine st_cmp hJ fun b19 eb19 h => ?_
    cbv
    cases b19 with
    | true =>
      replace h := cnd_t h
      cbv
      revert h
      refine st_idx_lp hJ hl4 fun y20 k21 hy22 ho23 h => ?_
      obtain ⟨⟨v24, v25⟩, a26⟩ := y20
      obtain ⟨d27, ha28⟩ := nameA .u8 a26
      try dsimp only at h
      cbv
      refine st_ldW hJ eDev_write_len hl4 hy22 ho23 (fun hJ => by subst hJ; rfl) ([.int .i64 v24, .int .i64 v25] ++ (d27 ++ [])) (by rw [(show d27 = encL (eI .u8) a26.l from ha28)]; first | done | rfl | simp [eDev_write, encL_len (k := 1) (eI_len _), Ar.h]) (.int (.int (.big ⟨by rw [(show d27 = encL (eI .u8) a26.l from ha28)]; exact eA_len _ _, by decide⟩ .nil))) rfl ?_
      cbv
      obtain ⟨b31, h30, h⟩ := bnd h
      refine call_by hP (s56 ha28 h30) hJ rfl rfl ?_
      cbv
      cases b31 with
      | true =>
        replace h := cnd_t h
        cbv
        cases h
        have h := hq12
        obtain rfl := hr14
        try dsimp only at h
        cases h
        exact ⟨_, .refl _, [], _, _, [], _, rfl, rfl, rfl, rfl, rfl, rfl⟩
      | false =>
        replace h := cnd_f h
        cbv
        revert h
        refine st_bin hJ fun v32 ev32 h => ?_
        cbv
        cases h
        exact ⟨⟨(M16, v32), hr14⟩, [], 0, [], rfl, Nat.lt_succ_self _⟩
    | false =>
      replace h := cnd_f h
      cbv
      cases h
      have h := hq12
      obtain rfl := hr14
      try dsimp only at h
      cases h
      exact ⟨_, .refl _, [], _, _, [], _, rfl, rfl, rfl, rfl, rfl, rfl⟩
end Go.AX
