/- What functions of the program compute: each is what its Lean function says. -/
import Derived.Test.YthecmjmlkoomiaaRS17
import Derived.Test.YthecmjmlkoomiaaRS19
import Derived.Test.YthecmjmlkoomiaaRS20
import Derived.Test.YthecmjmlkoomiaaRS28
import Derived.Test.YthecmjmlkoomiaaRS29
import Derived.Test.YthecmjmlkoomiaaRS31
import Derived.Test.YthecmjmlkoomiaaRS32
import Derived.Test.YthecmjmlkoomiaaRS37
import Derived.Test.YthecmjmlkoomiaaRS39
import Derived.Test.YthecmjmlkoomiaaRS40
import Derived.Test.YthecmjmlkoomiaaRS5
import Derived.Test.YthecmjmlkoomiaaRS8
namespace Go.AX
open Go.Proofs
set_option autoImplicit false
set_option linter.unusedVariables false
set_option maxRecDepth 100000
set_option maxHeartbeats 100000000
set_option linter.unusedSimpArgs false

theorem s4 {v1 : Int} {v2 : Int} {v3 : Int} {v4 : Int} {v5 : Int} {l6 : List TRef05_Act} {c7 : List D} {n8 : Nat} {v10 : Int} {l11 : List (Ar 64)} {c12 : List D} {n13 : Nat} {l15 : List Int} {c16 : List D} {n17 : Nat} {v19 : Int} {v20 : Int} (hl9 : IsL eRef05_Act c7 n8 l6) (hl14 : IsL (eA .u8) c12 n13 l11) (hl18 : IsL (eI .i64) c16 n17 l15) {b21 : Bool}  (h : m_law05_DevLasts (TGeom.mk v1 v2 v3 v4 v5) l6 v10 l11 (TWreck.mk l15 v19 v20) = some b21) : Spec Try.prog 4 [.agg [.d (.int .i64 v1), .d (.int .i64 v2), .d (.int .i64 v3), .d (.int .i64 v4), .d (.int .i64 v5)], .d (.lst c7 n8), .d (.int .u8 v10), .d (.lst c12 n13), .agg [.d (.lst c16 n17), .d (.int .u64 v19), .d (.int .i64 v20)]] ⟨.d (.bool b21), [], 0, True⟩ := by
  refine spec_b [6, 4, 32, 42, 15, 37] Try.func4 rfl rfl rfl fun J P hJ hP => ?_
  dsimp only [m_law05_DevLasts] at h
  cbv
  obtain ⟨j24, hj25, h⟩ := jn h
  refine JoinP.mk ({x : Unit // j24 () = some b21}) (fun x => ⟨[(1, .d (.lst c7 n8)), (2, .d (.int .u8 v10)), (3, .d (.lst c12 n13)), (5, .ptr 0 0), (9, .ptr 1 0)], [(0, .box [.d (.int .i64 v1), .d (.int .i64 v2), .d (.int .i64 v3), .d (.int .i64 v4), .d (.int .i64 v5)]), (1, .box [.d (.lst c16 n17), .d (.int .u64 v19), .d (.int .i64 v20)])], 2, 173⟩) (fun _ => True) [1, 2, 3, 5, 9] ?_ ?_
  · cbv
    obtain ⟨j27, hj28, h⟩ := jn h
    refine JoinP.mk ({x : Bool // j27 (x) = some b21}) (fun x => ⟨[(1, .d (.lst c7 n8)), (2, .d (.int .u8 v10)), (3, .d (.lst c12 n13)), (5, .ptr 0 0), (9, .ptr 1 0), (39, .d (.bool x.1))], [(0, .box [.d (.int .i64 v1), .d (.int .i64 v2), .d (.int .i64 v3), .d (.int .i64 v4), .d (.int .i64 v5)]), (1, .box [.d (.lst c16 n17), .d (.int .u64 v19), .d (.int .i64 v20)])], 2, 173⟩) (fun _ => True) [1, 2, 3, 5, 9, 39] ?_ ?_
    · cbv
      obtain ⟨b31, h30, h⟩ := bnd h
      refine call_by hP (s11 h30) hJ rfl rfl ?_
      cbv
      revert h
      refine st_not hJ fun b32 eb32 h => ?_
      cbv
      cases b32 with
      | true =>
        replace h := cnd_t h
        cbv
        exact ⟨⟨(true), h⟩, [(0, 0), (2, 1)], 2, [], rfl, trivial⟩
      | false =>
        replace h := cnd_f h
        cbv
        obtain ⟨b35, h34, h⟩ := bnd h
        refine call_by hP (s12 h34) hJ rfl rfl ?_
        cbv
        revert h
        refine st_not hJ fun b36 eb36 h => ?_
        cbv
        cases b36 with
        | true =>
          replace h := cnd_t h
          cbv
          exact ⟨⟨(true), h⟩, [(0, 0), (2, 1)], 2, [], rfl, trivial⟩
        | false =>
          replace h := cnd_f h
          cbv
          revert h
          refine st_len hJ hl9 fun v37 ev37 h => ?_
          cbv
          revert h
          refine st_cmp hJ fun b38 eb38 h => ?_
          cbv
          cases b38 with
          | true =>
            replace h := cnd_t h
            cbv
            exact ⟨⟨(true), h⟩, [(0, 0), (2, 1)], 2, [], rfl, trivial⟩
          | false =>
            replace h := cnd_f h
            cbv
            revert h
            refine st_len hJ hl14 fun v39 ev39 h => ?_
            cbv
            revert h
            refine st_cmp hJ fun b40 eb40 h => ?_
            cbv
            exact ⟨⟨(b40), h⟩, [(0, 0), (2, 1)], 2, [], rfl, trivial⟩
    · rintro ⟨b29, h⟩ -
      rw [hj28] at h
      try dsimp only at h ⊢
      cbv
      cases b29 with
      | true =>
        replace h := cnd_t h
        cbv
        obtain ⟨b32, h31, h⟩ := bnd h
        refine call_by hP (s11 h31) hJ rfl rfl ?_
        cbv
        cases h
        exact ⟨_, .refl _, [], _, _, [], _, rfl, rfl, rfl, rfl, rfl, rfl⟩
      | false =>
        replace h := cnd_f h
        cbv
        exact ⟨⟨(), h⟩, [(0, 0), (1, 1)], 2, [], rfl, trivial⟩
  · rintro ⟨_, h⟩ -
    rw [hj25] at h
    try dsimp only at h ⊢
    cbv
    obtain ⟨⟨⟨v28, v29, v30, v31, v32⟩, l33, m37, m40, m43, l46, v50, b51, v52⟩, h27, h⟩ := bnd h
    obtain ⟨c34, n35, hl36⟩ := nameL eZone l33
    obtain ⟨c38, hm39⟩ := nameM (eI .i64) eB m37
    obtain ⟨c41, hm42⟩ := nameM eAt (eA .u8) m40
    obtain ⟨c44, hm45⟩ := nameM eAt (eA .u8) m43
    obtain ⟨c47, n48, hl49⟩ := nameL eDev_write l46
    try dsimp only at h
    refine callM_by hP (s13 hl36 hm39 hm42 hm45 hl49 h27) [] false hJ rfl rfl rfl rfl rfl (.inl rfl) ?_
    cbv
    obtain ⟨p54, q53, hp55, hf56, hq57⟩ := bnd_loop h
    clear h
    refine LoopB.mk ({x : Nat × Int × Int × Int × Int × Int × Int × Int × Bool × Int × (List TZone) × (List D) × Nat × (List (Int × Bool)) × (List (List D × List D)) × (List (TAt × (Ar 64))) × (List (List D × List D)) × (List (TAt × (Ar 64))) × (List (List D × List D)) × (List TDev_write) × (List D) × Nat // IsL eZone x.2.2.2.2.2.2.2.2.2.2.2.1 x.2.2.2.2.2.2.2.2.2.2.2.2.1 x.2.2.2.2.2.2.2.2.2.2.1 ∧ x.2.2.2.2.2.2.2.2.2.2.2.2.2.2.1 = encM (eI .i64) eB x.2.2.2.2.2.2.2.2.2.2.2.2.2.1 ∧ x.2.2.2.2.2.2.2.2.2.2.2.2.2.2.2.2.1 = encM eAt (eA .u8) x.2.2.2.2.2.2.2.2.2.2.2.2.2.2.2.1 ∧ x.2.2.2.2.2.2.2.2.2.2.2.2.2.2.2.2.2.2.1 = encM eAt (eA .u8) x.2.2.2.2.2.2.2.2.2.2.2.2.2.2.2.2.2.1 ∧ IsL eDev_write x.2.2.2.2.2.2.2.2.2.2.2.2.2.2.2.2.2.2.2.2.1 x.2.2.2.2.2.2.2.2.2.2.2.2.2.2.2.2.2.2.2.2.2 x.2.2.2.2.2.2.2.2.2.2.2.2.2.2.2.2.2.2.2.1 ∧ loopN p54 x.1 (x.2.1, x.2.2.1, x.2.2.2.1, x.2.2.2.2.1, x.2.2.2.2.2.1, x.2.2.2.2.2.2.1, x.2.2.2.2.2.2.2.1, x.2.2.2.2.2.2.2.2.1, x.2.2.2.2.2.2.2.2.2.1, x.2.2.2.2.2.2.2.2.2.2.1, x.2.2.2.2.2.2.2.2.2.2.2.2.2.1, x.2.2.2.2.2.2.2.2.2.2.2.2.2.2.2.1, x.2.2.2.2.2.2.2.2.2.2.2.2.2.2.2.2.2.1, x.2.2.2.2.2.2.2.2.2.2.2.2.2.2.2.2.2.2.2.1) = some q53}) (fun x => ⟨[(1, .d (.lst c7 n8)), (2, .d (.int .u8 v10)), (3, .d (.lst c12 n13)), (5, .ptr 0 0), (9, .ptr 1 0), (11, .ptr 2 0), (12, .d (.int .i64 x.1.2.1))], [(0, .box [.d (.int .i64 v1), .d (.int .i64 v2), .d (.int .i64 v3), .d (.int .i64 v4), .d (.int .i64 v5)]), (1, .box [.d (.lst c16 n17), .d (.int .u64 v19), .d (.int .i64 v20)]), (2, .box [.d (.int .i64 x.1.2.2.1), .d (.int .i64 x.1.2.2.2.1), .d (.int .i64 x.1.2.2.2.2.1), .d (.int .i64 x.1.2.2.2.2.2.1), .d (.int .i64 x.1.2.2.2.2.2.2.1), .own 3 x.1.2.2.2.2.2.2.2.2.2.2.2.2.1 2, .map 4, .map 5, .map 6, .own 7 x.1.2.2.2.2.2.2.2.2.2.2.2.2.2.2.2.2.2.2.2.2.2 66, .d (.int .i64 x.1.2.2.2.2.2.2.2.1), .d (.bool x.1.2.2.2.2.2.2.2.2.1), .d (.int .i64 x.1.2.2.2.2.2.2.2.2.2.1)]), (3, .row x.1.2.2.2.2.2.2.2.2.2.2.2.1 2 53), (4, .mp false false x.1.2.2.2.2.2.2.2.2.2.2.2.2.2.2.1), (5, .mp true true x.1.2.2.2.2.2.2.2.2.2.2.2.2.2.2.2.2.1), (6, .mp true true x.1.2.2.2.2.2.2.2.2.2.2.2.2.2.2.2.2.2.2.1), (7, .row x.1.2.2.2.2.2.2.2.2.2.2.2.2.2.2.2.2.2.2.2.2.1 66 109)], 8, 173⟩) (fun x => x.1.1) [1, 2, 3, 5, 9, 11, 12] 7 ⟨(FUEL, 0, v28, v29, v30, v31, v32, v50, b51, v52, l33, c34, n35, m37, c38, m40, c41, m43, c44, ([] : List TDev_write), [], 0), hl36, hm39, hm42, hm45, (IsL.nil' (g := eDev_write)), hf56⟩ ⟨[(0, 0), (1, 1), (3, 2), (4, 3), (5, 4), (6, 5), (7, 6)], [.cell 2 9 7 66 109], ?_⟩ ?_
    · rfl
    · rintro ⟨⟨N60, v63, v64, v65, v66, v67, v68, v69, b70, v71, l72, c73, n74, m76, c77, m79, c80, m82, c83, l85, c86, n87⟩, hl75, hm78, hm81, hm84, hl88, hr59⟩
      obtain ⟨M61, o58, eN62, h, hr59⟩ := loopN_step hr59
      subst eN62
      rw [hp55] at h
      try dsimp only at h ⊢
      cbv
      revert h
      refine st_len hJ hl9 fun v89 ev89 h => ?_
      cbv
      revert h
      refine st_cmp hJ fun b90 eb90 h => ?_
      cbv
      cases b90 with
      | true =>
        replace h := cnd_t h
        cbv
        refine JoinP.mk Unit (fun _ => ⟨[(1, .d (.lst c7 n8)), (2, .d (.int .u8 v10)), (3, .d (.lst c12 n13)), (5, .ptr 0 0), (9, .ptr 1 0), (11, .ptr 2 0), (12, .d (.int .i64 v63))], [(0, .box [.d (.int .i64 v1), .d (.int .i64 v2), .d (.int .i64 v3), .d (.int .i64 v4), .d (.int .i64 v5)]), (1, .box [.d (.lst c16 n17), .d (.int .u64 v19), .d (.int .i64 v20)]), (2, .box [.d (.int .i64 v64), .d (.int .i64 v65), .d (.int .i64 v66), .d (.int .i64 v67), .d (.int .i64 v68), .own 3 n74 2, .map 4, .map 5, .map 6, .own 7 n87 66, .d (.int .i64 v69), .d (.bool b70), .d (.int .i64 v71)]), (3, .row c73 2 53), (4, .mp false false c77), (5, .mp true true c80), (6, .mp true true c83), (7, .row c86 66 109)], 8, 173⟩) (fun _ => True) [1, 2, 3, 5, 9, 11, 12] ⟨(), [(0, 0), (1, 1), (2, 2), (3, 3), (4, 4), (5, 5), (6, 6), (7, 7)], 8, [], rfl, trivial⟩ ?_
        intro _ _
        cbv
        revert h
        refine st_idx_lp hJ hl9 fun y91 k92 hy93 ho94 h => ?_
        obtain ⟨v95, ⟨v96, v97⟩, a98, v101, ⟨l102, v106, v107⟩⟩ := y91
        obtain ⟨d99, ha100⟩ := nameA .u8 a98
        obtain ⟨c103, n104, hl105⟩ := nameL (eI .i64) l102
        try dsimp only at h
        cbv
        refine st_ldW hJ eRef05_Act_len hl9 hy93 ho94 (fun hJ => by subst hJ; rfl) ([.int .u8 v95, .int .i64 v96, .int .i64 v97] ++ (d99 ++ ([.int .i64 v101, .lst c103 n104, .int .u64 v106, .int .i64 v107]))) (by rw [(show d99 = encL (eI .u8) a98.l from ha100)]; rw [hl105.cs, hl105.n]; first | done | rfl | simp [eRef05_Act, encL_len (k := 1) (eI_len _), Ar.h]) (.int (.int (.int (.big ⟨by rw [(show d99 = encL (eI .u8) a98.l from ha100)]; exact eA_len _ _, by decide⟩ (.int (.slc (.int (.int .nil)))))))) rfl ?_
        cbv
        obtain ⟨⟨v110, ⟨⟨v111, v112, v113, v114, v115⟩, l116, m120, m123, m126, l129, v133, b134, v135⟩⟩, h109, h⟩ := bnd h
        obtain ⟨c117, n118, hl119⟩ := nameL eZone l116
        obtain ⟨c121, hm122⟩ := nameM (eI .i64) eB m120
        obtain ⟨c124, hm125⟩ := nameM eAt (eA .u8) m123
        obtain ⟨c127, hm128⟩ := nameM eAt (eA .u8) m126
        obtain ⟨c130, n131, hl132⟩ := nameL eDev_write l129
        try dsimp only at h
        refine callM_by hP (s15 ha100 hl105 hl75 hm78 hm81 hm84 hl88 hl119 hm122 hm125 hm128 hl132 h109) [(2, 0), (4, 1), (5, 2), (3, 3), (6, 4), (7, 5)] false hJ rfl rfl rfl rfl rfl (.inl rfl) ?_
        cbv
        revert h
        refine st_bin hJ fun v136 ev136 h => ?_
        cbv
        cases h
        exact ⟨⟨(M61, v136, v111, v112, v113, v114, v115, v133, b134, v135, l116, c117, n118, m120, c121, m123, c124, m126, c127, l129, c130, n131), hl119, hm122, hm125, hm128, hl132, hr59⟩, [(0, 0), (1, 1), (2, 2), (13, 3), (4, 4), (5, 5), (14, 6), (15, 7)], 8, [], rfl, Nat.lt_succ_self _⟩
      | false =>
        replace h := cnd_f h
        cbv
        cases h
        have h := hq57
        obtain rfl := hr59
        try dsimp only at h
        obtain ⟨⟨⟨v93, v94, v95, v96, v97⟩, l98, m102, m105, m108, l111, v115, b116, v117⟩, h92, h⟩ := bnd h
        obtain ⟨c99, n100, hl101⟩ := nameL eZone l98
        obtain ⟨c103, hm104⟩ := nameM (eI .i64) eB m102
        obtain ⟨c106, hm107⟩ := nameM eAt (eA .u8) m105
        obtain ⟨c109, hm110⟩ := nameM eAt (eA .u8) m108
        obtain ⟨c112, n113, hl114⟩ := nameL eDev_write l111
        try dsimp only at h
        obtain ⟨_, h397, h⟩ := bnd h
        obtain rfl := lenq_n h397 hl101 hl75
        obtain ⟨_, h398, h⟩ := bnd h
        obtain rfl := lenq_n h398 hl114 hl88
        refine callM_by hP (s17 hl75 hm78 hm81 hm84 hl88 hl101 hm104 hm107 hm110 hl114 h92) [(2, 0), (3, 1), (4, 2), (5, 3), (6, 4), (7, 5)] false hJ rfl rfl rfl rfl rfl (.inl rfl) ?_
        cbv
        obtain ⟨⟨v120, ⟨⟨v121, v122, v123, v124, v125⟩, l126, m130, m133, m136, l139, v143, b144, v145⟩⟩, h119, h⟩ := bnd h
        obtain ⟨c127, n128, hl129⟩ := nameL eZone l126
        obtain ⟨c131, hm132⟩ := nameM (eI .i64) eB m130
        obtain ⟨c134, hm135⟩ := nameM eAt (eA .u8) m133
        obtain ⟨c137, hm138⟩ := nameM eAt (eA .u8) m136
        obtain ⟨c140, n141, hl142⟩ := nameL eDev_write l139
        try dsimp only at h
        obtain ⟨_, h396, h⟩ := bnd h
        obtain rfl := lenq_n h396 hl129 hl101
        refine callM_by hP (s18 hl101 hm104 hm107 hm110 hl114 hl129 hm132 hm135 hm138 hl142 h119) [(2, 0), (3, 1), (4, 2), (5, 3), (6, 4), (7, 5)] false hJ rfl rfl rfl rfl rfl (.inl rfl) ?_
        cbv
        revert h
        refine st_cmp hJ fun b146 eb146 h => ?_
        cbv
        cases b146 with
        | true =>
          replace h := cnd_t h
          cbv
          obtain ⟨b149, h148, h⟩ := bnd h
          refine callM_by hP (s19 hl129 hm132 hm135 hm138 hl142 h148) [(2, 0), (3, 1), (4, 2), (5, 3), (6, 4), (15, 5)] false hJ rfl rfl rfl rfl rfl (.inl rfl) ?_
          cbv
          cases h
          exact ⟨_, .refl _, [], _, _, [], _, rfl, rfl, rfl, rfl, rfl, rfl⟩
        | false =>
          replace h := cnd_f h
          cbv
          revert h
          refine st_conv hJ fun v147 ev147 h => ?_
          cbv
          revert h
          refine st_div hJ fun v148 zv148 ev148 h => ?_
          cbv
          revert h
          refine st_bin hJ fun v149 ev149 h => ?_
          cbv
          refine ⟨fun _ => by kernel_rfl, ?_⟩
          cbv
          obtain ⟨l152, h151, h⟩ := bnd h
          obtain ⟨c153, n154, hl155⟩ := nameL eZone l152
          refine callM_by hP (s20 hl129 hm132 hm135 hm138 hl142 hl155 h151) [(2, 0), (3, 1), (4, 2), (5, 3), (6, 4), (15, 5)] false hJ rfl rfl rfl rfl rfl (.inl rfl) ?_
          cbv
          revert h
          refine st_idx_pr hJ hl155 fun y156 k157 hy158 ho159 h => ?_
          obtain ⟨v160, v161⟩ := y156
          try dsimp only at h
          cbv
          refine st_ld hJ eZone_len hl155 hy158 ho159 1 (fun hJ => by subst hJ; rfl) ([.int .i64 v161]) (Nat.le_of_ble_eq_true rfl) rfl (.int .nil) rfl ?_
          cbv
          obtain ⟨j163, hj164, h⟩ := jn h
          refine JoinP.mk ({x : Int × Int × Int × Int × Int × Int × Int × Bool × Int × (List TZone) × (List D) × Nat × (List (Int × Bool)) × (List (List D × List D)) × (List (TAt × (Ar 64))) × (List (List D × List D)) × (List (TAt × (Ar 64))) × (List (List D × List D)) × (List TDev_write) × (List D) × Nat // IsL eZone x.2.2.2.2.2.2.2.2.2.2.1 x.2.2.2.2.2.2.2.2.2.2.2.1 x.2.2.2.2.2.2.2.2.2.1 ∧ x.2.2.2.2.2.2.2.2.2.2.2.2.2.1 = encM (eI .i64) eB x.2.2.2.2.2.2.2.2.2.2.2.2.1 ∧ x.2.2.2.2.2.2.2.2.2.2.2.2.2.2.2.1 = encM eAt (eA .u8) x.2.2.2.2.2.2.2.2.2.2.2.2.2.2.1 ∧ x.2.2.2.2.2.2.2.2.2.2.2.2.2.2.2.2.2.1 = encM eAt (eA .u8) x.2.2.2.2.2.2.2.2.2.2.2.2.2.2.2.2.1 ∧ IsL eDev_write x.2.2.2.2.2.2.2.2.2.2.2.2.2.2.2.2.2.2.2.1 x.2.2.2.2.2.2.2.2.2.2.2.2.2.2.2.2.2.2.2.2 x.2.2.2.2.2.2.2.2.2.2.2.2.2.2.2.2.2.2.1 ∧ j163 (x.1, x.2.1, x.2.2.1, x.2.2.2.1, x.2.2.2.2.1, x.2.2.2.2.2.1, x.2.2.2.2.2.2.1, x.2.2.2.2.2.2.2.1, x.2.2.2.2.2.2.2.2.1, x.2.2.2.2.2.2.2.2.2.1, x.2.2.2.2.2.2.2.2.2.2.2.2.1, x.2.2.2.2.2.2.2.2.2.2.2.2.2.2.1, x.2.2.2.2.2.2.2.2.2.2.2.2.2.2.2.2.1, x.2.2.2.2.2.2.2.2.2.2.2.2.2.2.2.2.2.2.1) = some b21}) (fun x => ⟨[(9, .ptr 0 0), (11, .ptr 1 0), (13, .d (.int .i64 v149)), (14, .d (.int .i64 v161)), (15, .d (.int .i64 x.1.1))], [(0, .box [.d (.lst c16 n17), .d (.int .u64 v19), .d (.int .i64 v20)]), (1, .box [.d (.int .i64 x.1.2.1), .d (.int .i64 x.1.2.2.1), .d (.int .i64 x.1.2.2.2.1), .d (.int .i64 x.1.2.2.2.2.1), .d (.int .i64 x.1.2.2.2.2.2.1), .own 2 x.1.2.2.2.2.2.2.2.2.2.2.2.1 2, .map 3, .map 4, .map 5, .own 6 x.1.2.2.2.2.2.2.2.2.2.2.2.2.2.2.2.2.2.2.2.2 66, .d (.int .i64 x.1.2.2.2.2.2.2.1), .d (.bool x.1.2.2.2.2.2.2.2.1), .d (.int .i64 x.1.2.2.2.2.2.2.2.2.1)]), (2, .row x.1.2.2.2.2.2.2.2.2.2.2.1 2 53), (3, .mp false false x.1.2.2.2.2.2.2.2.2.2.2.2.2.2.1), (4, .mp true true x.1.2.2.2.2.2.2.2.2.2.2.2.2.2.2.2.1), (5, .mp true true x.1.2.2.2.2.2.2.2.2.2.2.2.2.2.2.2.2.2.1), (6, .row x.1.2.2.2.2.2.2.2.2.2.2.2.2.2.2.2.2.2.2.2.1 66 109)], 7, 173⟩) (fun _ => True) [9, 11, 13, 14, 15] ?_ ?_
          · cbv
            obtain ⟨p166, q165, hp167, hf168, hq169⟩ := bnd_loop h
            clear h
            refine LoopB.mk ({x : Nat × Int × Int × Int × Int × Int × Int × Int × Bool × Int × (List TZone) × (List D) × Nat × (List (Int × Bool)) × (List (List D × List D)) × (List (TAt × (Ar 64))) × (List (List D × List D)) × (List (TAt × (Ar 64))) × (List (List D × List D)) × (List TDev_write) × (List D) × Nat // IsL eZone x.2.2.2.2.2.2.2.2.2.2.2.1 x.2.2.2.2.2.2.2.2.2.2.2.2.1 x.2.2.2.2.2.2.2.2.2.2.1 ∧ x.2.2.2.2.2.2.2.2.2.2.2.2.2.2.1 = encM (eI .i64) eB x.2.2.2.2.2.2.2.2.2.2.2.2.2.1 ∧ x.2.2.2.2.2.2.2.2.2.2.2.2.2.2.2.2.1 = encM eAt (eA .u8) x.2.2.2.2.2.2.2.2.2.2.2.2.2.2.2.1 ∧ x.2.2.2.2.2.2.2.2.2.2.2.2.2.2.2.2.2.2.1 = encM eAt (eA .u8) x.2.2.2.2.2.2.2.2.2.2.2.2.2.2.2.2.2.1 ∧ IsL eDev_write x.2.2.2.2.2.2.2.2.2.2.2.2.2.2.2.2.2.2.2.2.1 x.2.2.2.2.2.2.2.2.2.2.2.2.2.2.2.2.2.2.2.2.2 x.2.2.2.2.2.2.2.2.2.2.2.2.2.2.2.2.2.2.2.1 ∧ loopN p166 x.1 (x.2.1, x.2.2.1, x.2.2.2.1, x.2.2.2.2.1, x.2.2.2.2.2.1, x.2.2.2.2.2.2.1, x.2.2.2.2.2.2.2.1, x.2.2.2.2.2.2.2.2.1, x.2.2.2.2.2.2.2.2.2.1, x.2.2.2.2.2.2.2.2.2.2.1, x.2.2.2.2.2.2.2.2.2.2.2.2.2.1, x.2.2.2.2.2.2.2.2.2.2.2.2.2.2.2.1, x.2.2.2.2.2.2.2.2.2.2.2.2.2.2.2.2.2.1, x.2.2.2.2.2.2.2.2.2.2.2.2.2.2.2.2.2.2.2.1) = some q165}) (fun x => ⟨[(3, .d (.lst c12 n13)), (9, .ptr 0 0), (11, .ptr 1 0), (13, .d (.int .i64 v149)), (14, .d (.int .i64 v161)), (15, .d (.int .i64 x.1.2.1))], [(0, .box [.d (.lst c16 n17), .d (.int .u64 v19), .d (.int .i64 v20)]), (1, .box [.d (.int .i64 x.1.2.2.1), .d (.int .i64 x.1.2.2.2.1), .d (.int .i64 x.1.2.2.2.2.1), .d (.int .i64 x.1.2.2.2.2.2.1), .d (.int .i64 x.1.2.2.2.2.2.2.1), .own 2 x.1.2.2.2.2.2.2.2.2.2.2.2.2.1 2, .map 3, .map 4, .map 5, .own 6 x.1.2.2.2.2.2.2.2.2.2.2.2.2.2.2.2.2.2.2.2.2.2 66, .d (.int .i64 x.1.2.2.2.2.2.2.2.1), .d (.bool x.1.2.2.2.2.2.2.2.2.1), .d (.int .i64 x.1.2.2.2.2.2.2.2.2.2.1)]), (2, .row x.1.2.2.2.2.2.2.2.2.2.2.2.1 2 53), (3, .mp false false x.1.2.2.2.2.2.2.2.2.2.2.2.2.2.2.1), (4, .mp true true x.1.2.2.2.2.2.2.2.2.2.2.2.2.2.2.2.2.1), (5, .mp true true x.1.2.2.2.2.2.2.2.2.2.2.2.2.2.2.2.2.2.2.1), (6, .row x.1.2.2.2.2.2.2.2.2.2.2.2.2.2.2.2.2.2.2.2.2.1 66 109)], 7, 173⟩) (fun x => x.1.1) [3, 9, 11, 13, 14, 15] 7 ⟨(FUEL, 0, v121, v122, v123, v124, v125, v143, b144, v145, l126, c127, n74, m130, c131, m133, c134, m136, c137, l139, c140, n141), hl129, hm132, hm135, hm138, hl142, hf168⟩ ⟨[(1, 0), (2, 1), (3, 2), (4, 3), (5, 4), (6, 5), (15, 6)], [], ?_⟩ ?_
            · rfl
            · rintro ⟨⟨N172, v175, v176, v177, v178, v179, v180, v181, b182, v183, l184, c185, n186, m188, c189, m191, c192, m194, c195, l197, c198, n199⟩, hl187, hm190, hm193, hm196, hl200, hr171⟩
              obtain ⟨M173, o170, eN174, h, hr171⟩ := loopN_step hr171
              subst eN174
              rw [hp167] at h
              try dsimp only at h ⊢
              cbv
              revert h
              refine st_len hJ hl14 fun v201 ev201 h => ?_
              cbv
              revert h
              refine st_cmp hJ fun b202 eb202 h => ?_
              cbv
              cases b202 with
              | true =>
                replace h := cnd_t h
                cbv
                revert h
                refine st_bin hJ fun v203 ev203 h => ?_
                cbv
                revert h
                refine st_idx_lp hJ hl14 fun y204 k205 hy206 ho207 h => ?_
                obtain ⟨a208, rfl⟩ : ∃ x, x = y204 := ⟨_, rfl⟩
                obtain ⟨d209, ha210⟩ := nameA .u8 a208
                try dsimp only at h
                cbv
                refine st_ldW hJ (eA_len .u8) hl14 hy206 ho207 (fun hJ => by subst hJ; rfl) (d209 ++ []) (by rw [(show d209 = encL (eI .u8) a208.l from ha210)]; first | done | rfl | simp [eA, encL_len (k := 1) (eI_len _), Ar.h]) (.big ⟨by rw [(show d209 = encL (eI .u8) a208.l from ha210)]; exact eA_len _ _, by decide⟩ .nil) rfl ?_
                cbv
                obtain ⟨⟨v213, ⟨⟨v214, v215, v216, v217, v218⟩, l219, m223, m226, m229, l232, v236, b237, v238⟩⟩, h212, h⟩ := bnd h
                obtain ⟨c220, n221, hl222⟩ := nameL eZone l219
                obtain ⟨c224, hm225⟩ := nameM (eI .i64) eB m223
                obtain ⟨c227, hm228⟩ := nameM eAt (eA .u8) m226
                obtain ⟨c230, hm231⟩ := nameM eAt (eA .u8) m229
                obtain ⟨c233, n234, hl235⟩ := nameL eDev_write l232
                try dsimp only at h
                refine callM_by hP (s26 ha210 hl187 hm190 hm193 hm196 hl200 hl222 hm225 hm228 hm231 hl235 h212) [(1, 0), (3, 1), (4, 2), (5, 3), (2, 4), (6, 5)] false hJ rfl rfl rfl rfl rfl (.inl rfl) ?_
                cbv
                revert h
                refine st_cmp hJ fun b239 eb239 h => ?_
                cbv
                cases b239 with
                | true =>
                  replace h := cnd_t h
                  cbv
                  revert h
                  refine st_bin hJ fun v240 ev240 h => ?_
                  cbv
                  cases h
                  exact ⟨⟨(M173, v240, v214, v215, v216, v217, v218, v236, b237, v238, l219, c220, n221, m223, c224, m226, c227, m229, c230, l232, c233, n234), hl222, hm225, hm228, hm231, hl235, hr171⟩, [(0, 0), (1, 1), (22, 2), (3, 3), (4, 4), (5, 5), (23, 6)], 7, [], rfl, Nat.lt_succ_self _⟩
                | false =>
                  replace h := cnd_f h
                  cbv
                  cases h
                  have h := hq169
                  obtain rfl := hr171
                  try dsimp only at h
                  exact ⟨⟨(v175, v214, v215, v216, v217, v218, v236, b237, v238, l219, c220, n221, m223, c224, m226, c227, m229, c230, l232, c233, n234), hl222, hm225, hm228, hm231, hl235, h⟩, [(0, 0), (1, 1), (22, 2), (3, 3), (4, 4), (5, 5), (23, 6)], 7, [], rfl, trivial⟩
              | false =>
                replace h := cnd_f h
                cbv
                cases h
                have h := hq169
                obtain rfl := hr171
                try dsimp only at h
                exact ⟨⟨(v175, v176, v177, v178, v179, v180, v181, b182, v183, l184, c185, n186, m188, c189, m191, c192, m194, c195, l197, c198, n199), hl187, hm190, hm193, hm196, hl200, h⟩, [(0, 0), (1, 1), (2, 2), (3, 3), (4, 4), (5, 5), (6, 6)], 7, [], rfl, trivial⟩
          · rintro ⟨⟨v165, v166, v167, v168, v169, v170, v171, b172, v173, l174, c175, n176, m178, c179, m181, c182, m184, c185, l187, c188, n189⟩, hl177, hm180, hm183, hm186, hl190, h⟩ -
            rw [hj164] at h
            try dsimp only at h ⊢
            cbv
            obtain ⟨⟨⟨v193, v194, v195, v196, v197⟩, l198, m202, m205, m208, l211, v215, b216, v217⟩, h192, h⟩ := bnd h
            obtain ⟨c199, n200, hl201⟩ := nameL eZone l198
            obtain ⟨c203, hm204⟩ := nameM (eI .i64) eB m202
            obtain ⟨c206, hm207⟩ := nameM eAt (eA .u8) m205
            obtain ⟨c209, hm210⟩ := nameM eAt (eA .u8) m208
            obtain ⟨c212, n213, hl214⟩ := nameL eDev_write l211
            try dsimp only at h
            refine callM_by hP (s27 hl177 hm180 hm183 hm186 hl190 hl201 hm204 hm207 hm210 hl214 h192) [(1, 0), (2, 1), (3, 2), (4, 3), (5, 4), (6, 5)] false hJ rfl rfl rfl rfl rfl (.inl rfl) ?_
            cbv
            obtain ⟨⟨⟨v220, v221, v222, v223, v224⟩, l225, m229, m232, m235, l238, v242, b243, v244⟩, h219, h⟩ := bnd h
            obtain ⟨c226, n227, hl228⟩ := nameL eZone l225
            obtain ⟨c230, hm231⟩ := nameM (eI .i64) eB m229
            obtain ⟨c233, hm234⟩ := nameM eAt (eA .u8) m232
            obtain ⟨c236, hm237⟩ := nameM eAt (eA .u8) m235
            obtain ⟨c239, n240, hl241⟩ := nameL eDev_write l238
            try dsimp only at h
            refine callM_by hP (s21 hl18 hl177 hm180 hm183 hm186 hl190 hl228 hm231 hm234 hm237 hl241 h219) [(1, 0), (3, 1), (4, 2), (2, 3), (5, 4), (6, 5)] false hJ rfl rfl rfl rfl rfl (.inl rfl) ?_
            cbv
            refine JoinP.mk Unit (fun _ => ⟨[(9, .ptr 0 0), (11, .ptr 1 0), (13, .d (.int .i64 v149)), (14, .d (.int .i64 v161)), (15, .d (.int .i64 v165)), (16, .ptr 2 0)], [(0, .box [.d (.lst c16 n17), .d (.int .u64 v19), .d (.int .i64 v20)]), (1, .box [.d (.int .i64 v220), .d (.int .i64 v221), .d (.int .i64 v222), .d (.int .i64 v223), .d (.int .i64 v224), .own 3 n227 2, .map 4, .map 5, .map 6, .own 12 0 66, .d (.int .i64 v242), .d (.bool b243), .d (.int .i64 v244)]), (2, .box [.d (.int .i64 v193), .d (.int .i64 v194), .d (.int .i64 v195), .d (.int .i64 v196), .d (.int .i64 v197), .own 7 n200 2, .map 8, .map 9, .map 10, .own 11 n213 66, .d (.int .i64 v215), .d (.bool b216), .d (.int .i64 v217)]), (3, .row c226 2 53), (4, .mp false false c230), (5, .mp true true c233), (6, .mp true true c236), (7, .row c199 2 53), (8, .mp false false c203), (9, .mp true true c206), (10, .mp true true c209), (11, .row c212 66 109), (12, .row [] 66 109)], 13, 173⟩) (fun _ => True) [9, 11, 13, 14, 15, 16] ⟨(), [(0, 0), (1, 1), (8, 2), (18, 3), (3, 4), (4, 5), (19, 6), (9, 7), (10, 8), (11, 9), (12, 10), (13, 11)], 12, [.cell 1 9 12 66 109], rfl, trivial⟩ ?_
            intro _ _
            cbv
            obtain ⟨l247, h246, h⟩ := bnd h
            obtain ⟨c248, n249, hl250⟩ := nameL eZone l247
            refine callM_by hP (s20 hl228 hm231 hm234 hm237 (IsL.nil' (g := eDev_write)) hl250 h246) [(1, 0), (3, 1), (4, 2), (5, 3), (6, 4), (12, 5)] false hJ rfl rfl rfl rfl rfl (.inl rfl) ?_
            cbv
            revert h
            refine st_idx_pr hJ hl250 fun y251 k252 hy253 ho254 h => ?_
            obtain ⟨v255, v256⟩ := y251
            try dsimp only at h
            cbv
            refine st_ld hJ eZone_len hl250 hy253 ho254 1 (fun hJ => by subst hJ; rfl) ([.int .i64 v256]) (Nat.le_of_ble_eq_true rfl) rfl (.int .nil) rfl ?_
            cbv
            obtain ⟨j258, hj259, h⟩ := jn h
            refine JoinP.mk ({x : Unit // j258 () = some b21}) (fun x => ⟨[(9, .ptr 0 0), (11, .ptr 1 0), (13, .d (.int .i64 v149)), (14, .d (.int .i64 v161)), (16, .ptr 2 0), (17, .d (.int .i64 v256))], [(0, .box [.d (.lst c16 n17), .d (.int .u64 v19), .d (.int .i64 v20)]), (1, .box [.d (.int .i64 v220), .d (.int .i64 v221), .d (.int .i64 v222), .d (.int .i64 v223), .d (.int .i64 v224), .own 3 n227 2, .map 4, .map 5, .map 6, .own 7 0 66, .d (.int .i64 v242), .d (.bool b243), .d (.int .i64 v244)]), (2, .box [.d (.int .i64 v193), .d (.int .i64 v194), .d (.int .i64 v195), .d (.int .i64 v196), .d (.int .i64 v197), .own 8 n200 2, .map 9, .map 10, .map 11, .own 12 n213 66, .d (.int .i64 v215), .d (.bool b216), .d (.int .i64 v217)]), (3, .row c226 2 53), (4, .mp false false c230), (5, .mp true true c233), (6, .mp true true c236), (7, .row [] 66 109), (8, .row c199 2 53), (9, .mp false false c203), (10, .mp true true c206), (11, .mp true true c209), (12, .row c212 66 109)], 13, 173⟩) (fun _ => True) [9, 11, 13, 14, 16, 17] ?_ ?_
            · cbv
              revert h
              refine st_cmp hJ fun b260 eb260 h => ?_
              cbv
              cases b260 with
              | true =>
                replace h := cnd_t h
                cbv
                cases h
                exact ⟨_, .refl _, [], _, _, [], _, rfl, rfl, rfl, rfl, rfl, rfl⟩
              | false =>
                replace h := cnd_f h
                cbv
                revert h
                refine st_bin hJ fun v261 ev261 h => ?_
                cbv
                revert h
                refine st_cmp hJ fun b262 eb262 h => ?_
                cbv
                cases b262 with
                | true =>
                  replace h := cnd_t h
                  cbv
                  cases h
                  exact ⟨_, .refl _, [], _, _, [], _, rfl, rfl, rfl, rfl, rfl, rfl⟩
                | false =>
                  replace h := cnd_f h
                  cbv
                  exact ⟨⟨(), h⟩, [(0, 0), (1, 1), (2, 2), (3, 3), (4, 4), (5, 5), (6, 6), (12, 7), (7, 8), (8, 9), (9, 10), (10, 11), (11, 12)], 13, [], rfl, trivial⟩
            · rintro ⟨_, h⟩ -
              rw [hj259] at h
              try dsimp only at h ⊢
              cbv
              obtain ⟨p261, q260, hp262, hf263, hq264⟩ := bnd_loop h
              clear h
              refine LoopB.mk ({x : Nat × Int × Int × Int × Int × Int × Int × Int × Bool × Int × Int × Int × Int × Int × Int × Int × Bool × Int × (List TZone) × (List D) × Nat × (List (Int × Bool)) × (List (List D × List D)) × (List (TAt × (Ar 64))) × (List (List D × List D)) × (List (TAt × (Ar 64))) × (List (List D × List D)) × (List TDev_write) × (List D) × Nat × (List TZone) × (List D) × Nat × (List (Int × Bool)) × (List (List D × List D)) × (List (TAt × (Ar 64))) × (List (List D × List D)) × (List (TAt × (Ar 64))) × (List (List D × List D)) × (List TDev_write) × (List D) × Nat // IsL eZone x.2.2.2.2.2.2.2.2.2.2.2.2.2.2.2.2.2.2.2.1 x.2.2.2.2.2.2.2.2.2.2.2.2.2.2.2.2.2.2.2.2.1 x.2.2.2.2.2.2.2.2.2.2.2.2.2.2.2.2.2.2.1 ∧ x.2.2.2.2.2.2.2.2.2.2.2.2.2.2.2.2.2.2.2.2.2.2.1 = encM (eI .i64) eB x.2.2.2.2.2.2.2.2.2.2.2.2.2.2.2.2.2.2.2.2.2.1 ∧ x.2.2.2.2.2.2.2.2.2.2.2.2.2.2.2.2.2.2.2.2.2.2.2.2.1 = encM eAt (eA .u8) x.2.2.2.2.2.2.2.2.2.2.2.2.2.2.2.2.2.2.2.2.2.2.2.1 ∧ x.2.2.2.2.2.2.2.2.2.2.2.2.2.2.2.2.2.2.2.2.2.2.2.2.2.2.1 = encM eAt (eA .u8) x.2.2.2.2.2.2.2.2.2.2.2.2.2.2.2.2.2.2.2.2.2.2.2.2.2.1 ∧ IsL eDev_write x.2.2.2.2.2.2.2.2.2.2.2.2.2.2.2.2.2.2.2.2.2.2.2.2.2.2.2.2.1 x.2.2.2.2.2.2.2.2.2.2.2.2.2.2.2.2.2.2.2.2.2.2.2.2.2.2.2.2.2.1 x.2.2.2.2.2.2.2.2.2.2.2.2.2.2.2.2.2.2.2.2.2.2.2.2.2.2.2.1 ∧ IsL eZone x.2.2.2.2.2.2.2.2.2.2.2.2.2.2.2.2.2.2.2.2.2.2.2.2.2.2.2.2.2.2.2.1 x.2.2.2.2.2.2.2.2.2.2.2.2.2.2.2.2.2.2.2.2.2.2.2.2.2.2.2.2.2.2.2.2.1 x.2.2.2.2.2.2.2.2.2.2.2.2.2.2.2.2.2.2.2.2.2.2.2.2.2.2.2.2.2.2.1 ∧ x.2.2.2.2.2.2.2.2.2.2.2.2.2.2.2.2.2.2.2.2.2.2.2.2.2.2.2.2.2.2.2.2.2.2.1 = encM (eI .i64) eB x.2.2.2.2.2.2.2.2.2.2.2.2.2.2.2.2.2.2.2.2.2.2.2.2.2.2.2.2.2.2.2.2.2.1 ∧ x.2.2.2.2.2.2.2.2.2.2.2.2.2.2.2.2.2.2.2.2.2.2.2.2.2.2.2.2.2.2.2.2.2.2.2.2.1 = encM eAt (eA .u8) x.2.2.2.2.2.2.2.2.2.2.2.2.2.2.2.2.2.2.2.2.2.2.2.2.2.2.2.2.2.2.2.2.2.2.2.1 ∧ x.2.2.2.2.2.2.2.2.2.2.2.2.2.2.2.2.2.2.2.2.2.2.2.2.2.2.2.2.2.2.2.2.2.2.2.2.2.2.1 = encM eAt (eA .u8) x.2.2.2.2.2.2.2.2.2.2.2.2.2.2.2.2.2.2.2.2.2.2.2.2.2.2.2.2.2.2.2.2.2.2.2.2.2.1 ∧ IsL eDev_write x.2.2.2.2.2.2.2.2.2.2.2.2.2.2.2.2.2.2.2.2.2.2.2.2.2.2.2.2.2.2.2.2.2.2.2.2.2.2.2.2.1 x.2.2.2.2.2.2.2.2.2.2.2.2.2.2.2.2.2.2.2.2.2.2.2.2.2.2.2.2.2.2.2.2.2.2.2.2.2.2.2.2.2 x.2.2.2.2.2.2.2.2.2.2.2.2.2.2.2.2.2.2.2.2.2.2.2.2.2.2.2.2.2.2.2.2.2.2.2.2.2.2.2.1 ∧ loopN p261 x.1 (x.2.1, x.2.2.1, x.2.2.2.1, x.2.2.2.2.1, x.2.2.2.2.2.1, x.2.2.2.2.2.2.1, x.2.2.2.2.2.2.2.1, x.2.2.2.2.2.2.2.2.1, x.2.2.2.2.2.2.2.2.2.1, x.2.2.2.2.2.2.2.2.2.2.1, x.2.2.2.2.2.2.2.2.2.2.2.1, x.2.2.2.2.2.2.2.2.2.2.2.2.1, x.2.2.2.2.2.2.2.2.2.2.2.2.2.1, x.2.2.2.2.2.2.2.2.2.2.2.2.2.2.1, x.2.2.2.2.2.2.2.2.2.2.2.2.2.2.2.1, x.2.2.2.2.2.2.2.2.2.2.2.2.2.2.2.2.1, x.2.2.2.2.2.2.2.2.2.2.2.2.2.2.2.2.2.1, x.2.2.2.2.2.2.2.2.2.2.2.2.2.2.2.2.2.2.1, x.2.2.2.2.2.2.2.2.2.2.2.2.2.2.2.2.2.2.2.2.2.1, x.2.2.2.2.2.2.2.2.2.2.2.2.2.2.2.2.2.2.2.2.2.2.2.1, x.2.2.2.2.2.2.2.2.2.2.2.2.2.2.2.2.2.2.2.2.2.2.2.2.2.1, x.2.2.2.2.2.2.2.2.2.2.2.2.2.2.2.2.2.2.2.2.2.2.2.2.2.2.2.1, x.2.2.2.2.2.2.2.2.2.2.2.2.2.2.2.2.2.2.2.2.2.2.2.2.2.2.2.2.2.2.1, x.2.2.2.2.2.2.2.2.2.2.2.2.2.2.2.2.2.2.2.2.2.2.2.2.2.2.2.2.2.2.2.2.2.1, x.2.2.2.2.2.2.2.2.2.2.2.2.2.2.2.2.2.2.2.2.2.2.2.2.2.2.2.2.2.2.2.2.2.2.2.1, x.2.2.2.2.2.2.2.2.2.2.2.2.2.2.2.2.2.2.2.2.2.2.2.2.2.2.2.2.2.2.2.2.2.2.2.2.2.1, x.2.2.2.2.2.2.2.2.2.2.2.2.2.2.2.2.2.2.2.2.2.2.2.2.2.2.2.2.2.2.2.2.2.2.2.2.2.2.2.1) = some q260}) (fun x => ⟨[(9, .ptr 0 0), (11, .ptr 1 0), (13, .d (.int .i64 v149)), (14, .d (.int .i64 v161)), (16, .ptr 2 0), (17, .d (.int .i64 v256)), (18, .d (.int .i64 x.1.2.1))], [(0, .box [.d (.lst c16 n17), .d (.int .u64 v19), .d (.int .i64 v20)]), (1, .box [.d (.int .i64 x.1.2.2.1), .d (.int .i64 x.1.2.2.2.1), .d (.int .i64 x.1.2.2.2.2.1), .d (.int .i64 x.1.2.2.2.2.2.1), .d (.int .i64 x.1.2.2.2.2.2.2.1), .own 3 x.1.2.2.2.2.2.2.2.2.2.2.2.2.2.2.2.2.2.2.2.2.1 2, .map 4, .map 5, .map 6, .own 7 x.1.2.2.2.2.2.2.2.2.2.2.2.2.2.2.2.2.2.2.2.2.2.2.2.2.2.2.2.2.2.1 66, .d (.int .i64 x.1.2.2.2.2.2.2.2.1), .d (.bool x.1.2.2.2.2.2.2.2.2.1), .d (.int .i64 x.1.2.2.2.2.2.2.2.2.2.1)]), (2, .box [.d (.int .i64 x.1.2.2.2.2.2.2.2.2.2.2.1), .d (.int .i64 x.1.2.2.2.2.2.2.2.2.2.2.2.1), .d (.int .i64 x.1.2.2.2.2.2.2.2.2.2.2.2.2.1), .d (.int .i64 x.1.2.2.2.2.2.2.2.2.2.2.2.2.2.1), .d (.int .i64 x.1.2.2.2.2.2.2.2.2.2.2.2.2.2.2.1), .own 8 x.1.2.2.2.2.2.2.2.2.2.2.2.2.2.2.2.2.2.2.2.2.2.2.2.2.2.2.2.2.2.2.2.2.1 2, .map 9, .map 10, .map 11, .own 12 x.1.2.2.2.2.2.2.2.2.2.2.2.2.2.2.2.2.2.2.2.2.2.2.2.2.2.2.2.2.2.2.2.2.2.2.2.2.2.2.2.2.2 66, .d (.int .i64 x.1.2.2.2.2.2.2.2.2.2.2.2.2.2.2.2.1), .d (.bool x.1.2.2.2.2.2.2.2.2.2.2.2.2.2.2.2.2.1), .d (.int .i64 x.1.2.2.2.2.2.2.2.2.2.2.2.2.2.2.2.2.2.1)]), (3, .row x.1.2.2.2.2.2.2.2.2.2.2.2.2.2.2.2.2.2.2.2.1 2 53), (4, .mp false false x.1.2.2.2.2.2.2.2.2.2.2.2.2.2.2.2.2.2.2.2.2.2.2.1), (5, .mp true true x.1.2.2.2.2.2.2.2.2.2.2.2.2.2.2.2.2.2.2.2.2.2.2.2.2.1), (6, .mp true true x.1.2.2.2.2.2.2.2.2.2.2.2.2.2.2.2.2.2.2.2.2.2.2.2.2.2.2.1), (7, .row x.1.2.2.2.2.2.2.2.2.2.2.2.2.2.2.2.2.2.2.2.2.2.2.2.2.2.2.2.2.1 66 109), (8, .row x.1.2.2.2.2.2.2.2.2.2.2.2.2.2.2.2.2.2.2.2.2.2.2.2.2.2.2.2.2.2.2.2.1 2 53), (9, .mp false false x.1.2.2.2.2.2.2.2.2.2.2.2.2.2.2.2.2.2.2.2.2.2.2.2.2.2.2.2.2.2.2.2.2.2.2.1), (10, .mp true true x.1.2.2.2.2.2.2.2.2.2.2.2.2.2.2.2.2.2.2.2.2.2.2.2.2.2.2.2.2.2.2.2.2.2.2.2.2.1), (11, .mp true true x.1.2.2.2.2.2.2.2.2.2.2.2.2.2.2.2.2.2.2.2.2.2.2.2.2.2.2.2.2.2.2.2.2.2.2.2.2.2.2.1), (12, .row x.1.2.2.2.2.2.2.2.2.2.2.2.2.2.2.2.2.2.2.2.2.2.2.2.2.2.2.2.2.2.2.2.2.2.2.2.2.2.2.2.2.1 66 109)], 13, 173⟩) (fun x => x.1.1) [9, 11, 13, 14, 16, 17, 18] 13 ⟨(FUEL, 0, v220, v221, v222, v223, v224, v242, b243, v244, v193, v194, v195, v196, v197, v215, b216, v217, l225, c226, n227, m229, c230, m232, c233, m235, c236, ([] : List TDev_write), [], 0, l198, c199, n200, m202, c203, m205, c206, m208, c209, l211, c212, n213), hl228, hm231, hm234, hm237, (IsL.nil' (g := eDev_write)), hl201, hm204, hm207, hm210, hl214, hf263⟩ ⟨[(0, 0), (1, 1), (2, 2), (3, 3), (4, 4), (5, 5), (6, 6), (7, 7), (8, 8), (9, 9), (10, 10), (11, 11), (12, 12)], [], ?_⟩ ?_
              · rfl
              · rintro ⟨⟨N267, v270, v271, v272, v273, v274, v275, v276, b277, v278, v279, v280, v281, v282, v283, v284, b285, v286, l287, c288, n289, m291, c292, m294, c295, m297, c298, l300, c301, n302, l304, c305, n306, m308, c309, m311, c312, m314, c315, l317, c318, n319⟩, hl290, hm293, hm296, hm299, hl303, hl307, hm310, hm313, hm316, hl320, hr266⟩
                obtain ⟨M268, o265, eN269, h, hr266⟩ := loopN_step hr266
                subst eN269
                rw [hp262] at h
                try dsimp only at h ⊢
                cbv
                revert h
                refine st_cmp hJ fun b321 eb321 h => ?_
                cbv
                cases b321 with
                | true =>
                  replace h := cnd_t h
                  cbv
                  obtain ⟨⟨a324, v327, ⟨⟨v328, v329, v330, v331, v332⟩, l333, m337, m340, m343, l346, v350, b351, v352⟩⟩, h323, h⟩ := bnd h
                  obtain ⟨d325, ha326⟩ := nameA .u8 a324
                  obtain ⟨c334, n335, hl336⟩ := nameL eZone l333
                  obtain ⟨c338, hm339⟩ := nameM (eI .i64) eB m337
                  obtain ⟨c341, hm342⟩ := nameM eAt (eA .u8) m340
                  obtain ⟨c344, hm345⟩ := nameM eAt (eA .u8) m343
                  obtain ⟨c347, n348, hl349⟩ := nameL eDev_write l346
                  try dsimp only at h
                  obtain ⟨_, h394, h⟩ := bnd h
                  obtain rfl := lenq_n h394 hl336 hl290
                  obtain ⟨_, h395, h⟩ := bnd h
                  obtain rfl := lenq_n h395 hl349 hl303
                  refine callM_by hP (s22 hl290 hm293 hm296 hm299 hl303 ha326 hl336 hm339 hm342 hm345 hl349 h323) [(1, 0), (3, 1), (4, 2), (5, 3), (6, 4), (7, 5)] false hJ rfl rfl rfl rfl rfl (.inl rfl) ?_
                  cbv
                  obtain ⟨⟨a355, v358, ⟨⟨v359, v360, v361, v362, v363⟩, l364, m368, m371, m374, l377, v381, b382, v383⟩⟩, h354, h⟩ := bnd h
                  obtain ⟨d356, ha357⟩ := nameA .u8 a355
                  obtain ⟨c365, n366, hl367⟩ := nameL eZone l364
                  obtain ⟨c369, hm370⟩ := nameM (eI .i64) eB m368
                  obtain ⟨c372, hm373⟩ := nameM eAt (eA .u8) m371
                  obtain ⟨c375, hm376⟩ := nameM eAt (eA .u8) m374
                  obtain ⟨c378, n379, hl380⟩ := nameL eDev_write l377
                  try dsimp only at h
                  obtain ⟨_, h392, h⟩ := bnd h
                  obtain rfl := lenq_n h392 hl367 hl307
                  obtain ⟨_, h393, h⟩ := bnd h
                  obtain rfl := lenq_n h393 hl380 hl320
                  refine callM_by hP (s22 hl307 hm310 hm313 hm316 hl320 ha357 hl367 hm370 hm373 hm376 hl380 h354) [(2, 0), (8, 1), (9, 2), (10, 3), (11, 4), (12, 5)] false hJ rfl rfl rfl rfl rfl (.inl rfl) ?_
                  cbv
                  revert h
                  refine st_cmp hJ fun b384 eb384 h => ?_
                  cbv
                  cases b384 with
                  | true =>
                    replace h := cnd_t h
                    cbv
                    cases h
                    have h := hq264
                    obtain rfl := hr266
                    try dsimp only at h
                    cases h
                    exact ⟨_, .refl _, [], _, _, [], _, rfl, rfl, rfl, rfl, rfl, rfl⟩
                  | false =>
                    replace h := cnd_f h
                    cbv
                    revert h
                    refine st_cmp hJ fun b385 eb385 h => ?_
                    cbv
                    cases b385 with
                    | true =>
                      replace h := cnd_t h
                      cbv
                      cases h
                      have h := hq264
                      obtain rfl := hr266
                      try dsimp only at h
                      cases h
                      exact ⟨_, .refl _, [], _, _, [], _, rfl, rfl, rfl, rfl, rfl, rfl⟩
                    | false =>
                      replace h := cnd_f h
                      cbv
                      revert h
                      refine st_eqL hJ (neg := true) (e := !((a324.l == a355.l) && true)) (show eqLs [.big 64 .u8] [.big 64 d325] [.big 64 d356] _ from ⟨rfl, rfl, _, _, _, (ha326).trans (encI_map _ _), (ha357).trans (encI_map _ _), Ar.h _, Ar.h _, rfl, rfl⟩) rfl fun b386 eb386 h => ?_
                      cbv
                      cases b386 with
                      | true =>
                        replace h := cnd_t h
                        cbv
                        revert h
                        refine st_bin hJ fun v387 ev387 h => ?_
                        cbv
                        revert h
                        refine st_cmp hJ fun b388 eb388 h => ?_
                        cbv
                        cases b388 with
                        | true =>
                          replace h := cnd_t h
                          cbv
                          cases h
                          have h := hq264
                          obtain rfl := hr266
                          try dsimp only at h
                          cases h
                          exact ⟨_, .refl _, [], _, _, [], _, rfl, rfl, rfl, rfl, rfl, rfl⟩
                        | false =>
                          replace h := cnd_f h
                          cbv
                          revert h
                          refine st_cmp hJ fun b389 eb389 h => ?_
                          cbv
                          cases b389 with
                          | true =>
                            replace h := cnd_t h
                            cbv
                            cases h
                            have h := hq264
                            obtain rfl := hr266
                            try dsimp only at h
                            cases h
                            exact ⟨_, .refl _, [], _, _, [], _, rfl, rfl, rfl, rfl, rfl, rfl⟩
                          | false =>
                            replace h := cnd_f h
                            cbv
                            revert h
                            refine st_cmp hJ fun b390 eb390 h => ?_
                            cbv
                            cases b390 with
                            | true =>
                              replace h := cnd_t h
                              cbv
                              cases h
                              have h := hq264
                              obtain rfl := hr266
                              try dsimp only at h
                              cases h
                              exact ⟨_, .refl _, [], _, _, [], _, rfl, rfl, rfl, rfl, rfl, rfl⟩
                            | false =>
                              replace h := cnd_f h
                              cbv
                              revert h
                              refine st_bin hJ fun v391 ev391 h => ?_
                              cbv
                              cases h
                              exact ⟨⟨(M268, v391, v328, v329, v330, v331, v332, v350, b351, v352, v359, v360, v361, v362, v363, v381, b382, v383, l333, c334, n289, m337, c338, m340, c341, m343, c344, l346, c347, n302, l364, c365, n306, m368, c369, m371, c372, m374, c375, l377, c378, n319), hl336, hm339, hm342, hm345, hl349, hl367, hm370, hm373, hm376, hl380, hr266⟩, [(0, 0), (1, 1), (2, 2), (3, 3), (4, 4), (5, 5), (6, 6), (7, 7), (8, 8), (9, 9), (10, 10), (11, 11), (12, 12)], 13, [], rfl, Nat.lt_succ_self _⟩
                      | false =>
                        replace h := cnd_f h
                        cbv
                        revert h
                        refine st_bin hJ fun v387 ev387 h => ?_
                        cbv
                        cases h
                        exact ⟨⟨(M268, v387, v328, v329, v330, v331, v332, v350, b351, v352, v359, v360, v361, v362, v363, v381, b382, v383, l333, c334, n289, m337, c338, m340, c341, m343, c344, l346, c347, n302, l364, c365, n306, m368, c369, m371, c372, m374, c375, l377, c378, n319), hl336, hm339, hm342, hm345, hl349, hl367, hm370, hm373, hm376, hl380, hr266⟩, [(0, 0), (1, 1), (2, 2), (3, 3), (4, 4), (5, 5), (6, 6), (7, 7), (8, 8), (9, 9), (10, 10), (11, 11), (12, 12)], 13, [], rfl, Nat.lt_succ_self _⟩
                | false =>
                  replace h := cnd_f h
                  cbv
                  cases h
                  have h := hq264
                  obtain rfl := hr266
                  try dsimp only at h
                  obtain ⟨v324, h323, h⟩ := bnd h
                  refine callM_by hP (s24 hl290 hm293 hm296 hm299 hl303 h323) [(1, 0), (3, 1), (4, 2), (5, 3), (6, 4), (7, 5)] false hJ rfl rfl rfl rfl rfl (.inl rfl) ?_
                  cbv
                  revert h
                  refine st_cmp hJ fun b325 eb325 h => ?_
                  cbv
                  cases b325 with
                  | true =>
                    replace h := cnd_t h
                    cbv
                    obtain ⟨b328, h327, h⟩ := bnd h
                    refine callM_by hP (s19 hl290 hm293 hm296 hm299 hl303 h327) [(1, 0), (3, 1), (4, 2), (5, 3), (6, 4), (7, 5)] false hJ rfl rfl rfl rfl rfl (.inl rfl) ?_
                    cbv
                    revert h
                    refine st_not hJ fun b329 eb329 h => ?_
                    cbv
                    cases h
                    exact ⟨_, .refl _, [], _, _, [], _, rfl, rfl, rfl, rfl, rfl, rfl⟩
                  | false =>
                    replace h := cnd_f h
                    cbv
                    cases h
                    exact ⟨_, .refl _, [], _, _, [], _, rfl, rfl, rfl, rfl, rfl, rfl⟩
end Go.AX
