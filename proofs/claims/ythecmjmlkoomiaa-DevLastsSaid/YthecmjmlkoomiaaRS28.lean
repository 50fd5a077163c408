/- What functions of the program compute: each is what its Lean function says. -/
import Derived.Test.YthecmjmlkoomiaaRS21
import Derived.Test.YthecmjmlkoomiaaRS3
namespace Go.AX
open Go.Proofs
set_option autoImplicit false
set_option linter.unusedVariables false
set_option maxRecDepth 100000
set_option maxHeartbeats 100000000
set_option linter.unusedSimpArgs false

theorem s21 {l1 : List Int} {c2 : List D} {n3 : Nat} {v5 : Int} {v6 : Int} {v7 : Int} {v8 : Int} {v9 : Int} {v10 : Int} {v11 : Int} {l12 : List TZone} {c13 : List D} {n14 : Nat} {m16 : List (Int × Bool)} {c17 : List (List D × List D)} {m19 : List (TAt × (Ar 64))} {c20 : List (List D × List D)} {m22 : List (TAt × (Ar 64))} {c23 : List (List D × List D)} {l25 : List TDev_write} {c26 : List D} {n27 : Nat} {v29 : Int} {b30 : Bool} {v31 : Int} (hl4 : IsL (eI .i64) c2 n3 l1) (hl15 : IsL eZone c13 n14 l12) (hm18 : c17 = encM (eI .i64) eB m16) (hm21 : c20 = encM eAt (eA .u8) m19) (hm24 : c23 = encM eAt (eA .u8) m22) (hl28 : IsL eDev_write c26 n27 l25) {v32 : Int} {v33 : Int} {v34 : Int} {v35 : Int} {v36 : Int} {l37 : List TZone} {c38 : List D} {n39 : Nat} {m41 : List (Int × Bool)} {c42 : List (List D × List D)} {m44 : List (TAt × (Ar 64))} {c45 : List (List D × List D)} {m47 : List (TAt × (Ar 64))} {c48 : List (List D × List D)} {l50 : List TDev_write} {c51 : List D} {n52 : Nat} {v54 : Int} {b55 : Bool} {v56 : Int} (hl40 : IsL eZone c38 n39 l37) (hm43 : c42 = encM (eI .i64) eB m41) (hm46 : c45 = encM eAt (eA .u8) m44) (hm49 : c48 = encM eAt (eA .u8) m47) (hl53 : IsL eDev_write c51 n52 l50) (h : m___dev_Device__Crash (TWreck.mk l1 v5 v6) (TDev_Device.mk (TGeom.mk v7 v8 v9 v10 v11) l12 m16 m19 m22 l25 v29 b30 v31) = some (TDev_Device.mk (TGeom.mk v32 v33 v34 v35 v36) l37 m41 m44 m47 l50 v54 b55 v56)) : SpecM Try.prog 21 6 [(0, .box [.d (.int .i64 v7), .d (.int .i64 v8), .d (.int .i64 v9), .d (.int .i64 v10), .d (.int .i64 v11), .own 3 n14 2, .map 1, .map 2, .map 4, .own 5 n27 66, .d (.int .i64 v29), .d (.bool b30), .d (.int .i64 v31)]), (1, .mp false false c17), (2, .mp true true c20), (3, .row c13 2 53), (4, .mp true true c23), (5, .row c26 66 109)] [.ptr 0 0, .agg [.d (.lst c2 n3), .d (.int .u64 v5), .d (.int .i64 v6)]] ⟨.tup [], [(0, .box [.d (.int .i64 v32), .d (.int .i64 v33), .d (.int .i64 v34), .d (.int .i64 v35), .d (.int .i64 v36), .own 6 n39 2, .map 1, .map 2, .map 7, .d .nils, .d (.int .i64 v54), .d (.bool b55), .d (.int .i64 v56)]), (1, .mp false false c42), (2, .mp true true c45), (6, .row c38 2 53), (7, .mp true true c48), (5, .dead), (4, .dead), (3, .dead)], 2, True⟩ := by
  refine specM_b [26, 32] 3 6 Try.func21 rfl rfl rfl rfl rfl rfl fun J P hJ hP => ?_
  dsimp only [m___dev_Device__Crash] at h
  cbv
  refine st_mkm hJ ?_
  cbv
  revert h
  refine st_len hJ hl28 fun v58 ev58 h => ?_
  cbv
  obtain ⟨p60, q59, hp61, hf62, hq63⟩ := bnd_loop h
  clear h
  refine LoopB.mk ({x : Nat × Int × Int × Int × Int × Int × Int × Int × Int × Bool × Int × (List (Int × Bool)) × (List (List D × List D)) × (List (TAt × (Ar 64))) × (List (List D × List D)) × (List (Int × Int)) × (List (List D × List D)) × (List TDev_write) × (List D) × Nat × (List TZone) × (List D) × Nat × (List (TAt × (Ar 64))) × (List (List D × List D)) // x.2.2.2.2.2.2.2.2.2.2.2.2.1 = encM (eI .i64) eB x.2.2.2.2.2.2.2.2.2.2.2.1 ∧ x.2.2.2.2.2.2.2.2.2.2.2.2.2.2.1 = encM eAt (eA .u8) x.2.2.2.2.2.2.2.2.2.2.2.2.2.1 ∧ x.2.2.2.2.2.2.2.2.2.2.2.2.2.2.2.2.1 = encM (eI .i64) (eI .i64) x.2.2.2.2.2.2.2.2.2.2.2.2.2.2.2.1 ∧ IsL eDev_write x.2.2.2.2.2.2.2.2.2.2.2.2.2.2.2.2.2.2.1 x.2.2.2.2.2.2.2.2.2.2.2.2.2.2.2.2.2.2.2.1 x.2.2.2.2.2.2.2.2.2.2.2.2.2.2.2.2.2.1 ∧ IsL eZone x.2.2.2.2.2.2.2.2.2.2.2.2.2.2.2.2.2.2.2.2.2.1 x.2.2.2.2.2.2.2.2.2.2.2.2.2.2.2.2.2.2.2.2.2.2.1 x.2.2.2.2.2.2.2.2.2.2.2.2.2.2.2.2.2.2.2.2.1 ∧ x.2.2.2.2.2.2.2.2.2.2.2.2.2.2.2.2.2.2.2.2.2.2.2.2 = encM eAt (eA .u8) x.2.2.2.2.2.2.2.2.2.2.2.2.2.2.2.2.2.2.2.2.2.2.2.1 ∧ loopN p60 x.1 (x.2.1, x.2.2.1, x.2.2.2.1, x.2.2.2.2.1, x.2.2.2.2.2.1, x.2.2.2.2.2.2.1, x.2.2.2.2.2.2.2.1, x.2.2.2.2.2.2.2.2.1, x.2.2.2.2.2.2.2.2.2.1, x.2.2.2.2.2.2.2.2.2.2.1, x.2.2.2.2.2.2.2.2.2.2.2.1, x.2.2.2.2.2.2.2.2.2.2.2.2.2.1, x.2.2.2.2.2.2.2.2.2.2.2.2.2.2.2.1, x.2.2.2.2.2.2.2.2.2.2.2.2.2.2.2.2.2.1, x.2.2.2.2.2.2.2.2.2.2.2.2.2.2.2.2.2.2.2.2.1, x.2.2.2.2.2.2.2.2.2.2.2.2.2.2.2.2.2.2.2.2.2.2.2.1) = some q59}) (fun x => ⟨[(0, .ptr 0 0), (3, .ptr 3 0), (4, .map 4), (5, .d (.int .i64 x.1.2.1)), (15, .own 5 x.1.2.2.2.2.2.2.2.2.2.2.2.2.2.2.2.2.2.2.2.1 66), (16, .d (.int .i64 v58)), (17, .d (.int .i64 x.1.2.2.1))], [(0, .box [.d (.int .i64 x.1.2.2.2.1), .d (.int .i64 x.1.2.2.2.2.1), .d (.int .i64 x.1.2.2.2.2.2.1), .d (.int .i64 x.1.2.2.2.2.2.2.1), .d (.int .i64 x.1.2.2.2.2.2.2.2.1), .own 6 x.1.2.2.2.2.2.2.2.2.2.2.2.2.2.2.2.2.2.2.2.2.2.2.1 2, .map 1, .map 2, .map 7, .own 5 x.1.2.2.2.2.2.2.2.2.2.2.2.2.2.2.2.2.2.2.2.1 66, .d (.int .i64 x.1.2.2.2.2.2.2.2.2.1), .d (.bool x.1.2.2.2.2.2.2.2.2.2.1), .d (.int .i64 x.1.2.2.2.2.2.2.2.2.2.2.1)]), (1, .mp false false x.1.2.2.2.2.2.2.2.2.2.2.2.2.1), (2, .mp true true x.1.2.2.2.2.2.2.2.2.2.2.2.2.2.2.1), (3, .box [.d (.lst c2 n3), .d (.int .u64 v5), .d (.int .i64 v6)]), (4, .mp false false x.1.2.2.2.2.2.2.2.2.2.2.2.2.2.2.2.2.1), (5, .row x.1.2.2.2.2.2.2.2.2.2.2.2.2.2.2.2.2.2.2.1 66 109), (6, .row x.1.2.2.2.2.2.2.2.2.2.2.2.2.2.2.2.2.2.2.2.2.2.1 2 53), (7, .mp true true x.1.2.2.2.2.2.2.2.2.2.2.2.2.2.2.2.2.2.2.2.2.2.2.2.2)], 8, 97⟩) (fun x => x.1.1) [0, 3, 4, 5, 15, 16, 17] 8 ⟨(FUEL, 0, 0, v7, v8, v9, v10, v11, v29, b30, v31, m16, c17, m19, c20, ([] : List (Int × Int)), [], l25, c26, n27, l12, c13, n14, m22, c23), hm18, hm21, (rfl : [] = encM (eI .i64) (eI .i64) []), hl28, hl15, hm24, hf62⟩ ⟨[(0, 0), (1, 1), (2, 2), (6, 3), (8, 4), (5, 5), (3, 6), (4, 7)], [], ?_⟩ ?_
  · rfl
  · rintro ⟨⟨N66, v69, v70, v71, v72, v73, v74, v75, v76, b77, v78, m79, c80, m82, c83, m85, c86, l88, c89, n90, l92, c93, n94, m96, c97⟩, hm81, hm84, hm87, hl91, hl95, hm98, hr65⟩
    obtain ⟨M67, o64, eN68, h, hr65⟩ := loopN_step hr65
    subst eN68
    rw [hp61] at h
    try dsimp only at h ⊢
    cbv
    revert h
    refine st_cmp hJ fun b99 eb99 h => ?_
    cbv
    cases b99 with
    | true =>
      replace h := cnd_t h
      cbv
      revert h
      refine st_idx_pr hJ hl91 fun y100 k101 hy102 ho103 h => ?_
      obtain ⟨⟨v104, v105⟩, a106⟩ := y100
      obtain ⟨d107, ha108⟩ := nameA .u8 a106
      try dsimp only at h
      cbv
      refine st_ldW hJ eDev_write_len hl91 hy102 ho103 (fun hJ => by subst hJ; rfl) ([.int .i64 v104, .int .i64 v105] ++ (d107 ++ [])) (by rw [(show d107 = encL (eI .u8) a106.l from ha108)]; first | done | rfl | simp [eDev_write, encL_len (k := 1) (eI_len _), Ar.h]) (.int (.int (.big ⟨by rw [(show d107 = encL (eI .u8) a106.l from ha108)]; exact eA_len _ _, by decide⟩ .nil))) rfl ?_
      cbv
      obtain ⟨j110, hj111, h⟩ := jn h
      refine JoinP.mk ({x : Int × Bool × Bool × (List (Int × Int)) × (List (List D × List D)) // x.2.2.2.2 = encM (eI .i64) (eI .i64) x.2.2.2.1 ∧ j110 (x.1, x.2.1, x.2.2.1, x.2.2.2.1) = some o64}) (fun x => ⟨[(0, .ptr 0 0), (3, .ptr 3 0), (4, .map 4), (5, .d (.int .i64 x.1.1)), (6, .d (.int .i64 v70)), (7, .ptr 5 0), (9, .d (.bool x.1.2.1)), (10, .d (.bool x.1.2.2.1)), (15, .own 6 n90 66), (16, .d (.int .i64 v58)), (17, .d (.int .i64 v70))], [(0, .box [.d (.int .i64 v71), .d (.int .i64 v72), .d (.int .i64 v73), .d (.int .i64 v74), .d (.int .i64 v75), .own 7 n94 2, .map 1, .map 2, .map 8, .own 6 n90 66, .d (.int .i64 v76), .d (.bool b77), .d (.int .i64 v78)]), (1, .mp false false c80), (2, .mp true true c83), (3, .box [.d (.lst c2 n3), .d (.int .u64 v5), .d (.int .i64 v6)]), (4, .mp false false x.1.2.2.2.2), (5, .box [.d (.int .i64 v104), .d (.int .i64 v105), .big 64 d107]), (6, .row c89 66 109), (7, .row c93 2 53), (8, .mp true true c97)], 9, 97⟩) (fun _ => True) [0, 3, 4, 5, 6, 7, 9, 10, 15, 16, 17] ?_ ?_
      · cbv
        revert h
        refine st_cmp hJ fun b112 eb112 h => ?_
        cbv
        cases b112 with
        | true =>
          replace h := cnd_t h
          cbv
          revert h
          refine st_div hJ fun v113 zv113 ev113 h => ?_
          cbv
          revert h
          refine st_conv hJ fun v114 ev114 h => ?_
          cbv
          revert h
          refine st_sh hJ fun v115 ev115 h => ?_
          cbv
          revert h
          refine st_bin hJ fun v116 ev116 h => ?_
          cbv
          revert h
          refine st_cmp hJ fun b117 eb117 h => ?_
          cbv
          revert h
          refine st_bin hJ fun v118 ev118 h => ?_
          cbv
          exact ⟨⟨(v118, b117, true, m85, c86), hm87, h⟩, [(0, 0), (1, 1), (2, 2), (3, 3), (4, 4), (12, 5), (5, 6), (6, 7), (7, 8)], 9, [], rfl, trivial⟩
        | false =>
          replace h := cnd_f h
          cbv
          obtain ⟨o113, ho113, h⟩ := letv h
          obtain ⟨y114, hy114, h⟩ := letv h
          obtain ⟨b115, hb115, h⟩ := letv h
          refine st_lk hJ (eI_kinds .i64) hm87 (k := v104) rfl (z := 0) (by rfl) (eI_len .i64) ho113 hy114 hb115 (ds := [.int .i64 y114]) (by rfl) (.int .nil) rfl ?_
          cbv
          obtain ⟨v119, h118, h⟩ := bnd h
          refine callM_by hP (s58 hl4 hl95 hm81 hm84 hm98 hl91 h118) [(0, 0), (6, 1), (1, 2), (2, 3), (7, 4), (5, 5)] false hJ rfl rfl rfl rfl rfl (.inl rfl) ?_
          cbv
          revert h
          refine st_cmp hJ fun b120 eb120 h => ?_
          cbv
          obtain ⟨o121, ho121, h⟩ := letv h
          obtain ⟨y122, hy122, h⟩ := letv h
          obtain ⟨b123, hb123, h⟩ := letv h
          refine st_lk hJ (eI_kinds .i64) hm87 (k := v104) rfl (z := 0) (by rfl) (eI_len .i64) ho121 hy122 hb123 (ds := [.int .i64 y122]) (by rfl) (.int .nil) rfl ?_
          cbv
          obtain ⟨v127, h126, h⟩ := bnd h
          refine callM_by hP (s58 hl4 hl95 hm81 hm84 hm98 hl91 h126) [(0, 0), (6, 1), (1, 2), (2, 3), (7, 4), (5, 5)] false hJ rfl rfl rfl rfl rfl (.inl rfl) ?_
          cbv
          revert h
          refine st_cmp hJ fun b128 eb128 h => ?_
          cbv
          refine ⟨fun _ => by kernel_rfl, ?_⟩
          cbv
          obtain ⟨o129, ho129, h⟩ := letv h
          obtain ⟨y130, hy130, h⟩ := letv h
          obtain ⟨b131, hb131, h⟩ := letv h
          refine st_lk hJ (eI_kinds .i64) hm87 (k := v104) rfl (z := 0) (by rfl) (eI_len .i64) ho129 hy130 hb131 (ds := [.int .i64 y130]) (by rfl) (.int .nil) rfl ?_
          cbv
          revert h
          refine st_bin hJ fun v133 ev133 h => ?_
          cbv
          revert h
          refine st_up hJ (eI_kinds .i64) hm87 (k := v104) rfl (v := v133) (fun hJ => by rfl) fun c135 m134 hm136 h => ?_
          cbv
          exact ⟨⟨(v69, b120, b128, m134, c135), hm136, h⟩, [(0, 0), (1, 1), (2, 2), (3, 3), (4, 4), (12, 5), (5, 6), (6, 7), (7, 8)], 9, [], rfl, trivial⟩
      · rintro ⟨⟨v112, b113, b114, m115, c116⟩, hm117, h⟩ -
        rw [hj111] at h
        try dsimp only at h ⊢
        cbv
        cases b113 with
        | true =>
          replace h := cnd_t h
          cbv
          revert h
          refine st_up hJ eAt_kinds hm84 (k := (TAt.mk v104 v105)) rfl (v := a106) (fun hJ => by rw [(show d107 = encL (eI .u8) a106.l from ha108)]; subst hJ; first | done | rfl | simp [stdJ, std, eA, eA, encL, eI]) fun c119 m118 hm120 h => ?_
          cbv
          refine ⟨fun _ => by kernel_rfl, ?_⟩
          cbv
          revert h
          refine st_bin hJ fun v121 ev121 h => ?_
          cbv
          cases h
          exact ⟨⟨(M67, v112, v121, v71, v72, v73, v74, v75, v76, b77, v78, m79, c80, m118, c119, m115, c116, l88, c89, n90, l92, c93, n94, m96, c97), hm81, hm120, hm117, hl91, hl95, hm98, hr65⟩, [(0, 0), (1, 1), (2, 2), (3, 3), (4, 4), (6, 5), (7, 6), (8, 7)], 8, [], rfl, Nat.lt_succ_self _⟩
        | false =>
          replace h := cnd_f h
          cbv
          obtain ⟨j119, hj120, h⟩ := jn h
          refine JoinP.mk ({x : Bool // j119 (x) = some o64}) (fun x => ⟨[(0, .ptr 0 0), (3, .ptr 3 0), (4, .map 4), (5, .d (.int .i64 v112)), (7, .ptr 5 0), (15, .own 6 n90 66), (16, .d (.int .i64 v58)), (17, .d (.int .i64 v70)), (72, .d (.bool x.1))], [(0, .box [.d (.int .i64 v71), .d (.int .i64 v72), .d (.int .i64 v73), .d (.int .i64 v74), .d (.int .i64 v75), .own 7 n94 2, .map 1, .map 2, .map 8, .own 6 n90 66, .d (.int .i64 v76), .d (.bool b77), .d (.int .i64 v78)]), (1, .mp false false c80), (2, .mp true true c83), (3, .box [.d (.lst c2 n3), .d (.int .u64 v5), .d (.int .i64 v6)]), (4, .mp false false c116), (5, .box [.d (.int .i64 v104), .d (.int .i64 v105), .big 64 d107]), (6, .row c89 66 109), (7, .row c93 2 53), (8, .mp true true c97)], 9, 97⟩) (fun _ => True) [0, 3, 4, 5, 7, 15, 16, 17, 72] ?_ ?_
          · cbv
            revert h
            refine st_len hJ hl91 fun v121 ev121 h => ?_
            cbv
            revert h
            refine st_bin hJ fun v122 ev122 h => ?_
            cbv
            revert h
            refine st_cmp hJ fun b123 eb123 h => ?_
            cbv
            cases b123 with
            | true =>
              replace h := cnd_t h
              cbv
              cases b114 with
              | true =>
                replace h := cnd_t h
                cbv
                revert h
                refine st_cmp hJ fun b124 eb124 h => ?_
                cbv
                exact ⟨⟨(b124), h⟩, [(0, 0), (1, 1), (2, 2), (3, 3), (4, 4), (5, 5), (6, 6), (7, 7), (8, 8)], 9, [], rfl, trivial⟩
              | false =>
                replace h := cnd_f h
                cbv
                exact ⟨⟨(false), h⟩, [(0, 0), (1, 1), (2, 2), (3, 3), (4, 4), (5, 5), (6, 6), (7, 7), (8, 8)], 9, [], rfl, trivial⟩
            | false =>
              replace h := cnd_f h
              cbv
              exact ⟨⟨(false), h⟩, [(0, 0), (1, 1), (2, 2), (3, 3), (4, 4), (5, 5), (6, 6), (7, 7), (8, 8)], 9, [], rfl, trivial⟩
          · rintro ⟨b121, h⟩ -
            rw [hj120] at h
            try dsimp only at h ⊢
            cbv
            cases b121 with
            | true =>
              replace h := cnd_t h
              cbv
              obtain ⟨⟨⟨v124, v125, v126, v127, v128⟩, l129, m133, m136, m139, l142, v146, b147, v148⟩, h123, h⟩ := bnd h
              obtain ⟨c130, n131, hl132⟩ := nameL eZone l129
              obtain ⟨c134, hm135⟩ := nameM (eI .i64) eB m133
              obtain ⟨c137, hm138⟩ := nameM eAt (eA .u8) m136
              obtain ⟨c140, hm141⟩ := nameM eAt (eA .u8) m139
              obtain ⟨c143, n144, hl145⟩ := nameL eDev_write l142
              try dsimp only at h
              obtain ⟨_, h150, h⟩ := bnd h
              obtain rfl := lenq_n h150 hl132 hl95
              obtain ⟨_, h151, h⟩ := bnd h
              obtain rfl := lenq_n h151 hl145 hl91
              refine callM_by hP (s59 ha108 hl95 hm81 hm84 hm98 hl91 hl132 hm135 hm138 hm141 hl145 h123) [(0, 0), (7, 1), (1, 2), (2, 3), (8, 4), (6, 5)] false hJ rfl rfl rfl rfl rfl (.inl rfl) ?_
              cbv
              revert h
              refine st_bin hJ fun v149 ev149 h => ?_
              cbv
              cases h
              exact ⟨⟨(M67, v112, v149, v124, v125, v126, v127, v128, v146, b147, v148, m133, c134, m136, c137, m115, c116, l142, c143, n90, l129, c130, n94, m139, c140), hm135, hm138, hm117, hl145, hl132, hm141, hr65⟩, [(0, 0), (1, 1), (2, 2), (3, 3), (4, 4), (6, 5), (7, 6), (8, 7)], 8, [], rfl, Nat.lt_succ_self _⟩
            | false =>
              replace h := cnd_f h
              cbv
              revert h
              refine st_bin hJ fun v122 ev122 h => ?_
              cbv
              cases h
              exact ⟨⟨(M67, v112, v122, v71, v72, v73, v74, v75, v76, b77, v78, m79, c80, m82, c83, m115, c116, l88, c89, n90, l92, c93, n94, m96, c97), hm81, hm84, hm117, hl91, hl95, hm98, hr65⟩, [(0, 0), (1, 1), (2, 2), (3, 3), (4, 4), (6, 5), (7, 6), (8, 7)], 8, [], rfl, Nat.lt_succ_self _⟩
    | false =>
      replace h := cnd_f h
      cbv
      cases h
      have h := hq63
      obtain rfl := hr65
      try dsimp only at h
      obtain ⟨⟨⟨v102, v103, v104, v105, v106⟩, l107, m111, m114, m117, l120, v124, b125, v126⟩, h101, h⟩ := bnd h
      obtain ⟨c108, n109, hl110⟩ := nameL eZone l107
      obtain ⟨c112, hm113⟩ := nameM (eI .i64) eB m111
      obtain ⟨c115, hm116⟩ := nameM eAt (eA .u8) m114
      obtain ⟨c118, hm119⟩ := nameM eAt (eA .u8) m117
      obtain ⟨c121, n122, hl123⟩ := nameL eDev_write l120
      try dsimp only at h
      refine callM_by hP (s60 hl95 hm81 hm84 hm98 hl91 hl110 hm113 hm116 hm119 hl123 h101) [(0, 0), (1, 1), (2, 2), (6, 3), (7, 4), (5, 5)] false hJ rfl rfl rfl rfl rfl (.inl rfl) ?_
      cbv
      cases h
      obtain ⟨rfl, rfl⟩ := IsL.uniq hl40 hl110
      obtain rfl := hm43.trans (hm113).symm
      obtain rfl := hm46.trans (hm116).symm
      obtain rfl := hm49.trans (hm119).symm
      obtain ⟨rfl, rfl⟩ := IsL.nil hl53
      exact ⟨_, .refl _, [], _, _, [(0, 0), (1, 1), (2, 2), (10, 6), (11, 7)], _, rfl, rfl, rfl, rfl, rfl, rfl⟩
end Go.AX
