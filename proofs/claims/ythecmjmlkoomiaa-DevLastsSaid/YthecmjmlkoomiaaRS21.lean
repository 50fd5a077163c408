/- What functions of the program compute: each is what its Lean function says. -/
import Derived.Test.YthecmjmlkoomiaaRS12
import Derived.Test.YthecmjmlkoomiaaRS4
namespace Go.AX
open Go.Proofs
set_option autoImplicit false
set_option linter.unusedVariables false
set_option maxRecDepth 100000
set_option maxHeartbeats 100000000
set_option linter.unusedSimpArgs false

theorem s60 {v1 : Int} {v2 : Int} {v3 : Int} {v4 : Int} {v5 : Int} {l6 : List TZone} {c7 : List D} {n8 : Nat} {m10 : List (Int × Bool)} {c11 : List (List D × List D)} {m13 : List (TAt × (Ar 64))} {c14 : List (List D × List D)} {m16 : List (TAt × (Ar 64))} {c17 : List (List D × List D)} {l19 : List TDev_write} {c20 : List D} {n21 : Nat} {v23 : Int} {b24 : Bool} {v25 : Int} (hl9 : IsL eZone c7 n8 l6) (hm12 : c11 = encM (eI .i64) eB m10) (hm15 : c14 = encM eAt (eA .u8) m13) (hm18 : c17 = encM eAt (eA .u8) m16) (hl22 : IsL eDev_write c20 n21 l19) {v26 : Int} {v27 : Int} {v28 : Int} {v29 : Int} {v30 : Int} {l31 : List TZone} {c32 : List D} {n33 : Nat} {m35 : List (Int × Bool)} {c36 : List (List D × List D)} {m38 : List (TAt × (Ar 64))} {c39 : List (List D × List D)} {m41 : List (TAt × (Ar 64))} {c42 : List (List D × List D)} {l44 : List TDev_write} {c45 : List D} {n46 : Nat} {v48 : Int} {b49 : Bool} {v50 : Int} (hl34 : IsL eZone c32 n33 l31) (hm37 : c36 = encM (eI .i64) eB m35) (hm40 : c39 = encM eAt (eA .u8) m38) (hm43 : c42 = encM eAt (eA .u8) m41) (hl47 : IsL eDev_write c45 n46 l44) (h : m___dev_Device__wake (TDev_Device.mk (TGeom.mk v1 v2 v3 v4 v5) l6 m10 m13 m16 l19 v23 b24 v25) = some (TDev_Device.mk (TGeom.mk v26 v27 v28 v29 v30) l31 m35 m38 m41 l44 v48 b49 v50)) : SpecM Try.prog 60 6 [(0, .box [.d (.int .i64 v1), .d (.int .i64 v2), .d (.int .i64 v3), .d (.int .i64 v4), .d (.int .i64 v5), .own 3 n8 2, .map 1, .map 2, .map 4, .own 5 n21 66, .d (.int .i64 v23), .d (.bool b24), .d (.int .i64 v25)]), (1, .mp false false c11), (2, .mp true true c14), (3, .row c7 2 53), (4, .mp true true c17), (5, .row c20 66 109)] [.ptr 0 0] ⟨.tup [], [(0, .box [.d (.int .i64 v26), .d (.int .i64 v27), .d (.int .i64 v28), .d (.int .i64 v29), .d (.int .i64 v30), .own 6 n33 2, .map 1, .map 2, .map 7, .d .nils, .d (.int .i64 v48), .d (.bool b49), .d (.int .i64 v50)]), (1, .mp false false c36), (2, .mp true true c39), (6, .row c32 2 53), (7, .mp true true c42), (5, .dead), (4, .dead), (3, .dead)], 2, True⟩ := by
  refine specM_b [18] 3 6 Try.func60 rfl rfl rfl rfl rfl rfl fun J P hJ hP => ?_
  dsimp only [m___dev_Device__wake] at h
  cbv
  obtain ⟨l54, h53, h⟩ := bnd h
  obtain ⟨c55, n56, hl57⟩ := nameL eZone l54
  refine snap_by hP (s89 hl9 hl57 h53) hJ (by cbv) rfl ⟨trivial, ⟨noL_enc hl57 eZone_noL, trivial⟩⟩ ?_
  cbv
  obtain ⟨p59, q58, hp60, hf61, hq62⟩ := bnd_loop h
  clear h
  refine LoopB.mk ({x : Nat × Int × (List TZone) × (List D) × Nat // IsL eZone x.2.2.2.1 x.2.2.2.2 x.2.2.1 ∧ loopN p59 x.1 (x.2.1, x.2.2.1) = some q58}) (fun x => ⟨[(0, .ptr 0 0), (2, .d (.int .i64 x.1.2.1))], [(0, .box [.d (.int .i64 v1), .d (.int .i64 v2), .d (.int .i64 v3), .d (.int .i64 v4), .d (.int .i64 v5), .own 3 x.1.2.2.2.2 2, .map 1, .map 2, .map 4, .own 5 n21 66, .d (.int .i64 v23), .d (.bool b24), .d (.int .i64 v25)]), (1, .mp false false c11), (2, .mp true true c14), (3, .row x.1.2.2.2.1 2 53), (4, .mp true true c17), (5, .row c20 66 109)], 6, 102⟩) (fun x => x.1.1) [0, 2] 6 ⟨(FUEL, v1, l54, c55, n56), hl57, hf61⟩ ⟨[(0, 0), (1, 1), (2, 2), (11, 3), (4, 4), (5, 5)], [], ?_⟩ ?_
  · rfl
  · rintro ⟨⟨N65, v68, l69, c70, n71⟩, hl72, hr64⟩
    obtain ⟨M66, o63, eN67, h, hr64⟩ := loopN_step hr64
    subst eN67
    rw [hp60] at h
    try dsimp only at h ⊢
    cbv
    revert h
    refine st_len hJ hl72 fun v73 ev73 h => ?_
    cbv
    revert h
    refine st_cmp hJ fun b74 eb74 h => ?_
    cbv
    cases b74 with
    | true =>
      replace h := cnd_t h
      cbv
      obtain ⟨j76, hj77, h⟩ := jn h
      refine JoinP.mk ({x : Int // j76 (x) = some o63}) (fun x => ⟨[(0, .ptr 0 0), (2, .d (.int .i64 v68)), (3, .d (.int .i64 x.1))], [(0, .box [.d (.int .i64 v1), .d (.int .i64 v2), .d (.int .i64 v3), .d (.int .i64 v4), .d (.int .i64 v5), .own 3 n71 2, .map 1, .map 2, .map 4, .own 5 n21 66, .d (.int .i64 v23), .d (.bool b24), .d (.int .i64 v25)]), (1, .mp false false c11), (2, .mp true true c14), (3, .row c70 2 53), (4, .mp true true c17), (5, .row c20 66 109)], 6, 102⟩) (fun _ => True) [0, 2, 3] ?_ ?_
      · cbv
        obtain ⟨p79, q78, hp80, hf81, hq82⟩ := bnd_loop h
        clear h
        refine LoopB.mk ({x : Nat × Int // loopN p79 x.1 (x.2) = some q78}) (fun x => ⟨[(0, .ptr 0 0), (2, .d (.int .i64 v68)), (3, .d (.int .i64 x.1.2))], [(0, .box [.d (.int .i64 v1), .d (.int .i64 v2), .d (.int .i64 v3), .d (.int .i64 v4), .d (.int .i64 v5), .own 3 n71 2, .map 1, .map 2, .map 4, .own 5 n21 66, .d (.int .i64 v23), .d (.bool b24), .d (.int .i64 v25)]), (1, .mp false false c11), (2, .mp true true c14), (3, .row c70 2 53), (4, .mp true true c17), (5, .row c20 66 109)], 6, 102⟩) (fun x => x.1.1) [0, 2, 3] 6 ⟨(FUEL, 0), hf81⟩ ⟨[(0, 0), (1, 1), (2, 2), (3, 3), (4, 4), (5, 5)], [], ?_⟩ ?_
        · rfl
        · rintro ⟨⟨N85, v88⟩, hr84⟩
          obtain ⟨M86, o83, eN87, h, hr84⟩ := loopN_step hr84
          subst eN87
          rw [hp80] at h
          try dsimp only at h ⊢
          cbv
          revert h
          refine st_cmp hJ fun b89 eb89 h => ?_
          cbv
          cases b89 with
          | true =>
            replace h := cnd_t h
            cbv
            obtain ⟨o90, ho90, h⟩ := letv h
            obtain ⟨y91, hy91, h⟩ := letv h
            obtain ⟨b92, hb92, h⟩ := letv h
            obtain ⟨d94, ha95⟩ := nameA .u8 y91
            refine st_lk hJ eAt_kinds hm15 (k := (TAt.mk v68 v88)) rfl (z := (Ar.zero 64)) (by rfl) (eA_len .u8) ho90 hy91 hb92 (ds := d94 ++ []) (by rw [(show d94 = encL (eI .u8) y91.l from ha95)]; first | done | rfl | simp [eA, encL, eI]) (.big ⟨by rw [(show d94 = encL (eI .u8) y91.l from ha95)]; exact eA_len _ _, by decide⟩ .nil) rfl ?_
            cbv
            revert h
            refine st_not hJ fun b96 eb96 h => ?_
            cbv
            cases b96 with
            | true =>
              replace h := cnd_t h
              cbv
              cases h
              have h := hq82
              obtain rfl := hr84
              try dsimp only at h
              exact ⟨⟨(v88), h⟩, [(0, 0), (1, 1), (2, 2), (3, 3), (4, 4), (5, 5)], 6, [], rfl, trivial⟩
            | false =>
              replace h := cnd_f h
              cbv
              revert h
              refine st_bin hJ fun v97 ev97 h => ?_
              cbv
              cases h
              exact ⟨⟨(M86, v97), hr84⟩, [(0, 0), (1, 1), (2, 2), (3, 3), (4, 4), (5, 5)], 6, [], rfl, Nat.lt_succ_self _⟩
          | false =>
            replace h := cnd_f h
            cbv
            cases h
            have h := hq82
            obtain rfl := hr84
            try dsimp only at h
            exact ⟨⟨(v88), h⟩, [(0, 0), (1, 1), (2, 2), (3, 3), (4, 4), (5, 5)], 6, [], rfl, trivial⟩
      · rintro ⟨v78, h⟩ -
        rw [hj77] at h
        try dsimp only at h ⊢
        cbv
        revert h
        refine st_idx_pr hJ hl72 fun y79 k80 hy81 ho82 h => ?_
        obtain ⟨v83, v84⟩ := y79
        try dsimp only at h
        cbv
        revert h
        refine st_st hJ eZone_len hl72 hy81 ho82 1 (fun hJ => by subst hJ; rfl) rfl (Nat.le_of_ble_eq_true rfl) (TZone.mk v83 v78) rfl fun c86 l85 hl87 h => ?_
        cbv
        obtain ⟨o88, ho88, h⟩ := letv h
        obtain ⟨y89, hy89, h⟩ := letv h
        obtain ⟨b90, hb90, h⟩ := letv h
        refine st_lk hJ (eI_kinds .i64) hm12 (k := v68) rfl (z := false) (by rfl) eB_len ho88 hy89 hb90 (ds := [.bool y89]) (by rfl) (.bool .nil) rfl ?_
        cbv
        cases y89 with
        | true =>
          replace h := cnd_t h
          cbv
          revert h
          refine st_bin hJ fun v92 ev92 h => ?_
          cbv
          cases h
          exact ⟨⟨(M66, v92, l85, c86, n71), hl87, hr64⟩, [(0, 0), (1, 1), (2, 2), (3, 3), (4, 4), (5, 5)], 6, [], rfl, Nat.lt_succ_self _⟩
        | false =>
          replace h := cnd_f h
          cbv
          revert h
          refine st_cmp hJ fun b92 eb92 h => ?_
          cbv
          cases b92 with
          | true =>
            replace h := cnd_t h
            cbv
            obtain ⟨y93, hy94, h⟩ := bnd h
            obtain ⟨v95, v96⟩ := y93
            try dsimp only at h
            revert h
            refine st_st hJ eZone_len hl87 hy94 ho82 0 (fun hJ => by subst hJ; rfl) rfl (Nat.le_of_ble_eq_true rfl) (TZone.mk 0 v96) rfl fun c98 l97 hl99 h => ?_
            cbv
            revert h
            refine st_bin hJ fun v100 ev100 h => ?_
            cbv
            cases h
            exact ⟨⟨(M66, v100, l97, c98, n71), hl99, hr64⟩, [(0, 0), (1, 1), (2, 2), (3, 3), (4, 4), (5, 5)], 6, [], rfl, Nat.lt_succ_self _⟩
          | false =>
            replace h := cnd_f h
            cbv
            revert h
            refine st_cmp hJ fun b93 eb93 h => ?_
            cbv
            cases b93 with
            | true =>
              replace h := cnd_t h
              cbv
              obtain ⟨y94, hy95, h⟩ := bnd h
              obtain ⟨v96, v97⟩ := y94
              try dsimp only at h
              revert h
              refine st_st hJ eZone_len hl87 hy95 ho82 0 (fun hJ => by subst hJ; rfl) rfl (Nat.le_of_ble_eq_true rfl) (TZone.mk 2 v97) rfl fun c99 l98 hl100 h => ?_
              cbv
              revert h
              refine st_bin hJ fun v101 ev101 h => ?_
              cbv
              cases h
              exact ⟨⟨(M66, v101, l98, c99, n71), hl100, hr64⟩, [(0, 0), (1, 1), (2, 2), (3, 3), (4, 4), (5, 5)], 6, [], rfl, Nat.lt_succ_self _⟩
            | false =>
              replace h := cnd_f h
              cbv
              revert h
              refine st_bin hJ fun v94 ev94 h => ?_
              cbv
              cases h
              exact ⟨⟨(M66, v94, l85, c86, n71), hl87, hr64⟩, [(0, 0), (1, 1), (2, 2), (3, 3), (4, 4), (5, 5)], 6, [], rfl, Nat.lt_succ_self _⟩
    | false =>
      replace h := cnd_f h
      cbv
      cases h
      have h := hq62
      obtain rfl := hr64
      try dsimp only at h
      refine callM_by hP (s69 true true _) [(2, 0)] false hJ rfl rfl rfl rfl rfl (.inl rfl) ?_
      cbv
      cases h
      obtain ⟨rfl, rfl⟩ := IsL.uniq hl34 hl72
      obtain rfl := hm37.trans (hm12).symm
      obtain rfl := hm40.trans (hm15).symm
      obtain rfl := hm43.trans (hm15).symm
      obtain ⟨rfl, rfl⟩ := IsL.nil hl47
      exact ⟨_, .refl _, [], _, _, [(0, 0), (1, 1), (2, 2), (3, 6), (18, 7)], _, rfl, rfl, rfl, rfl, rfl, rfl⟩
end Go.AX
