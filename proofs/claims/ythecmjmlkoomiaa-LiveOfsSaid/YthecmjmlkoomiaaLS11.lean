/- What functions of the program compute: each is what its Lean function says. -/
import Derived.Test.YthecmjmlkoomiaaLS1
import Derived.Test.YthecmjmlkoomiaaLS5
namespace Go.AX
open Go.Proofs
set_option autoImplicit false
set_option linter.unusedVariables false
set_option maxRecDepth 100000
set_option maxHeartbeats 100000000
set_option linter.unusedSimpArgs false

theorem s38l {v1 : Int} {v2 : Int} {v3 : Int} {v4 : Int} {v5 : Int} {l6 : List Int} {c7 : List D} {n8 : Nat} (hl9 : IsL (eI .i64) c7 n8 l6)   (h : m_live_Of_l (TGeom.mk v1 v2 v3 v4 v5) l6 = some ()) : SpecM Try.prog 38 0 [] [.agg [.d (.int .i64 v1), .d (.int .i64 v2), .d (.int .i64 v3), .d (.int .i64 v4), .d (.int .i64 v5)], .d (.lst c7 n8)] ⟨.tup [.d (.lit (.pointer none)), .d (.bool false)], [], 0, True⟩ := by
  replace h := prjL_eq h
  refine specM_b [] 0 0 Try.func38 rfl rfl rfl rfl rfl rfl fun J P hJ hP => ?_
  dsimp only [m_live_Of] at h
  cbv
  obtain ⟨⟨⟨v13, v14, v15, v16, v17⟩, m18, m21⟩, h12, h⟩ := bnd h
  obtain ⟨c19, hm20⟩ := nameM eAt (eI .i64) m18
  obtain ⟨c22, hm23⟩ := nameM (eI .i64) (eI .i64) m21
  try dsimp only at h
  refine callM_by hP (s30 hm20 hm23 h12) [] false hJ rfl rfl rfl rfl rfl (.inl rfl) ?_
  cbv
  revert h
  refine st_len hJ hl9 fun v24 ev24 h => ?_
  cbv
  obtain ⟨p26, q25, hp27, hf28, hq29⟩ := bnd_loop h
  clear h
  refine LoopB.mk ({x : Nat × Int × Int × Int × Int × Int × Int × (List (TAt × Int)) × (List (List D × List D)) × (List (Int × Int)) × (List (List D × List D)) // x.2.2.2.2.2.2.2.2.1 = encM eAt (eI .i64) x.2.2.2.2.2.2.2.1 ∧ x.2.2.2.2.2.2.2.2.2.2 = encM (eI .i64) (eI .i64) x.2.2.2.2.2.2.2.2.2.1 ∧ loopN p26 x.1 (x.2.1, x.2.2.1, x.2.2.2.1, x.2.2.2.2.1, x.2.2.2.2.2.1, x.2.2.2.2.2.2.1, x.2.2.2.2.2.2.2.1, x.2.2.2.2.2.2.2.2.2.1) = some q25}) (fun x => ⟨[(6, .ptr 0 0), (11, .d (.lst c7 n8)), (12, .d (.int .i64 v24)), (13, .d (.int .i64 x.1.2.1))], [(0, .box [.d (.int .i64 x.1.2.2.1), .d (.int .i64 x.1.2.2.2.1), .d (.int .i64 x.1.2.2.2.2.1), .d (.int .i64 x.1.2.2.2.2.2.1), .d (.int .i64 x.1.2.2.2.2.2.2.1), .map 1, .map 2]), (1, .mp true false x.1.2.2.2.2.2.2.2.2.1), (2, .mp false false x.1.2.2.2.2.2.2.2.2.2.2)], 3, 29⟩) (fun x => x.1.1) [6, 11, 12, 13] 3 ⟨(FUEL, 0, v13, v14, v15, v16, v17, m18, c19, m21, c22), hm20, hm23, hf28⟩ ⟨[(5, 0), (6, 1), (7, 2)], [], ?_⟩ ?_
  · rfl
  · rintro ⟨⟨N32, v35, v36, v37, v38, v39, v40, m41, c42, m44, c45⟩, hm43, hm46, hr31⟩
    obtain ⟨M33, o30, eN34, h, hr31⟩ := loopN_step hr31
    subst eN34
    rw [hp27] at h
    try dsimp only at h ⊢
    cbv
    revert h
    refine st_cmp hJ fun b47 eb47 h => ?_
    cbv
    cases b47 with
    | true =>
      replace h := cnd_t h
      cbv
      revert h
      refine st_idx_lp hJ hl9 fun y48 k49 hy50 ho51 h => ?_
      cbv
      refine st_ld hJ (eI_len .i64) hl9 hy50 ho51 0 (fun hJ => by subst hJ; rfl) ([.int .i64 y48]) (Nat.le_of_ble_eq_true rfl) rfl (.int .nil) rfl ?_
      cbv
      revert h
      refine st_cmp hJ fun b53 eb53 h => ?_
      cbv
      cases b53 with
      | true =>
        replace h := cnd_t h
        cbv
        obtain ⟨⟨b56, ⟨⟨v57, v58, v59, v60, v61⟩, m62, m65⟩⟩, h55, h⟩ := bnd h
        obtain ⟨c63, hm64⟩ := nameM eAt (eI .i64) m62
        obtain ⟨c66, hm67⟩ := nameM (eI .i64) (eI .i64) m65
        try dsimp only at h
        refine callM_by hP (s33 hm43 hm46 hm64 hm67 h55) [(0, 0), (1, 1), (2, 2)] false hJ rfl rfl rfl rfl rfl (.inl rfl) ?_
        cbv
        revert h
        refine st_not hJ fun b68 eb68 h => ?_
        cbv
        cases b68 with
        | true =>
          replace h := cnd_t h
          cbv
          cases h
          have h := hq29
          obtain rfl := hr31
          try dsimp only at h
          cases h
          exact ⟨_, .refl _, [], _, _, [], _, rfl, rfl, rfl, rfl, rfl, rfl⟩
        | false =>
          replace h := cnd_f h
          cbv
          revert h
          refine st_bin hJ fun v69 ev69 h => ?_
          cbv
          cases h
          exact ⟨⟨(M33, v69, v57, v58, v59, v60, v61, m62, c63, m65, c66), hm64, hm67, hr31⟩, [(0, 0), (1, 1), (2, 2)], 3, [], rfl, Nat.lt_succ_self _⟩
      | false =>
        replace h := cnd_f h
        cbv
        revert h
        refine st_bin hJ fun v54 ev54 h => ?_
        cbv
        cases h
        exact ⟨⟨(M33, v54, v36, v37, v38, v39, v40, m41, c42, m44, c45), hm43, hm46, hr31⟩, [(0, 0), (1, 1), (2, 2)], 3, [], rfl, Nat.lt_succ_self _⟩
    | false =>
      replace h := cnd_f h
      cbv
      cases h
      have h := hq29
      obtain rfl := hr31
      try dsimp only at h
      cases h
theorem s38r {v1 : Int} {v2 : Int} {v3 : Int} {v4 : Int} {v5 : Int} {l6 : List Int} {c7 : List D} {n8 : Nat} (hl9 : IsL (eI .i64) c7 n8 l6) {v10 : Int} {v11 : Int} {v12 : Int} {v13 : Int} {v14 : Int} {m15 : List (TAt × Int)} {c16 : List (List D × List D)} {m18 : List (Int × Int)} {c19 : List (List D × List D)} (hm17 : c16 = encM eAt (eI .i64) m15) (hm20 : c19 = encM (eI .i64) (eI .i64) m18) (h : m_live_Of_r (TGeom.mk v1 v2 v3 v4 v5) l6 = some (TLive_Live.mk (TGeom.mk v10 v11 v12 v13 v14) m15 m18)) : SpecM Try.prog 38 0 [] [.agg [.d (.int .i64 v1), .d (.int .i64 v2), .d (.int .i64 v3), .d (.int .i64 v4), .d (.int .i64 v5)], .d (.lst c7 n8)] ⟨.tup [.ptr 0 0, .d (.bool true)], [(0, .box [.d (.int .i64 v10), .d (.int .i64 v11), .d (.int .i64 v12), .d (.int .i64 v13), .d (.int .i64 v14), .map 1, .map 2]), (1, .mp true false c16), (2, .mp false false c19)], 3, True⟩ := by
  replace h := prjR_eq h
  refine specM_b [] 0 0 Try.func38 rfl rfl rfl rfl rfl rfl fun J P hJ hP => ?_
  dsimp only [m_live_Of] at h
  cbv
  obtain ⟨⟨⟨v24, v25, v26, v27, v28⟩, m29, m32⟩, h23, h⟩ := bnd h
  obtain ⟨c30, hm31⟩ := nameM eAt (eI .i64) m29
  obtain ⟨c33, hm34⟩ := nameM (eI .i64) (eI .i64) m32
  try dsimp only at h
  refine callM_by hP (s30 hm31 hm34 h23) [] false hJ rfl rfl rfl rfl rfl (.inl rfl) ?_
  cbv
  revert h
  refine st_len hJ hl9 fun v35 ev35 h => ?_
  cbv
  obtain ⟨p37, q36, hp38, hf39, hq40⟩ := bnd_loop h
  clear h
  refine LoopB.mk ({x : Nat × Int × Int × Int × Int × Int × Int × (List (TAt × Int)) × (List (List D × List D)) × (List (Int × Int)) × (List (List D × List D)) // x.2.2.2.2.2.2.2.2.1 = encM eAt (eI .i64) x.2.2.2.2.2.2.2.1 ∧ x.2.2.2.2.2.2.2.2.2.2 = encM (eI .i64) (eI .i64) x.2.2.2.2.2.2.2.2.2.1 ∧ loopN p37 x.1 (x.2.1, x.2.2.1, x.2.2.2.1, x.2.2.2.2.1, x.2.2.2.2.2.1, x.2.2.2.2.2.2.1, x.2.2.2.2.2.2.2.1, x.2.2.2.2.2.2.2.2.2.1) = some q36}) (fun x => ⟨[(6, .ptr 0 0), (11, .d (.lst c7 n8)), (12, .d (.int .i64 v35)), (13, .d (.int .i64 x.1.2.1))], [(0, .box [.d (.int .i64 x.1.2.2.1), .d (.int .i64 x.1.2.2.2.1), .d (.int .i64 x.1.2.2.2.2.1), .d (.int .i64 x.1.2.2.2.2.2.1), .d (.int .i64 x.1.2.2.2.2.2.2.1), .map 1, .map 2]), (1, .mp true false x.1.2.2.2.2.2.2.2.2.1), (2, .mp false false x.1.2.2.2.2.2.2.2.2.2.2)], 3, 29⟩) (fun x => x.1.1) [6, 11, 12, 13] 3 ⟨(FUEL, 0, v24, v25, v26, v27, v28, m29, c30, m32, c33), hm31, hm34, hf39⟩ ⟨[(5, 0), (6, 1), (7, 2)], [], ?_⟩ ?_
  · rfl
  · rintro ⟨⟨N43, v46, v47, v48, v49, v50, v51, m52, c53, m55, c56⟩, hm54, hm57, hr42⟩
    obtain ⟨M44, o41, eN45, h, hr42⟩ := loopN_step hr42
    subst eN45
    rw [hp38] at h
    try dsimp only at h ⊢
    cbv
    revert h
    refine st_cmp hJ fun b58 eb58 h => ?_
    cbv
    cases b58 with
    | true =>
      replace h := cnd_t h
      cbv
      revert h
      refine st_idx_lp hJ hl9 fun y59 k60 hy61 ho62 h => ?_
      cbv
      refine st_ld hJ (eI_len .i64) hl9 hy61 ho62 0 (fun hJ => by subst hJ; rfl) ([.int .i64 y59]) (Nat.le_of_ble_eq_true rfl) rfl (.int .nil) rfl ?_
      cbv
      revert h
      refine st_cmp hJ fun b64 eb64 h => ?_
      cbv
      cases b64 with
      | true =>
        replace h := cnd_t h
        cbv
        obtain ⟨⟨b67, ⟨⟨v68, v69, v70, v71, v72⟩, m73, m76⟩⟩, h66, h⟩ := bnd h
        obtain ⟨c74, hm75⟩ := nameM eAt (eI .i64) m73
        obtain ⟨c77, hm78⟩ := nameM (eI .i64) (eI .i64) m76
        try dsimp only at h
        refine callM_by hP (s33 hm54 hm57 hm75 hm78 h66) [(0, 0), (1, 1), (2, 2)] false hJ rfl rfl rfl rfl rfl (.inl rfl) ?_
        cbv
        revert h
        refine st_not hJ fun b79 eb79 h => ?_
        cbv
        cases b79 with
        | true =>
          replace h := cnd_t h
          cbv
          cases h
          have h := hq40
          obtain rfl := hr42
          try dsimp only at h
          cases h
        | false =>
          replace h := cnd_f h
          cbv
          revert h
          refine st_bin hJ fun v80 ev80 h => ?_
          cbv
          cases h
          exact ⟨⟨(M44, v80, v68, v69, v70, v71, v72, m73, c74, m76, c77), hm75, hm78, hr42⟩, [(0, 0), (1, 1), (2, 2)], 3, [], rfl, Nat.lt_succ_self _⟩
      | false =>
        replace h := cnd_f h
        cbv
        revert h
        refine st_bin hJ fun v65 ev65 h => ?_
        cbv
        cases h
        exact ⟨⟨(M44, v65, v47, v48, v49, v50, v51, m52, c53, m55, c56), hm54, hm57, hr42⟩, [(0, 0), (1, 1), (2, 2)], 3, [], rfl, Nat.lt_succ_self _⟩
    | false =>
      replace h := cnd_f h
      cbv
      cases h
      have h := hq40
      obtain rfl := hr42
      try dsimp only at h
      cases h
      obtain rfl := hm17.trans (hm54).symm
      obtain rfl := hm20.trans (hm57).symm
      exact ⟨_, .refl _, [], _, _, [(0, 0), (1, 1), (2, 2)], _, rfl, rfl, rfl, rfl, rfl, rfl⟩
end Go.AX
