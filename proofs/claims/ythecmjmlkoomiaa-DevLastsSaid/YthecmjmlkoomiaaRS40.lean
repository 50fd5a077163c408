/- What functions of the program compute: each is what its Lean function says. -/
import Derived.Test.YthecmjmlkoomiaaRS28
import Derived.Test.YthecmjmlkoomiaaRS31
import Derived.Test.YthecmjmlkoomiaaRS37
import Derived.Test.YthecmjmlkoomiaaRS38
import Derived.Test.YthecmjmlkoomiaaRS5
namespace Go.AX
open Go.Proofs
set_option autoImplicit false
set_option linter.unusedVariables false
set_option maxRecDepth 100000
set_option maxHeartbeats 100000000
set_option linter.unusedSimpArgs false

theorem s15 {v1 : Int} {v2 : Int} {v3 : Int} {a4 : Ar 64} {d5 : List D} {v7 : Int} {l8 : List Int} {c9 : List D} {n10 : Nat} {v12 : Int} {v13 : Int} {v14 : Int} {v15 : Int} {v16 : Int} {v17 : Int} {v18 : Int} {l19 : List TZone} {c20 : List D} {n21 : Nat} {m23 : List (Int × Bool)} {c24 : List (List D × List D)} {m26 : List (TAt × (Ar 64))} {c27 : List (List D × List D)} {m29 : List (TAt × (Ar 64))} {c30 : List (List D × List D)} {l32 : List TDev_write} {c33 : List D} {n34 : Nat} {v36 : Int} {b37 : Bool} {v38 : Int} (ha6 : d5 = encL (eI .u8) a4.l) (hl11 : IsL (eI .i64) c9 n10 l8) (hl22 : IsL eZone c20 n21 l19) (hm25 : c24 = encM (eI .i64) eB m23) (hm28 : c27 = encM eAt (eA .u8) m26) (hm31 : c30 = encM eAt (eA .u8) m29) (hl35 : IsL eDev_write c33 n34 l32) {v39 : Int} {v40 : Int} {v41 : Int} {v42 : Int} {v43 : Int} {v44 : Int} {l45 : List TZone} {c46 : List D} {n47 : Nat} {m49 : List (Int × Bool)} {c50 : List (List D × List D)} {m52 : List (TAt × (Ar 64))} {c53 : List (List D × List D)} {m55 : List (TAt × (Ar 64))} {c56 : List (List D × List D)} {l58 : List TDev_write} {c59 : List D} {n60 : Nat} {v62 : Int} {b63 : Bool} {v64 : Int} (hl48 : IsL eZone c46 n47 l45) (hm51 : c50 = encM (eI .i64) eB m49) (hm54 : c53 = encM eAt (eA .u8) m52) (hm57 : c56 = encM eAt (eA .u8) m55) (hl61 : IsL eDev_write c59 n60 l58) (h : m_ref05_Play (TRef05_Act.mk v1 (TAt.mk v2 v3) a4 v7 (TWreck.mk l8 v12 v13)) (TDev_Device.mk (TGeom.mk v14 v15 v16 v17 v18) l19 m23 m26 m29 l32 v36 b37 v38) = some (v39, (TDev_Device.mk (TGeom.mk v40 v41 v42 v43 v44) l45 m49 m52 m55 l58 v62 b63 v64))) : SpecM Try.prog 15 6 [(0, .box [.d (.int .i64 v14), .d (.int .i64 v15), .d (.int .i64 v16), .d (.int .i64 v17), .d (.int .i64 v18), .own 3 n21 2, .map 1, .map 2, .map 4, .own 5 n34 66, .d (.int .i64 v36), .d (.bool b37), .d (.int .i64 v38)]), (1, .mp false false c24), (2, .mp true true c27), (3, .row c20 2 53), (4, .mp true true c30), (5, .row c33 66 109)] [.ptr 0 0, .agg [.d (.int .u8 v1), .d (.int .i64 v2), .d (.int .i64 v3), .big 64 d5, .d (.int .i64 v7), .d (.lst c9 n10), .d (.int .u64 v12), .d (.int .i64 v13)]] ⟨.d (.int .i64 v39), [(0, .box [.d (.int .i64 v40), .d (.int .i64 v41), .d (.int .i64 v42), .d (.int .i64 v43), .d (.int .i64 v44), .own 6 n47 2, .map 1, .map 2, .map 7, .own 8 n60 66, .d (.int .i64 v62), .d (.bool b63), .d (.int .i64 v64)]), (1, .mp false false c50), (2, .mp true true c53), (6, .row c46 2 53), (7, .mp true true c56), (8, .row c59 66 109), (5, .dead), (4, .dead), (3, .dead)], 3, True⟩ := by
  refine specM_b [] 3 6 Try.func15 rfl rfl rfl rfl rfl rfl fun J P hJ hP => ?_
  dsimp only [m_ref05_Play] at h
  cbv
  revert h
  refine st_div hJ fun v66 zv66 ev66 h => ?_
  cbv
  revert h
  refine st_conv hJ fun v67 ev67 h => ?_
  cbv
  revert h
  refine st_cmp hJ fun b68 eb68 h => ?_
  cbv
  cases b68 with
  | true =>
    replace h := cnd_t h
    cbv
    obtain ⟨⟨v71, ⟨⟨v72, v73, v74, v75, v76⟩, l77, m81, m84, m87, l90, v94, b95, v96⟩⟩, h70, h⟩ := bnd h
    obtain ⟨c78, n79, hl80⟩ := nameL eZone l77
    obtain ⟨c82, hm83⟩ := nameM (eI .i64) eB m81
    obtain ⟨c85, hm86⟩ := nameM eAt (eA .u8) m84
    obtain ⟨c88, hm89⟩ := nameM eAt (eA .u8) m87
    obtain ⟨c91, n92, hl93⟩ := nameL eDev_write l90
    try dsimp only at h
    refine callM_by hP (s46 hl22 hm25 hm28 hm31 hl35 hl80 hm83 hm86 hm89 hl93 h70) [(0, 0), (1, 1), (2, 2), (4, 3), (3, 4), (5, 5)] false hJ rfl rfl rfl rfl rfl (.inl rfl) ?_
    cbv
    cases h
    obtain ⟨rfl, rfl⟩ := IsL.uniq hl48 hl80
    obtain rfl := hm51.trans (hm83).symm
    obtain rfl := hm54.trans (hm86).symm
    obtain rfl := hm57.trans (hm89).symm
    obtain ⟨rfl, rfl⟩ := IsL.uniq hl61 hl93
    exact ⟨_, .refl _, [], _, _, [(0, 0), (1, 1), (2, 2), (19, 6), (4, 7), (20, 8)], _, rfl, rfl, rfl, rfl, rfl, rfl⟩
  | false =>
    replace h := cnd_f h
    cbv
    revert h
    refine st_cmp hJ fun b69 eb69 h => ?_
    cbv
    cases b69 with
    | true =>
      replace h := cnd_t h
      cbv
      obtain ⟨⟨v72, ⟨⟨v73, v74, v75, v76, v77⟩, l78, m82, m85, m88, l91, v95, b96, v97⟩⟩, h71, h⟩ := bnd h
      obtain ⟨c79, n80, hl81⟩ := nameL eZone l78
      obtain ⟨c83, hm84⟩ := nameM (eI .i64) eB m82
      obtain ⟨c86, hm87⟩ := nameM eAt (eA .u8) m85
      obtain ⟨c89, hm90⟩ := nameM eAt (eA .u8) m88
      obtain ⟨c92, n93, hl94⟩ := nameL eDev_write l91
      try dsimp only at h
      refine callM_by hP (s47 hl22 hm25 hm28 hm31 hl35 hl81 hm84 hm87 hm90 hl94 h71) [(0, 0), (1, 1), (2, 2), (4, 3), (3, 4), (5, 5)] false hJ rfl rfl rfl rfl rfl (.inl rfl) ?_
      cbv
      cases h
      obtain ⟨rfl, rfl⟩ := IsL.uniq hl48 hl81
      obtain rfl := hm51.trans (hm84).symm
      obtain rfl := hm54.trans (hm87).symm
      obtain rfl := hm57.trans (hm90).symm
      obtain ⟨rfl, rfl⟩ := IsL.uniq hl61 hl94
      exact ⟨_, .refl _, [], _, _, [(0, 0), (1, 1), (2, 2), (21, 6), (4, 7), (22, 8)], _, rfl, rfl, rfl, rfl, rfl, rfl⟩
    | false =>
      replace h := cnd_f h
      cbv
      revert h
      refine st_cmp hJ fun b70 eb70 h => ?_
      cbv
      cases b70 with
      | true =>
        replace h := cnd_t h
        cbv
        obtain ⟨⟨v73, ⟨⟨v74, v75, v76, v77, v78⟩, l79, m83, m86, m89, l92, v96, b97, v98⟩⟩, h72, h⟩ := bnd h
        obtain ⟨c80, n81, hl82⟩ := nameL eZone l79
        obtain ⟨c84, hm85⟩ := nameM (eI .i64) eB m83
        obtain ⟨c87, hm88⟩ := nameM eAt (eA .u8) m86
        obtain ⟨c90, hm91⟩ := nameM eAt (eA .u8) m89
        obtain ⟨c93, n94, hl95⟩ := nameL eDev_write l92
        try dsimp only at h
        obtain ⟨_, h99, h⟩ := bnd h
        obtain rfl := lenq_n h99 hl82 hl22
        refine callM_by hP (s18 hl22 hm25 hm28 hm31 hl35 hl82 hm85 hm88 hm91 hl95 h72) [(0, 0), (3, 1), (1, 2), (2, 3), (4, 4), (5, 5)] false hJ rfl rfl rfl rfl rfl (.inl rfl) ?_
        cbv
        cases h
        obtain ⟨rfl, rfl⟩ := IsL.uniq hl48 hl82
        obtain rfl := hm51.trans (hm85).symm
        obtain rfl := hm54.trans (hm88).symm
        obtain rfl := hm57.trans (hm91).symm
        obtain ⟨rfl, rfl⟩ := IsL.uniq hl61 hl95
        exact ⟨_, .refl _, [], _, _, [(0, 0), (1, 1), (2, 2), (3, 6), (4, 7), (20, 8)], _, rfl, rfl, rfl, rfl, rfl, rfl⟩
      | false =>
        replace h := cnd_f h
        cbv
        revert h
        refine st_cmp hJ fun b71 eb71 h => ?_
        cbv
        cases b71 with
        | true =>
          replace h := cnd_t h
          cbv
          obtain ⟨⟨⟨v74, v75, v76, v77, v78⟩, l79, m83, m86, m89, l92, v96, b97, v98⟩, h73, h⟩ := bnd h
          obtain ⟨c80, n81, hl82⟩ := nameL eZone l79
          obtain ⟨c84, hm85⟩ := nameM (eI .i64) eB m83
          obtain ⟨c87, hm88⟩ := nameM eAt (eA .u8) m86
          obtain ⟨c90, hm91⟩ := nameM eAt (eA .u8) m89
          obtain ⟨c93, n94, hl95⟩ := nameL eDev_write l92
          try dsimp only at h
          obtain ⟨_, h99, h⟩ := bnd h
          obtain rfl := lenq_n h99 hl82 hl22
          obtain ⟨_, h100, h⟩ := bnd h
          obtain rfl := lenq_n h100 hl95 hl35
          refine callM_by hP (s17 hl22 hm25 hm28 hm31 hl35 hl82 hm85 hm88 hm91 hl95 h73) [(0, 0), (3, 1), (1, 2), (2, 3), (4, 4), (5, 5)] false hJ rfl rfl rfl rfl rfl (.inl rfl) ?_
          cbv
          cases h
          obtain ⟨rfl, rfl⟩ := IsL.uniq hl48 hl82
          obtain rfl := hm51.trans (hm85).symm
          obtain rfl := hm54.trans (hm88).symm
          obtain rfl := hm57.trans (hm91).symm
          obtain ⟨rfl, rfl⟩ := IsL.uniq hl61 hl95
          exact ⟨_, .refl _, [], _, _, [(0, 0), (1, 1), (2, 2), (3, 6), (4, 7), (5, 8)], _, rfl, rfl, rfl, rfl, rfl, rfl⟩
        | false =>
          replace h := cnd_f h
          cbv
          revert h
          refine st_cmp hJ fun b72 eb72 h => ?_
          cbv
          cases b72 with
          | true =>
            replace h := cnd_t h
            cbv
            obtain ⟨⟨⟨v75, v76, v77, v78, v79⟩, l80, m84, m87, m90, l93, v97, b98, v99⟩, h74, h⟩ := bnd h
            obtain ⟨c81, n82, hl83⟩ := nameL eZone l80
            obtain ⟨c85, hm86⟩ := nameM (eI .i64) eB m84
            obtain ⟨c88, hm89⟩ := nameM eAt (eA .u8) m87
            obtain ⟨c91, hm92⟩ := nameM eAt (eA .u8) m90
            obtain ⟨c94, n95, hl96⟩ := nameL eDev_write l93
            try dsimp only at h
            refine callM_by hP (s21 hl11 hl22 hm25 hm28 hm31 hl35 hl83 hm86 hm89 hm92 hl96 h74) [(0, 0), (1, 1), (2, 2), (3, 3), (4, 4), (5, 5)] false hJ rfl rfl rfl rfl rfl (.inl rfl) ?_
            cbv
            cases h
            obtain ⟨rfl, rfl⟩ := IsL.uniq hl48 hl83
            obtain rfl := hm51.trans (hm86).symm
            obtain rfl := hm54.trans (hm89).symm
            obtain rfl := hm57.trans (hm92).symm
            obtain ⟨rfl, rfl⟩ := IsL.nil hl61
            exact ⟨_, .refl _, [.cell 0 9 1000000 66 109], _, _, [(0, 0), (1, 1), (2, 2), (26, 6), (27, 7), (1000000, 8)], _, rfl, rfl, rfl, rfl, rfl, rfl⟩
          | false =>
            replace h := cnd_f h
            cbv
            obtain ⟨⟨v75, ⟨⟨v76, v77, v78, v79, v80⟩, l81, m85, m88, m91, l94, v98, b99, v100⟩⟩, h74, h⟩ := bnd h
            obtain ⟨c82, n83, hl84⟩ := nameL eZone l81
            obtain ⟨c86, hm87⟩ := nameM (eI .i64) eB m85
            obtain ⟨c89, hm90⟩ := nameM eAt (eA .u8) m88
            obtain ⟨c92, hm93⟩ := nameM eAt (eA .u8) m91
            obtain ⟨c95, n96, hl97⟩ := nameL eDev_write l94
            try dsimp only at h
            refine callM_by hP (s26 ha6 hl22 hm25 hm28 hm31 hl35 hl84 hm87 hm90 hm93 hl97 h74) [(0, 0), (1, 1), (2, 2), (4, 3), (3, 4), (5, 5)] false hJ rfl rfl rfl rfl rfl (.inl rfl) ?_
            cbv
            cases h
            obtain ⟨rfl, rfl⟩ := IsL.uniq hl48 hl84
            obtain rfl := hm51.trans (hm87).symm
            obtain rfl := hm54.trans (hm90).symm
            obtain rfl := hm57.trans (hm93).symm
            obtain ⟨rfl, rfl⟩ := IsL.uniq hl61 hl97
            exact ⟨_, .refl _, [], _, _, [(0, 0), (1, 1), (2, 2), (28, 6), (4, 7), (29, 8)], _, rfl, rfl, rfl, rfl, rfl, rfl⟩
end Go.AX
