/- What functions of the program compute: each is what its Lean function says. -/
import Derived.Test.YthecmjmlkoomiaaRS1
import Derived.Test.YthecmjmlkoomiaaRS27
import Derived.Test.YthecmjmlkoomiaaRS29
namespace Go.AX
open Go.Proofs
set_option autoImplicit false
set_option linter.unusedVariables false
set_option maxRecDepth 100000
set_option maxHeartbeats 100000000
set_option linter.unusedSimpArgs false

theorem s22 {v1 : Int} {v2 : Int} {v3 : Int} {v4 : Int} {v5 : Int} {v6 : Int} {v7 : Int} {l8 : List TZone} {c9 : List D} {n10 : Nat} {m12 : List (Int × Bool)} {c13 : List (List D × List D)} {m15 : List (TAt × (Ar 64))} {c16 : List (List D × List D)} {m18 : List (TAt × (Ar 64))} {c19 : List (List D × List D)} {l21 : List TDev_write} {c22 : List D} {n23 : Nat} {v25 : Int} {b26 : Bool} {v27 : Int} (hl11 : IsL eZone c9 n10 l8) (hm14 : c13 = encM (eI .i64) eB m12) (hm17 : c16 = encM eAt (eA .u8) m15) (hm20 : c19 = encM eAt (eA .u8) m18) (hl24 : IsL eDev_write c22 n23 l21) {a28 : Ar 64} {d29 : List D} {v31 : Int} {v32 : Int} {v33 : Int} {v34 : Int} {v35 : Int} {v36 : Int} {l37 : List TZone} {c38 : List D} {n39 : Nat} {m41 : List (Int × Bool)} {c42 : List (List D × List D)} {m44 : List (TAt × (Ar 64))} {c45 : List (List D × List D)} {m47 : List (TAt × (Ar 64))} {c48 : List (List D × List D)} {l50 : List TDev_write} {c51 : List D} {n52 : Nat} {v54 : Int} {b55 : Bool} {v56 : Int} (ha30 : d29 = encL (eI .u8) a28.l) (hl40 : IsL eZone c38 n39 l37) (hm43 : c42 = encM (eI .i64) eB m41) (hm46 : c45 = encM eAt (eA .u8) m44) (hm49 : c48 = encM eAt (eA .u8) m47) (hl53 : IsL eDev_write c51 n52 l50) (h : m___dev_Device__Read (TAt.mk v1 v2) (TDev_Device.mk (TGeom.mk v3 v4 v5 v6 v7) l8 m12 m15 m18 l21 v25 b26 v27) = some (a28, v31, (TDev_Device.mk (TGeom.mk v32 v33 v34 v35 v36) l37 m41 m44 m47 l50 v54 b55 v56))) : SpecM Try.prog 22 6 [(0, .box [.d (.int .i64 v3), .d (.int .i64 v4), .d (.int .i64 v5), .d (.int .i64 v6), .d (.int .i64 v7), .own 1 n10 2, .map 2, .map 3, .map 4, .own 5 n23 66, .d (.int .i64 v25), .d (.bool b26), .d (.int .i64 v27)]), (1, .row c9 2 53), (2, .mp false false c13), (3, .mp true true c16), (4, .mp true true c19), (5, .row c22 66 109)] [.ptr 0 0, .agg [.d (.int .i64 v1), .d (.int .i64 v2)]] ⟨.tup [.agg [.big 64 d29], .d (.int .i64 v31)], [(0, .box [.d (.int .i64 v32), .d (.int .i64 v33), .d (.int .i64 v34), .d (.int .i64 v35), .d (.int .i64 v36), .own 1 n39 2, .map 2, .map 3, .map 4, .own 5 n52 66, .d (.int .i64 v54), .d (.bool b55), .d (.int .i64 v56)]), (1, .row c38 2 53), (2, .mp false false c42), (3, .mp true true c45), (4, .mp true true c48), (5, .row c51 66 109)], 0, True⟩ := by
  refine specM_b [] 6 6 Try.func22 rfl rfl rfl rfl rfl rfl fun J P hJ hP => ?_
  dsimp only [m___dev_Device__Read] at h
  cbv
  cases b26 with
  | true =>
    replace h := cnd_t h
    cbv
    cases h
    obtain rfl := ha30.trans ((rep_z hJ 64 .u8)).symm
    obtain ⟨rfl, rfl⟩ := IsL.uniq hl40 hl11
    obtain rfl := hm43.trans (hm14).symm
    obtain rfl := hm46.trans (hm17).symm
    obtain rfl := hm49.trans (hm20).symm
    obtain ⟨rfl, rfl⟩ := IsL.uniq hl53 hl24
    exact ⟨_, .refl _, [], _, _, [(0, 0), (1, 1), (2, 2), (3, 3), (4, 4), (5, 5)], _, rfl, rfl, rfl, rfl, rfl, rfl⟩
  | false =>
    replace h := cnd_f h
    cbv
    obtain ⟨v60, h59, h⟩ := bnd h
    refine snap_by hP (s62 hl11 h59) hJ (by cbv) rfl ⟨trivial, trivial⟩ ?_
    cbv
    obtain ⟨⟨v63, ⟨⟨v64, v65, v66, v67, v68⟩, l69, m73, m76, m79, l82, v86, b87, v88⟩⟩, h62, h⟩ := bnd h
    obtain ⟨c70, n71, hl72⟩ := nameL eZone l69
    obtain ⟨c74, hm75⟩ := nameM (eI .i64) eB m73
    obtain ⟨c77, hm78⟩ := nameM eAt (eA .u8) m76
    obtain ⟨c80, hm81⟩ := nameM eAt (eA .u8) m79
    obtain ⟨c83, n84, hl85⟩ := nameL eDev_write l82
    try dsimp only at h
    obtain ⟨_, h96, h⟩ := bnd h
    obtain rfl := lenq_n h96 hl72 hl11
    obtain ⟨_, h97, h⟩ := bnd h
    obtain rfl := lenq_n h97 hl85 hl24
    refine callM_by hP (s61 hl11 hm14 hm17 hm20 hl24 hl72 hm75 hm78 hm81 hl85 h62) [(0, 0), (1, 1), (2, 2), (3, 3), (4, 4), (5, 5)] false hJ rfl rfl rfl rfl rfl (.inl rfl) ?_
    cbv
    refine ⟨fun _ => by kernel_rfl, ?_⟩
    cbv
    revert h
    refine st_cmp hJ fun b89 eb89 h => ?_
    cbv
    cases b89 with
    | true =>
      replace h := cnd_t h
      cbv
      cases h
      obtain rfl := ha30.trans ((rep_z hJ 64 .u8)).symm
      obtain ⟨rfl, rfl⟩ := IsL.uniq hl40 hl72
      obtain rfl := hm43.trans (hm75).symm
      obtain rfl := hm46.trans (hm78).symm
      obtain rfl := hm49.trans (hm81).symm
      obtain ⟨rfl, rfl⟩ := IsL.uniq hl53 hl85
      exact ⟨_, .refl _, [], _, _, [(0, 0), (1, 1), (2, 2), (3, 3), (4, 4), (5, 5)], _, rfl, rfl, rfl, rfl, rfl, rfl⟩
    | false =>
      replace h := cnd_f h
      cbv
      obtain ⟨o90, ho90, h⟩ := letv h
      obtain ⟨y91, hy91, h⟩ := letv h
      obtain ⟨b92, hb92, h⟩ := letv h
      obtain ⟨d94, ha95⟩ := nameA .u8 y91
      refine st_lk hJ eAt_kinds hm81 (k := (TAt.mk v1 v2)) rfl (z := (Ar.zero 64)) (by rfl) (eA_len .u8) ho90 hy91 hb92 (ds := d94 ++ []) (by rw [(show d94 = encL (eI .u8) y91.l from ha95)]; first | done | rfl | simp [eA, encL, eI]) (.big ⟨by rw [(show d94 = encL (eI .u8) y91.l from ha95)]; exact eA_len _ _, by decide⟩ .nil) rfl ?_
      cbv
      refine ⟨fun _ => by kernel_rfl, ?_⟩
      cbv
      cases h
      obtain rfl := ha30.trans (ha95).symm
      obtain ⟨rfl, rfl⟩ := IsL.uniq hl40 hl72
      obtain rfl := hm43.trans (hm75).symm
      obtain rfl := hm46.trans (hm78).symm
      obtain rfl := hm49.trans (hm81).symm
      obtain ⟨rfl, rfl⟩ := IsL.uniq hl53 hl85
      exact ⟨_, .refl _, [], _, _, [(0, 0), (1, 1), (2, 2), (3, 3), (4, 4), (5, 5)], _, rfl, rfl, rfl, rfl, rfl, rfl⟩
theorem s79 {v1 : Int} {v2 : Int} {v3 : Int} {v4 : Int} {v5 : Int} {v6 : Int} {l7 : List TZone} {c8 : List D} {n9 : Nat} {m11 : List (Int × Bool)} {c12 : List (List D × List D)} {m14 : List (TAt × (Ar 64))} {c15 : List (List D × List D)} {m17 : List (TAt × (Ar 64))} {c18 : List (List D × List D)} {l20 : List TDev_write} {c21 : List D} {n22 : Nat} {v24 : Int} {b25 : Bool} {v26 : Int} (hl10 : IsL eZone c8 n9 l7) (hm13 : c12 = encM (eI .i64) eB m11) (hm16 : c15 = encM eAt (eA .u8) m14) (hm19 : c18 = encM eAt (eA .u8) m17) (hl23 : IsL eDev_write c21 n22 l20) {v27 : Int} {v28 : Int} {v29 : Int} {v30 : Int} {v31 : Int} {l32 : List TZone} {c33 : List D} {n34 : Nat} {m36 : List (Int × Bool)} {c37 : List (List D × List D)} {m39 : List (TAt × (Ar 64))} {c40 : List (List D × List D)} {m42 : List (TAt × (Ar 64))} {c43 : List (List D × List D)} {l45 : List TDev_write} {c46 : List D} {n47 : Nat} {v49 : Int} {b50 : Bool} {v51 : Int} (hl35 : IsL eZone c33 n34 l32) (hm38 : c37 = encM (eI .i64) eB m36) (hm41 : c40 = encM eAt (eA .u8) m39) (hm44 : c43 = encM eAt (eA .u8) m42) (hl48 : IsL eDev_write c46 n47 l45) (h : m___dev_Device__Reset_1 v1 (TDev_Device.mk (TGeom.mk v2 v3 v4 v5 v6) l7 m11 m14 m17 l20 v24 b25 v26) = some (TDev_Device.mk (TGeom.mk v27 v28 v29 v30 v31) l32 m36 m39 m42 l45 v49 b50 v51)) : SpecM Try.prog 79 8 [(0, .box [.ptr 2 0]), (1, .box [.d (.int .i64 v1)]), (2, .box [.d (.int .i64 v2), .d (.int .i64 v3), .d (.int .i64 v4), .d (.int .i64 v5), .d (.int .i64 v6), .own 3 n9 2, .map 4, .map 5, .map 6, .own 7 n22 66, .d (.int .i64 v24), .d (.bool b25), .d (.int .i64 v26)]), (3, .row c8 2 53), (4, .mp false false c12), (5, .mp true true c15), (6, .mp true true c18), (7, .row c21 66 109)] [.ptr 0 0, .ptr 1 0] ⟨.tup [], [(0, .box [.ptr 2 0]), (1, .box [.d (.int .i64 v1)]), (2, .box [.d (.int .i64 v27), .d (.int .i64 v28), .d (.int .i64 v29), .d (.int .i64 v30), .d (.int .i64 v31), .own 3 n34 2, .map 4, .map 5, .map 6, .own 8 n47 66, .d (.int .i64 v49), .d (.bool b50), .d (.int .i64 v51)]), (3, .row c33 2 53), (4, .mp false false c37), (5, .mp true true c40), (6, .mp true true c43), (8, .row c46 66 109), (7, .dead)], 1, True⟩ := by
  refine specM_b [] 7 8 Try.func79 rfl rfl rfl rfl rfl rfl fun J P hJ hP => ?_
  dsimp only [m___dev_Device__Reset_1] at h
  cbv
  obtain ⟨⟨⟨v55, v56, v57, v58, v59⟩, l60, m64, m67, m70, l73, v77, b78, v79⟩, h54, h⟩ := bnd h
  obtain ⟨c61, n62, hl63⟩ := nameL eZone l60
  obtain ⟨c65, hm66⟩ := nameM (eI .i64) eB m64
  obtain ⟨c68, hm69⟩ := nameM eAt (eA .u8) m67
  obtain ⟨c71, hm72⟩ := nameM eAt (eA .u8) m70
  obtain ⟨c74, n75, hl76⟩ := nameL eDev_write l73
  try dsimp only at h
  obtain ⟨_, h80, h⟩ := bnd h
  obtain rfl := lenq_n h80 hl63 hl10
  refine callM_by hP (s80 hl10 hm13 hm16 hm19 hl23 hl63 hm66 hm69 hm72 hl76 h54) [(2, 0), (3, 1), (4, 2), (5, 3), (6, 4), (7, 5)] false hJ rfl rfl rfl rfl rfl (.inl rfl) ?_
  cbv
  cases h
  obtain ⟨rfl, rfl⟩ := IsL.uniq hl35 hl63
  obtain rfl := hm38.trans (hm66).symm
  obtain rfl := hm41.trans (hm69).symm
  obtain rfl := hm44.trans (hm72).symm
  obtain ⟨rfl, rfl⟩ := IsL.uniq hl48 hl76
  exact ⟨_, .refl _, [], _, _, [(0, 0), (1, 1), (2, 2), (3, 3), (4, 4), (5, 5), (6, 6), (10, 8)], _, rfl, rfl, rfl, rfl, rfl, rfl⟩
end Go.AX
