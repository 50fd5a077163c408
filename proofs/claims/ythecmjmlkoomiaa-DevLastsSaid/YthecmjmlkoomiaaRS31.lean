/- What functions of the program compute: each is what its Lean function says. -/
import Derived.Test.YthecmjmlkoomiaaRS11
import Derived.Test.YthecmjmlkoomiaaRS26
import Derived.Test.YthecmjmlkoomiaaRS27
namespace Go.AX
open Go.Proofs
set_option autoImplicit false
set_option linter.unusedVariables false
set_option maxRecDepth 100000
set_option maxHeartbeats 100000000
set_option linter.unusedSimpArgs false

theorem s26 {v1 : Int} {v2 : Int} {a3 : Ar 64} {d4 : List D} {v6 : Int} {v7 : Int} {v8 : Int} {v9 : Int} {v10 : Int} {l11 : List TZone} {c12 : List D} {n13 : Nat} {m15 : List (Int × Bool)} {c16 : List (List D × List D)} {m18 : List (TAt × (Ar 64))} {c19 : List (List D × List D)} {m21 : List (TAt × (Ar 64))} {c22 : List (List D × List D)} {l24 : List TDev_write} {c25 : List D} {n26 : Nat} {v28 : Int} {b29 : Bool} {v30 : Int} (ha5 : d4 = encL (eI .u8) a3.l) (hl14 : IsL eZone c12 n13 l11) (hm17 : c16 = encM (eI .i64) eB m15) (hm20 : c19 = encM eAt (eA .u8) m18) (hm23 : c22 = encM eAt (eA .u8) m21) (hl27 : IsL eDev_write c25 n26 l24) {v31 : Int} {v32 : Int} {v33 : Int} {v34 : Int} {v35 : Int} {v36 : Int} {l37 : List TZone} {c38 : List D} {n39 : Nat} {m41 : List (Int × Bool)} {c42 : List (List D × List D)} {m44 : List (TAt × (Ar 64))} {c45 : List (List D × List D)} {m47 : List (TAt × (Ar 64))} {c48 : List (List D × List D)} {l50 : List TDev_write} {c51 : List D} {n52 : Nat} {v54 : Int} {b55 : Bool} {v56 : Int} (hl40 : IsL eZone c38 n39 l37) (hm43 : c42 = encM (eI .i64) eB m41) (hm46 : c45 = encM eAt (eA .u8) m44) (hm49 : c48 = encM eAt (eA .u8) m47) (hl53 : IsL eDev_write c51 n52 l50) (h : m___dev_Device__Write (TAt.mk v1 v2) a3 (TDev_Device.mk (TGeom.mk v6 v7 v8 v9 v10) l11 m15 m18 m21 l24 v28 b29 v30) = some (v31, (TDev_Device.mk (TGeom.mk v32 v33 v34 v35 v36) l37 m41 m44 m47 l50 v54 b55 v56))) : SpecM Try.prog 26 6 [(0, .box [.d (.int .i64 v6), .d (.int .i64 v7), .d (.int .i64 v8), .d (.int .i64 v9), .d (.int .i64 v10), .own 4 n13 2, .map 1, .map 2, .map 3, .own 5 n26 66, .d (.int .i64 v28), .d (.bool b29), .d (.int .i64 v30)]), (1, .mp false false c16), (2, .mp true true c19), (3, .mp true true c22), (4, .row c12 2 53), (5, .row c25 66 109)] [.ptr 0 0, .agg [.d (.int .i64 v1), .d (.int .i64 v2)], .agg [.big 64 d4]] ⟨.d (.int .i64 v31), [(0, .box [.d (.int .i64 v32), .d (.int .i64 v33), .d (.int .i64 v34), .d (.int .i64 v35), .d (.int .i64 v36), .own 6 n39 2, .map 1, .map 2, .map 3, .own 7 n52 66, .d (.int .i64 v54), .d (.bool b55), .d (.int .i64 v56)]), (1, .mp false false c42), (2, .mp true true c45), (3, .mp true true c48), (6, .row c38 2 53), (7, .row c51 66 109), (5, .dead), (4, .dead)], 2, True⟩ := by
  refine specM_b [] 4 6 Try.func26 rfl rfl rfl rfl rfl rfl fun J P hJ hP => ?_
  dsimp only [m___dev_Device__Write] at h
  cbv
  obtain ⟨⟨l60, v64⟩, h59, h⟩ := bnd h
  obtain ⟨c61, n62, hl63⟩ := nameL eZone l60
  try dsimp only at h
  refine snap_by hP (s65 hl14 hl63 h59) hJ (by cbv) rfl ⟨⟨trivial, ⟨trivial, trivial⟩⟩, ⟨noL_enc hl63 eZone_noL, trivial⟩⟩ ?_
  cbv
  refine ⟨fun _ => by kernel_rfl, ?_⟩
  cbv
  obtain ⟨⟨v67, ⟨⟨v68, v69, v70, v71, v72⟩, l73, m77, m80, m83, l86, v90, b91, v92⟩⟩, h66, h⟩ := bnd h
  obtain ⟨c74, n75, hl76⟩ := nameL eZone l73
  obtain ⟨c78, hm79⟩ := nameM (eI .i64) eB m77
  obtain ⟨c81, hm82⟩ := nameM eAt (eA .u8) m80
  obtain ⟨c84, hm85⟩ := nameM eAt (eA .u8) m83
  obtain ⟨c87, n88, hl89⟩ := nameL eDev_write l86
  try dsimp only at h
  refine callM_by hP (s53 hl63 hl14 hm17 hm20 hm23 hl27 ha5 hl76 hm79 hm82 hm85 hl89 h66) [(0, 0), (10, 1), (6, 2), (8, 3), (1, 4), (2, 5), (3, 6), (22, 7), (4, 8), (5, 9)] false hJ rfl rfl rfl rfl rfl (.inl rfl) ?_
  cbv
  cases h
  obtain ⟨rfl, rfl⟩ := IsL.uniq hl40 hl76
  obtain rfl := hm43.trans (hm79).symm
  obtain rfl := hm46.trans (hm82).symm
  obtain rfl := hm49.trans (hm85).symm
  obtain ⟨rfl, rfl⟩ := IsL.uniq hl53 hl89
  exact ⟨_, .refl _, [], _, _, [(0, 0), (1, 1), (2, 2), (3, 3), (33, 6), (34, 7)], _, rfl, rfl, rfl, rfl, rfl, rfl⟩
theorem s54 {v1 : Int} {v2 : Int} {v3 : Int} {v4 : Int} {v5 : Int} {l6 : List TZone} {c7 : List D} {n8 : Nat} {m10 : List (Int × Bool)} {c11 : List (List D × List D)} {m13 : List (TAt × (Ar 64))} {c14 : List (List D × List D)} {m16 : List (TAt × (Ar 64))} {c17 : List (List D × List D)} {l19 : List TDev_write} {c20 : List D} {n21 : Nat} {v23 : Int} {b24 : Bool} {v25 : Int} (hl9 : IsL eZone c7 n8 l6) (hm12 : c11 = encM (eI .i64) eB m10) (hm15 : c14 = encM eAt (eA .u8) m13) (hm18 : c17 = encM eAt (eA .u8) m16) (hl22 : IsL eDev_write c20 n21 l19) {v26 : Int} {v27 : Int} {v28 : Int} {v29 : Int} {v30 : Int} {l31 : List TZone} {c32 : List D} {n33 : Nat} {m35 : List (Int × Bool)} {c36 : List (List D × List D)} {m38 : List (TAt × (Ar 64))} {c39 : List (List D × List D)} {m41 : List (TAt × (Ar 64))} {c42 : List (List D × List D)} {l44 : List TDev_write} {c45 : List D} {n46 : Nat} {v48 : Int} {b49 : Bool} {v50 : Int} (hl34 : IsL eZone c32 n33 l31) (hm37 : c36 = encM (eI .i64) eB m35) (hm40 : c39 = encM eAt (eA .u8) m38) (hm43 : c42 = encM eAt (eA .u8) m41) (hl47 : IsL eDev_write c45 n46 l44) (h : m___dev_Device__Flush_1 (TDev_Device.mk (TGeom.mk v1 v2 v3 v4 v5) l6 m10 m13 m16 l19 v23 b24 v25) = some (TDev_Device.mk (TGeom.mk v26 v27 v28 v29 v30) l31 m35 m38 m41 l44 v48 b49 v50)) : SpecM Try.prog 54 7 [(0, .box [.ptr 1 0]), (1, .box [.d (.int .i64 v1), .d (.int .i64 v2), .d (.int .i64 v3), .d (.int .i64 v4), .d (.int .i64 v5), .own 2 n8 2, .map 3, .map 4, .map 5, .own 6 n21 66, .d (.int .i64 v23), .d (.bool b24), .d (.int .i64 v25)]), (2, .row c7 2 53), (3, .mp false false c11), (4, .mp true true c14), (5, .mp true true c17), (6, .row c20 66 109)] [.ptr 0 0] ⟨.tup [], [(0, .box [.ptr 1 0]), (1, .box [.d (.int .i64 v26), .d (.int .i64 v27), .d (.int .i64 v28), .d (.int .i64 v29), .d (.int .i64 v30), .own 2 n33 2, .map 3, .map 4, .map 5, .own 7 n46 66, .d (.int .i64 v48), .d (.bool b49), .d (.int .i64 v50)]), (2, .row c32 2 53), (3, .mp false false c36), (4, .mp true true c39), (5, .mp true true c42), (7, .row c45 66 109), (6, .dead)], 1, True⟩ := by
  refine specM_b [] 6 7 Try.func54 rfl rfl rfl rfl rfl rfl fun J P hJ hP => ?_
  dsimp only [m___dev_Device__Flush_1] at h
  cbv
  obtain ⟨⟨⟨v54, v55, v56, v57, v58⟩, l59, m63, m66, m69, l72, v76, b77, v78⟩, h53, h⟩ := bnd h
  obtain ⟨c60, n61, hl62⟩ := nameL eZone l59
  obtain ⟨c64, hm65⟩ := nameM (eI .i64) eB m63
  obtain ⟨c67, hm68⟩ := nameM eAt (eA .u8) m66
  obtain ⟨c70, hm71⟩ := nameM eAt (eA .u8) m69
  obtain ⟨c73, n74, hl75⟩ := nameL eDev_write l72
  try dsimp only at h
  obtain ⟨_, h79, h⟩ := bnd h
  obtain rfl := lenq_n h79 hl62 hl9
  refine callM_by hP (s55 hl9 hm12 hm15 hm18 hl22 hl62 hm65 hm68 hm71 hl75 h53) [(1, 0), (2, 1), (3, 2), (4, 3), (5, 4), (6, 5)] false hJ rfl rfl rfl rfl rfl (.inl rfl) ?_
  cbv
  cases h
  obtain ⟨rfl, rfl⟩ := IsL.uniq hl34 hl62
  obtain rfl := hm37.trans (hm65).symm
  obtain rfl := hm40.trans (hm68).symm
  obtain rfl := hm43.trans (hm71).symm
  obtain ⟨rfl, rfl⟩ := IsL.uniq hl47 hl75
  exact ⟨_, .refl _, [], _, _, [(0, 0), (1, 1), (2, 2), (3, 3), (4, 4), (5, 5), (8, 7)], _, rfl, rfl, rfl, rfl, rfl, rfl⟩
end Go.AX
