/- What functions of the program compute: each is what its Lean function says. -/
import Derived.Test.YthecmjmlkoomiaaRS29
import Derived.Test.YthecmjmlkoomiaaRS34
import Derived.Test.YthecmjmlkoomiaaRS35
namespace Go.AX
open Go.Proofs
set_option autoImplicit false
set_option linter.unusedVariables false
set_option maxRecDepth 100000
set_option maxHeartbeats 100000000
set_option linter.unusedSimpArgs false

theorem s18 {v1 : Int} {v2 : Int} {v3 : Int} {v4 : Int} {v5 : Int} {l6 : List TZone} {c7 : List D} {n8 : Nat} {m10 : List (Int × Bool)} {c11 : List (List D × List D)} {m13 : List (TAt × (Ar 64))} {c14 : List (List D × List D)} {m16 : List (TAt × (Ar 64))} {c17 : List (List D × List D)} {l19 : List TDev_write} {c20 : List D} {n21 : Nat} {v23 : Int} {b24 : Bool} {v25 : Int} (hl9 : IsL eZone c7 n8 l6) (hm12 : c11 = encM (eI .i64) eB m10) (hm15 : c14 = encM eAt (eA .u8) m13) (hm18 : c17 = encM eAt (eA .u8) m16) (hl22 : IsL eDev_write c20 n21 l19) {v26 : Int} {v27 : Int} {v28 : Int} {v29 : Int} {v30 : Int} {v31 : Int} {l32 : List TZone} {c33 : List D} {n34 : Nat} {m36 : List (Int × Bool)} {c37 : List (List D × List D)} {m39 : List (TAt × (Ar 64))} {c40 : List (List D × List D)} {m42 : List (TAt × (Ar 64))} {c43 : List (List D × List D)} {l45 : List TDev_write} {c46 : List D} {n47 : Nat} {v49 : Int} {b50 : Bool} {v51 : Int} (hl35 : IsL eZone c33 n34 l32) (hm38 : c37 = encM (eI .i64) eB m36) (hm41 : c40 = encM eAt (eA .u8) m39) (hm44 : c43 = encM eAt (eA .u8) m42) (hl48 : IsL eDev_write c46 n47 l45) (h : m___dev_Device__Flush (TDev_Device.mk (TGeom.mk v1 v2 v3 v4 v5) l6 m10 m13 m16 l19 v23 b24 v25) = some (v26, (TDev_Device.mk (TGeom.mk v27 v28 v29 v30 v31) l32 m36 m39 m42 l45 v49 b50 v51))) : SpecM Try.prog 18 6 [(0, .box [.d (.int .i64 v1), .d (.int .i64 v2), .d (.int .i64 v3), .d (.int .i64 v4), .d (.int .i64 v5), .own 1 n8 2, .map 2, .map 3, .map 4, .own 5 n21 66, .d (.int .i64 v23), .d (.bool b24), .d (.int .i64 v25)]), (1, .row c7 2 53), (2, .mp false false c11), (3, .mp true true c14), (4, .mp true true c17), (5, .row c20 66 109)] [.ptr 0 0] ⟨.d (.int .i64 v26), [(0, .box [.d (.int .i64 v27), .d (.int .i64 v28), .d (.int .i64 v29), .d (.int .i64 v30), .d (.int .i64 v31), .own 1 n34 2, .map 2, .map 3, .map 4, .own 6 n47 66, .d (.int .i64 v49), .d (.bool b50), .d (.int .i64 v51)]), (1, .row c33 2 53), (2, .mp false false c37), (3, .mp true true c40), (4, .mp true true c43), (6, .row c46 66 109), (5, .dead)], 1, True⟩ := by
  refine specM_b [] 5 6 Try.func18 rfl rfl rfl rfl rfl rfl fun J P hJ hP => ?_
  dsimp only [m___dev_Device__Flush] at h
  cbv
  obtain ⟨⟨v55, ⟨⟨v56, v57, v58, v59, v60⟩, l61, m65, m68, m71, l74, v78, b79, v80⟩⟩, h54, h⟩ := bnd h
  obtain ⟨c62, n63, hl64⟩ := nameL eZone l61
  obtain ⟨c66, hm67⟩ := nameM (eI .i64) eB m65
  obtain ⟨c69, hm70⟩ := nameM eAt (eA .u8) m68
  obtain ⟨c72, hm73⟩ := nameM eAt (eA .u8) m71
  obtain ⟨c75, n76, hl77⟩ := nameL eDev_write l74
  try dsimp only at h
  obtain ⟨_, h81, h⟩ := bnd h
  obtain rfl := lenq_n h81 hl64 hl9
  refine callM_by hP (s53_1 hl9 hm12 hm15 hm18 hl22 hl64 hm67 hm70 hm73 hl77 h54) [(0, 0), (6, 1), (1, 2), (2, 3), (3, 4), (4, 5), (5, 6)] false hJ rfl rfl rfl rfl rfl (.inl rfl) ?_
  cbv
  refine ⟨fun _ => by kernel_rfl, ?_⟩
  cbv
  cases h
  obtain ⟨rfl, rfl⟩ := IsL.uniq hl35 hl64
  obtain rfl := hm38.trans (hm67).symm
  obtain rfl := hm41.trans (hm70).symm
  obtain rfl := hm44.trans (hm73).symm
  obtain ⟨rfl, rfl⟩ := IsL.uniq hl48 hl77
  exact ⟨_, .refl _, [], _, _, [(0, 0), (1, 1), (2, 2), (3, 3), (4, 4), (15, 6)], _, rfl, rfl, rfl, rfl, rfl, rfl⟩
theorem s46 {v1 : Int} {v2 : Int} {v3 : Int} {v4 : Int} {v5 : Int} {v6 : Int} {l7 : List TZone} {c8 : List D} {n9 : Nat} {m11 : List (Int × Bool)} {c12 : List (List D × List D)} {m14 : List (TAt × (Ar 64))} {c15 : List (List D × List D)} {m17 : List (TAt × (Ar 64))} {c18 : List (List D × List D)} {l20 : List TDev_write} {c21 : List D} {n22 : Nat} {v24 : Int} {b25 : Bool} {v26 : Int} (hl10 : IsL eZone c8 n9 l7) (hm13 : c12 = encM (eI .i64) eB m11) (hm16 : c15 = encM eAt (eA .u8) m14) (hm19 : c18 = encM eAt (eA .u8) m17) (hl23 : IsL eDev_write c21 n22 l20) {v27 : Int} {v28 : Int} {v29 : Int} {v30 : Int} {v31 : Int} {v32 : Int} {l33 : List TZone} {c34 : List D} {n35 : Nat} {m37 : List (Int × Bool)} {c38 : List (List D × List D)} {m40 : List (TAt × (Ar 64))} {c41 : List (List D × List D)} {m43 : List (TAt × (Ar 64))} {c44 : List (List D × List D)} {l46 : List TDev_write} {c47 : List D} {n48 : Nat} {v50 : Int} {b51 : Bool} {v52 : Int} (hl36 : IsL eZone c34 n35 l33) (hm39 : c38 = encM (eI .i64) eB m37) (hm42 : c41 = encM eAt (eA .u8) m40) (hm45 : c44 = encM eAt (eA .u8) m43) (hl49 : IsL eDev_write c47 n48 l46) (h : m___dev_Device__Reset v1 (TDev_Device.mk (TGeom.mk v2 v3 v4 v5 v6) l7 m11 m14 m17 l20 v24 b25 v26) = some (v27, (TDev_Device.mk (TGeom.mk v28 v29 v30 v31 v32) l33 m37 m40 m43 l46 v50 b51 v52))) : SpecM Try.prog 46 6 [(0, .box [.d (.int .i64 v2), .d (.int .i64 v3), .d (.int .i64 v4), .d (.int .i64 v5), .d (.int .i64 v6), .own 4 n9 2, .map 1, .map 2, .map 3, .own 5 n22 66, .d (.int .i64 v24), .d (.bool b25), .d (.int .i64 v26)]), (1, .mp false false c12), (2, .mp true true c15), (3, .mp true true c18), (4, .row c8 2 53), (5, .row c21 66 109)] [.ptr 0 0, .d (.int .i64 v1)] ⟨.d (.int .i64 v27), [(0, .box [.d (.int .i64 v28), .d (.int .i64 v29), .d (.int .i64 v30), .d (.int .i64 v31), .d (.int .i64 v32), .own 6 n35 2, .map 1, .map 2, .map 3, .own 7 n48 66, .d (.int .i64 v50), .d (.bool b51), .d (.int .i64 v52)]), (1, .mp false false c38), (2, .mp true true c41), (3, .mp true true c44), (6, .row c34 2 53), (7, .row c47 66 109), (5, .dead), (4, .dead)], 2, True⟩ := by
  refine specM_b [] 4 6 Try.func46 rfl rfl rfl rfl rfl rfl fun J P hJ hP => ?_
  dsimp only [m___dev_Device__Reset] at h
  cbv
  obtain ⟨⟨l56, v60⟩, h55, h⟩ := bnd h
  obtain ⟨c57, n58, hl59⟩ := nameL eZone l56
  try dsimp only at h
  refine snap_by hP (s78 hl10 hl59 h55) hJ (by cbv) rfl ⟨⟨trivial, ⟨trivial, trivial⟩⟩, ⟨noL_enc hl59 eZone_noL, trivial⟩⟩ ?_
  cbv
  refine ⟨fun _ => by kernel_rfl, ?_⟩
  cbv
  obtain ⟨⟨v63, ⟨⟨v64, v65, v66, v67, v68⟩, l69, m73, m76, m79, l82, v86, b87, v88⟩⟩, h62, h⟩ := bnd h
  obtain ⟨c70, n71, hl72⟩ := nameL eZone l69
  obtain ⟨c74, hm75⟩ := nameM (eI .i64) eB m73
  obtain ⟨c77, hm78⟩ := nameM eAt (eA .u8) m76
  obtain ⟨c80, hm81⟩ := nameM eAt (eA .u8) m79
  obtain ⟨c83, n84, hl85⟩ := nameL eDev_write l82
  try dsimp only at h
  refine callM_by hP (s53_2 hl59 hl10 hm13 hm16 hm19 hl23 hl72 hm75 hm78 hm81 hl85 h62) [(0, 0), (6, 1), (8, 2), (1, 3), (2, 4), (3, 5), (20, 6), (4, 7), (5, 8)] false hJ rfl rfl rfl rfl rfl (.inl rfl) ?_
  cbv
  cases h
  obtain ⟨rfl, rfl⟩ := IsL.uniq hl36 hl72
  obtain rfl := hm39.trans (hm75).symm
  obtain rfl := hm42.trans (hm78).symm
  obtain rfl := hm45.trans (hm81).symm
  obtain ⟨rfl, rfl⟩ := IsL.uniq hl49 hl85
  exact ⟨_, .refl _, [], _, _, [(0, 0), (1, 1), (2, 2), (3, 3), (31, 6), (32, 7)], _, rfl, rfl, rfl, rfl, rfl, rfl⟩
end Go.AX
