/- What functions of the program compute: each is what its Lean function says. -/
import Derived.Test.YthecmjmlkoomiaaRS30
namespace Go.AX
open Go.Proofs
set_option autoImplicit false
set_option linter.unusedVariables false
set_option maxRecDepth 100000
set_option maxHeartbeats 100000000
set_option linter.unusedSimpArgs false

theorem s82 {v1 : Int} {v2 : Int} {v3 : Int} {v4 : Int} {v5 : Int} {v6 : Int} {l7 : List TZone} {c8 : List D} {n9 : Nat} {m11 : List (Int × Bool)} {c12 : List (List D × List D)} {m14 : List (TAt × (Ar 64))} {c15 : List (List D × List D)} {m17 : List (TAt × (Ar 64))} {c18 : List (List D × List D)} {l20 : List TDev_write} {c21 : List D} {n22 : Nat} {v24 : Int} {b25 : Bool} {v26 : Int} (hl10 : IsL eZone c8 n9 l7) (hm13 : c12 = encM (eI .i64) eB m11) (hm16 : c15 = encM eAt (eA .u8) m14) (hm19 : c18 = encM eAt (eA .u8) m17) (hl23 : IsL eDev_write c21 n22 l20) {v27 : Int} {v28 : Int} {v29 : Int} {v30 : Int} {v31 : Int} {l32 : List TZone} {c33 : List D} {n34 : Nat} {m36 : List (Int × Bool)} {c37 : List (List D × List D)} {m39 : List (TAt × (Ar 64))} {c40 : List (List D × List D)} {m42 : List (TAt × (Ar 64))} {c43 : List (List D × List D)} {l45 : List TDev_write} {c46 : List D} {n47 : Nat} {v49 : Int} {b50 : Bool} {v51 : Int} (hl35 : IsL eZone c33 n34 l32) (hm38 : c37 = encM (eI .i64) eB m36) (hm41 : c40 = encM eAt (eA .u8) m39) (hm44 : c43 = encM eAt (eA .u8) m42) (hl48 : IsL eDev_write c46 n47 l45) (h : m___dev_Device__Finish_1 v1 (TDev_Device.mk (TGeom.mk v2 v3 v4 v5 v6) l7 m11 m14 m17 l20 v24 b25 v26) = some (TDev_Device.mk (TGeom.mk v27 v28 v29 v30 v31) l32 m36 m39 m42 l45 v49 b50 v51)) : SpecM Try.prog 82 8 [(0, .box [.ptr 2 0]), (1, .box [.d (.int .i64 v1)]), (2, .box [.d (.int .i64 v2), .d (.int .i64 v3), .d (.int .i64 v4), .d (.int .i64 v5), .d (.int .i64 v6), .own 3 n9 2, .map 4, .map 5, .map 6, .own 7 n22 66, .d (.int .i64 v24), .d (.bool b25), .d (.int .i64 v26)]), (3, .row c8 2 53), (4, .mp false false c12), (5, .mp true true c15), (6, .mp true true c18), (7, .row c21 66 109)] [.ptr 0 0, .ptr 1 0] ⟨.tup [], [(0, .box [.ptr 2 0]), (1, .box [.d (.int .i64 v1)]), (2, .box [.d (.int .i64 v27), .d (.int .i64 v28), .d (.int .i64 v29), .d (.int .i64 v30), .d (.int .i64 v31), .own 3 n34 2, .map 4, .map 5, .map 6, .own 8 n47 66, .d (.int .i64 v49), .d (.bool b50), .d (.int .i64 v51)]), (3, .row c33 2 53), (4, .mp false false c37), (5, .mp true true c40), (6, .mp true true c43), (8, .row c46 66 109), (7, .dead)], 1, True⟩ := by
  refine specM_b [] 7 8 Try.func82 rfl rfl rfl rfl rfl rfl fun J P hJ hP => ?_
  dsimp only [m___dev_Device__Finish_1] at h
  cbv
  obtain ⟨⟨⟨v55, v56, v57, v58, v59⟩, l60, m64, m67, m70, l73, v77, b78, v79⟩, h54, h⟩ := bnd h
  obtain ⟨c61, n62, hl63⟩ := nameL eZone l60
  obtain ⟨c65, hm66⟩ := nameM (eI .i64) eB m64
  obtain ⟨c68, hm69⟩ := nameM eAt (eA .u8) m67
  obtain ⟨c71, hm72⟩ := nameM eAt (eA .u8) m70
  obtain ⟨c74, n75, hl76⟩ := nameL eDev_write l73
  try dsimp only at h
  obtain ⟨_, h83, h⟩ := bnd h
  obtain rfl := lenq_n h83 hl63 hl10
  refine callM_by hP (s55_1 hl10 hm13 hm16 hm19 hl23 hl63 hm66 hm69 hm72 hl76 h54) [(2, 0), (1, 1), (3, 2), (4, 3), (5, 4), (6, 5), (7, 6)] false hJ rfl rfl rfl rfl rfl (.inl rfl) ?_
  cbv
  revert h
  refine st_up hJ (eI_kinds .i64) hm66 (k := v1) rfl (v := true) (fun hJ => by rfl) fun c81 m80 hm82 h => ?_
  cbv
  refine ⟨fun _ => by kernel_rfl, ?_⟩
  cbv
  cases h
  obtain ⟨rfl, rfl⟩ := IsL.uniq hl35 hl63
  obtain rfl := hm38.trans (hm82).symm
  obtain rfl := hm41.trans (hm69).symm
  obtain rfl := hm44.trans (hm72).symm
  obtain ⟨rfl, rfl⟩ := IsL.uniq hl48 hl76
  exact ⟨_, .refl _, [], _, _, [(0, 0), (1, 1), (2, 2), (3, 3), (4, 4), (5, 5), (6, 6), (10, 8)], _, rfl, rfl, rfl, rfl, rfl, rfl⟩
end Go.AX
