/- What functions of the program compute: each is what its Lean function says. -/
import Derived.Test.YthecmjmlkoomiaaRS1
import Derived.Test.YthecmjmlkoomiaaRS4
import Derived.Test.YthecmjmlkoomiaaRS8
import Derived.Test.YthecmjmlkoomiaaRS9
namespace Go.AX
open Go.Proofs
set_option autoImplicit false
set_option linter.unusedVariables false
set_option maxRecDepth 100000
set_option maxHeartbeats 100000000
set_option linter.unusedSimpArgs false

theorem s27 {v1 : Int} {v2 : Int} {v3 : Int} {v4 : Int} {v5 : Int} {l6 : List TZone} {c7 : List D} {n8 : Nat} {m10 : List (Int × Bool)} {c11 : List (List D × List D)} {m13 : List (TAt × (Ar 64))} {c14 : List (List D × List D)} {m16 : List (TAt × (Ar 64))} {c17 : List (List D × List D)} {l19 : List TDev_write} {c20 : List D} {n21 : Nat} {v23 : Int} {b24 : Bool} {v25 : Int} (hl9 : IsL eZone c7 n8 l6) (hm12 : c11 = encM (eI .i64) eB m10) (hm15 : c14 = encM eAt (eA .u8) m13) (hm18 : c17 = encM eAt (eA .u8) m16) (hl22 : IsL eDev_write c20 n21 l19) {v26 : Int} {v27 : Int} {v28 : Int} {v29 : Int} {v30 : Int} {l31 : List TZone} {c32 : List D} {n33 : Nat} {m35 : List (Int × Bool)} {c36 : List (List D × List D)} {m38 : List (TAt × (Ar 64))} {c39 : List (List D × List D)} {m41 : List (TAt × (Ar 64))} {c42 : List (List D × List D)} {l44 : List TDev_write} {c45 : List D} {n46 : Nat} {v48 : Int} {b49 : Bool} {v50 : Int} (hl34 : IsL eZone c32 n33 l31) (hm37 : c36 = encM (eI .i64) eB m35) (hm40 : c39 = encM eAt (eA .u8) m38) (hm43 : c42 = encM eAt (eA .u8) m41) (hl47 : IsL eDev_write c45 n46 l44) (h : m___dev_Device__Clone (TDev_Device.mk (TGeom.mk v1 v2 v3 v4 v5) l6 m10 m13 m16 l19 v23 b24 v25) = some (TDev_Device.mk (TGeom.mk v26 v27 v28 v29 v30) l31 m35 m38 m41 l44 v48 b49 v50)) : SpecM Try.prog 27 6 [(0, .box [.d (.int .i64 v1), .d (.int .i64 v2), .d (.int .i64 v3), .d (.int .i64 v4), .d (.int .i64 v5), .own 1 n8 2, .map 2, .map 3, .map 4, .own 5 n21 66, .d (.int .i64 v23), .d (.bool b24), .d (.int .i64 v25)]), (1, .row c7 2 53), (2, .mp false false c11), (3, .mp true true c14), (4, .mp true true c17), (5, .row c20 66 109)] [.ptr 0 0] ⟨.ptr 6 0, [(0, .box [.d (.int .i64 v1), .d (.int .i64 v2), .d (.int .i64 v3), .d (.int .i64 v4), .d (.int .i64 v5), .own 1 n8 2, .map 2, .map 3, .map 4, .own 5 n21 66, .d (.int .i64 v23), .d (.bool b24), .d (.int .i64 v25)]), (1, .row c7 2 53), (2, .mp false false c11), (3, .mp true true c14), (4, .mp true true c17), (5, .row c20 66 109), (6, .box [.d (.int .i64 v26), .d (.int .i64 v27), .d (.int .i64 v28), .d (.int .i64 v29), .d (.int .i64 v30), .own 7 n33 2, .map 8, .map 9, .map 10, .own 11 n46 66, .d (.int .i64 v48), .d (.bool b49), .d (.int .i64 v50)]), (7, .row c32 2 53), (8, .mp false false c36), (9, .mp true true c39), (10, .mp true true c42), (11, .row c45 66 109)], 6, True⟩ := by
  refine specM_b [] 6 6 Try.func27 rfl rfl rfl rfl rfl rfl fun J P hJ hP => ?_
  dsimp only [m___dev_Device__Clone] at h
  cbv
  obtain ⟨l54, h53, h⟩ := bnd h
  obtain ⟨c55, n56, hl57⟩ := nameL eZone l54
  refine snap_by hP (s57 hl9 hl57 h53) hJ (by cbv) rfl ⟨trivial, ⟨noL_enc hl57 eZone_noL, trivial⟩⟩ ?_
  cbv
  obtain ⟨l60, h59, h⟩ := bnd h
  obtain ⟨c61, n62, hl63⟩ := nameL eDev_write l60
  refine snap_by hP (s67 hl22 hl63 h59) hJ (by cbv) rfl ⟨trivial, ⟨noL_enc hl63 eDev_write_noL, trivial⟩⟩ ?_
  cbv
  refine ⟨fun _ => by kernel_rfl, ?_⟩
  cbv
  refine callM_by hP (s68 false false _) [(2, 0)] false hJ rfl rfl rfl rfl rfl (.inl rfl) ?_
  cbv
  refine callM_by hP (s69 true true _) [(3, 0)] false hJ rfl rfl rfl rfl rfl (.inl rfl) ?_
  cbv
  refine callM_by hP (s69 true true _) [(4, 0)] false hJ rfl rfl rfl rfl rfl (.inl rfl) ?_
  cbv
  refine ⟨fun _ => by kernel_rfl, ?_⟩
  cbv
  cases h
  obtain ⟨rfl, rfl⟩ := IsL.uniq hl34 hl57
  obtain rfl := hm37.trans (hm12).symm
  obtain rfl := hm40.trans (hm15).symm
  obtain rfl := hm43.trans (hm18).symm
  obtain ⟨rfl, rfl⟩ := IsL.uniq hl47 hl63
  exact ⟨_, .refl _, [], _, _, [(0, 0), (1, 1), (2, 2), (3, 3), (4, 4), (5, 5), (10, 6), (17, 7), (33, 8), (39, 9), (45, 10), (23, 11)], _, rfl, rfl, rfl, rfl, rfl, rfl⟩
end Go.AX
