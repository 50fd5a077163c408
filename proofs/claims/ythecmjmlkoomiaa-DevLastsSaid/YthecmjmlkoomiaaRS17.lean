/- What functions of the program compute: each is what its Lean function says. -/
import Derived.Test.YthecmjmlkoomiaaRS1
import Derived.Test.YthecmjmlkoomiaaRS6
namespace Go.AX
open Go.Proofs
set_option autoImplicit false
set_option linter.unusedVariables false
set_option maxRecDepth 100000
set_option maxHeartbeats 100000000
set_option linter.unusedSimpArgs false

theorem s20 {v1 : Int} {v2 : Int} {v3 : Int} {v4 : Int} {v5 : Int} {l6 : List TZone} {c7 : List D} {n8 : Nat} {m10 : List (Int × Bool)} {c11 : List (List D × List D)} {m13 : List (TAt × (Ar 64))} {c14 : List (List D × List D)} {m16 : List (TAt × (Ar 64))} {c17 : List (List D × List D)} {l19 : List TDev_write} {c20 : List D} {n21 : Nat} {v23 : Int} {b24 : Bool} {v25 : Int} (hl9 : IsL eZone c7 n8 l6) (hm12 : c11 = encM (eI .i64) eB m10) (hm15 : c14 = encM eAt (eA .u8) m13) (hm18 : c17 = encM eAt (eA .u8) m16) (hl22 : IsL eDev_write c20 n21 l19) {l26 : List TZone} {c27 : List D} {n28 : Nat} (hl29 : IsL eZone c27 n28 l26) (h : m___dev_Device__Zones (TDev_Device.mk (TGeom.mk v1 v2 v3 v4 v5) l6 m10 m13 m16 l19 v23 b24 v25) = some l26) : SpecM Try.prog 20 6 [(0, .box [.d (.int .i64 v1), .d (.int .i64 v2), .d (.int .i64 v3), .d (.int .i64 v4), .d (.int .i64 v5), .own 1 n8 2, .map 2, .map 3, .map 4, .own 5 n21 66, .d (.int .i64 v23), .d (.bool b24), .d (.int .i64 v25)]), (1, .row c7 2 53), (2, .mp false false c11), (3, .mp true true c14), (4, .mp true true c17), (5, .row c20 66 109)] [.ptr 0 0] ⟨.own 6 n28 2, [(0, .box [.d (.int .i64 v1), .d (.int .i64 v2), .d (.int .i64 v3), .d (.int .i64 v4), .d (.int .i64 v5), .own 1 n8 2, .map 2, .map 3, .map 4, .own 5 n21 66, .d (.int .i64 v23), .d (.bool b24), .d (.int .i64 v25)]), (1, .row c7 2 53), (2, .mp false false c11), (3, .mp true true c14), (4, .mp true true c17), (5, .row c20 66 109), (6, .row c27 2 53)], 1, True⟩ := by
  refine specM_b [] 6 6 Try.func20 rfl rfl rfl rfl rfl rfl fun J P hJ hP => ?_
  dsimp only [m___dev_Device__Zones] at h
  cbv
  obtain ⟨l33, h32, h⟩ := bnd h
  obtain ⟨c34, n35, hl36⟩ := nameL eZone l33
  refine snap_by hP (s57 hl9 hl36 h32) hJ (by cbv) rfl ⟨trivial, ⟨noL_enc hl36 eZone_noL, trivial⟩⟩ ?_
  cbv
  cases h
  obtain ⟨rfl, rfl⟩ := IsL.uniq hl29 hl36
  exact ⟨_, .refl _, [], _, _, [(0, 0), (1, 1), (2, 2), (3, 3), (4, 4), (5, 5), (11, 6)], _, rfl, rfl, rfl, rfl, rfl, rfl⟩
theorem s23 {v1 : Int} {v2 : Int} {v3 : Int} {v4 : Int} {v5 : Int} {l6 : List TZone} {c7 : List D} {n8 : Nat} {l10 : List Int} {c11 : List D} {n12 : Nat} {l14 : List TRef05_Cell} {c15 : List D} {n16 : Nat} {l18 : List TRef05_Cell} {c19 : List D} {n20 : Nat} {b22 : Bool} {v23 : Int} {b24 : Bool} {v25 : Int} {v26 : Int} {v27 : Int} (hl9 : IsL eZone c7 n8 l6) (hl13 : IsL (eI .i64) c11 n12 l10) (hl17 : IsL eRef05_Cell c15 n16 l14) (hl21 : IsL eRef05_Cell c19 n20 l18) {a28 : Ar 64} {d29 : List D} (ha30 : d29 = encL (eI .u8) a28.l) (h : m_ref05_Page (TRef05_Disk.mk (TGeom.mk v1 v2 v3 v4 v5) l6 l10 l14 l18 b22 v23 b24 v25) (TAt.mk v26 v27) = some a28) : Spec Try.prog 23 [.agg [.d (.int .i64 v1), .d (.int .i64 v2), .d (.int .i64 v3), .d (.int .i64 v4), .d (.int .i64 v5), .d (.lst c7 n8), .d (.lst c11 n12), .d (.lst c15 n16), .d (.lst c19 n20), .d (.bool b22), .d (.int .i64 v23), .d (.bool b24), .d (.int .i64 v25)], .agg [.d (.int .i64 v26), .d (.int .i64 v27)]] ⟨.agg [.big 64 d29], [], 0, True⟩ := by
  refine spec_b [] Try.func23 rfl rfl rfl fun J P hJ hP => ?_
  dsimp only [m_ref05_Page] at h
  cbv
  obtain ⟨⟨a34, b37⟩, h33, h⟩ := bnd h
  obtain ⟨d35, ha36⟩ := nameA .u8 a34
  try dsimp only at h
  refine call_by hP (s63 hl21 ha36 h33) hJ rfl rfl ?_
  cbv
  revert h
  refine st_not hJ fun b38 eb38 h => ?_
  cbv
  cases b38 with
  | true =>
    replace h := cnd_t h
    cbv
    obtain ⟨⟨a41, b44⟩, h40, h⟩ := bnd h
    obtain ⟨d42, ha43⟩ := nameA .u8 a41
    try dsimp only at h
    refine call_by hP (s63 hl17 ha43 h40) hJ rfl rfl ?_
    cbv
    cases h
    obtain rfl := ha30.trans (ha43).symm
    exact ⟨_, .refl _, [], _, _, [], _, rfl, rfl, rfl, rfl, rfl, rfl⟩
  | false =>
    replace h := cnd_f h
    cbv
    cases h
    obtain rfl := ha30.trans (ha36).symm
    exact ⟨_, .refl _, [], _, _, [], _, rfl, rfl, rfl, rfl, rfl, rfl⟩
end Go.AX
