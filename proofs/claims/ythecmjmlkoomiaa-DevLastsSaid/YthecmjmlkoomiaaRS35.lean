/- What functions of the program compute: each is what its Lean function says. -/
import Derived.Test.YthecmjmlkoomiaaRS1
import Derived.Test.YthecmjmlkoomiaaRS2
import Derived.Test.YthecmjmlkoomiaaRS32
namespace Go.AX
open Go.Proofs
set_option autoImplicit false
set_option linter.unusedVariables false
set_option maxRecDepth 100000
set_option maxHeartbeats 100000000
set_option linter.unusedSimpArgs false

theorem s53_2 {l1 : List TZone} {c2 : List D} {n3 : Nat} {v5 : Int} {v6 : Int} {v7 : Int} {v8 : Int} {v9 : Int} {v10 : Int} {l11 : List TZone} {c12 : List D} {n13 : Nat} {m15 : List (Int × Bool)} {c16 : List (List D × List D)} {m18 : List (TAt × (Ar 64))} {c19 : List (List D × List D)} {m21 : List (TAt × (Ar 64))} {c22 : List (List D × List D)} {l24 : List TDev_write} {c25 : List D} {n26 : Nat} {v28 : Int} {b29 : Bool} {v30 : Int} {v31 : Int} (hl4 : IsL eZone c2 n3 l1) (hl14 : IsL eZone c12 n13 l11) (hm17 : c16 = encM (eI .i64) eB m15) (hm20 : c19 = encM eAt (eA .u8) m18) (hm23 : c22 = encM eAt (eA .u8) m21) (hl27 : IsL eDev_write c25 n26 l24) {v32 : Int} {v33 : Int} {v34 : Int} {v35 : Int} {v36 : Int} {v37 : Int} {l38 : List TZone} {c39 : List D} {n40 : Nat} {m42 : List (Int × Bool)} {c43 : List (List D × List D)} {m45 : List (TAt × (Ar 64))} {c46 : List (List D × List D)} {m48 : List (TAt × (Ar 64))} {c49 : List (List D × List D)} {l51 : List TDev_write} {c52 : List D} {n53 : Nat} {v55 : Int} {b56 : Bool} {v57 : Int} (hl41 : IsL eZone c39 n40 l38) (hm44 : c43 = encM (eI .i64) eB m42) (hm47 : c46 = encM eAt (eA .u8) m45) (hm50 : c49 = encM eAt (eA .u8) m48) (hl54 : IsL eDev_write c52 n53 l51) (h : m___dev_Device__command__ l1 v5 (TDev_Device.mk (TGeom.mk v6 v7 v8 v9 v10) l11 m15 m18 m21 l24 v28 b29 v30) v31 = some (v32, (TDev_Device.mk (TGeom.mk v33 v34 v35 v36 v37) l38 m42 m45 m48 l51 v55 b56 v57))) : SpecM Try.prog 53 9 [(0, .box [.d (.int .i64 v6), .d (.int .i64 v7), .d (.int .i64 v8), .d (.int .i64 v9), .d (.int .i64 v10), .own 7 n13 2, .map 3, .map 4, .map 5, .own 8 n26 66, .d (.int .i64 v28), .d (.bool b29), .d (.int .i64 v30)]), (1, .box [.ptr 0 0]), (2, .box [.d (.int .i64 v31)]), (3, .mp false false c16), (4, .mp true true c19), (5, .mp true true c22), (6, .row c2 2 53), (7, .row c12 2 53), (8, .row c25 66 109)] [.ptr 0 0, .own 6 n3 2, .d (.int .i64 v5), .fn 79 [.ptr 1 0, .ptr 2 0]] ⟨.d (.int .i64 v32), [(0, .box [.d (.int .i64 v33), .d (.int .i64 v34), .d (.int .i64 v35), .d (.int .i64 v36), .d (.int .i64 v37), .own 9 n40 2, .map 3, .map 4, .map 5, .own 10 n53 66, .d (.int .i64 v55), .d (.bool b56), .d (.int .i64 v57)]), (1, .box [.ptr 0 0]), (2, .box [.d (.int .i64 v31)]), (3, .mp false false c43), (4, .mp true true c46), (5, .mp true true c49), (9, .row c39 2 53), (10, .row c52 66 109), (8, .dead), (7, .dead), (6, .dead)], 2, True⟩ := by
  refine specM_b [] 6 9 Try.func53 rfl rfl rfl rfl rfl rfl fun J P hJ hP => ?_
  dsimp only [m___dev_Device__command__] at h
  cbv
  cases b29 with
  | true =>
    replace h := cnd_t h
    cbv
    cases h
    obtain ⟨rfl, rfl⟩ := IsL.uniq hl41 hl14
    obtain rfl := hm44.trans (hm17).symm
    obtain rfl := hm47.trans (hm20).symm
    obtain rfl := hm50.trans (hm23).symm
    obtain ⟨rfl, rfl⟩ := IsL.uniq hl54 hl27
    exact ⟨_, .refl _, [], _, _, [(0, 0), (1, 1), (2, 2), (3, 3), (4, 4), (5, 5), (7, 9), (8, 10)], _, rfl, rfl, rfl, rfl, rfl, rfl⟩
  | false =>
    replace h := cnd_f h
    cbv
    obtain ⟨⟨v61, ⟨⟨v62, v63, v64, v65, v66⟩, l67, m71, m74, m77, l80, v84, b85, v86⟩⟩, h60, h⟩ := bnd h
    obtain ⟨c68, n69, hl70⟩ := nameL eZone l67
    obtain ⟨c72, hm73⟩ := nameM (eI .i64) eB m71
    obtain ⟨c75, hm76⟩ := nameM eAt (eA .u8) m74
    obtain ⟨c78, hm79⟩ := nameM eAt (eA .u8) m77
    obtain ⟨c81, n82, hl83⟩ := nameL eDev_write l80
    try dsimp only at h
    obtain ⟨_, h145, h⟩ := bnd h
    obtain rfl := lenq_n h145 hl70 hl14
    obtain ⟨_, h146, h⟩ := bnd h
    obtain rfl := lenq_n h146 hl83 hl27
    refine callM_by hP (s61 hl14 hm17 hm20 hm23 hl27 hl70 hm73 hm76 hm79 hl83 h60) [(0, 0), (7, 1), (3, 2), (4, 3), (5, 4), (8, 5)] false hJ rfl rfl rfl rfl rfl (.inl rfl) ?_
    cbv
    revert h
    refine st_cmp hJ fun b87 eb87 h => ?_
    cbv
    cases b87 with
    | true =>
      replace h := cnd_t h
      cbv
      cases h
      obtain ⟨rfl, rfl⟩ := IsL.uniq hl41 hl70
      obtain rfl := hm44.trans (hm73).symm
      obtain rfl := hm47.trans (hm76).symm
      obtain rfl := hm50.trans (hm79).symm
      obtain ⟨rfl, rfl⟩ := IsL.uniq hl54 hl83
      exact ⟨_, .refl _, [], _, _, [(0, 0), (1, 1), (2, 2), (3, 3), (4, 4), (5, 5), (7, 9), (8, 10)], _, rfl, rfl, rfl, rfl, rfl, rfl⟩
    | false =>
      replace h := cnd_f h
      cbv
      obtain ⟨⟨⟨v90, v91, v92, v93, v94⟩, l95, m99, m102, m105, l108, v112, b113, v114⟩, h89, h⟩ := bnd h
      obtain ⟨c96, n97, hl98⟩ := nameL eZone l95
      obtain ⟨c100, hm101⟩ := nameM (eI .i64) eB m99
      obtain ⟨c103, hm104⟩ := nameM eAt (eA .u8) m102
      obtain ⟨c106, hm107⟩ := nameM eAt (eA .u8) m105
      obtain ⟨c109, n110, hl111⟩ := nameL eDev_write l108
      try dsimp only at h
      obtain ⟨_, h144, h⟩ := bnd h
      obtain rfl := lenq_n h144 hl98 hl4
      refine callM_by hP (s79 hl4 hm73 hm76 hm79 hl83 hl98 hm101 hm104 hm107 hl111 h89) [(1, 0), (2, 1), (0, 2), (6, 3), (3, 4), (4, 5), (5, 6), (8, 7)] false hJ rfl rfl rfl rfl rfl (.inl rfl) ?_
      cbv
      obtain ⟨⟨⟨v117, v118, v119, v120, v121⟩, l122, m126, m129, m132, l135, v139, b140, v141⟩, h116, h⟩ := bnd h
      obtain ⟨c123, n124, hl125⟩ := nameL eZone l122
      obtain ⟨c127, hm128⟩ := nameM (eI .i64) eB m126
      obtain ⟨c130, hm131⟩ := nameM eAt (eA .u8) m129
      obtain ⟨c133, hm134⟩ := nameM eAt (eA .u8) m132
      obtain ⟨c136, n137, hl138⟩ := nameL eDev_write l135
      try dsimp only at h
      obtain ⟨_, h142, h⟩ := bnd h
      obtain rfl := lenq_n h142 hl125 hl98
      obtain ⟨_, h143, h⟩ := bnd h
      obtain rfl := lenq_n h143 hl138 hl111
      refine callM_by hP (s87 hl98 hm101 hm104 hm107 hl111 hl125 hm128 hm131 hm134 hl138 h116) [(0, 0), (6, 1), (3, 2), (4, 3), (5, 4), (24, 5)] false hJ rfl rfl rfl rfl rfl (.inl rfl) ?_
      cbv
      cases h
      obtain ⟨rfl, rfl⟩ := IsL.uniq hl41 hl125
      obtain rfl := hm44.trans (hm128).symm
      obtain rfl := hm47.trans (hm131).symm
      obtain rfl := hm50.trans (hm134).symm
      obtain ⟨rfl, rfl⟩ := IsL.uniq hl54 hl138
      exact ⟨_, .refl _, [], _, _, [(0, 0), (1, 1), (2, 2), (3, 3), (4, 4), (5, 5), (6, 9), (24, 10)], _, rfl, rfl, rfl, rfl, rfl, rfl⟩
end Go.AX
