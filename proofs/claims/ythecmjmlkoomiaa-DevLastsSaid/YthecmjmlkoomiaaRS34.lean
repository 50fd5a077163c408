/- What functions of the program compute: each is what its Lean function says. -/
import Derived.Test.YthecmjmlkoomiaaRS1
import Derived.Test.YthecmjmlkoomiaaRS2
import Derived.Test.YthecmjmlkoomiaaRS31
namespace Go.AX
open Go.Proofs
set_option autoImplicit false
set_option linter.unusedVariables false
set_option maxRecDepth 100000
set_option maxHeartbeats 100000000
set_option linter.unusedSimpArgs false

theorem s53_1 {v1 : Int} {v2 : Int} {v3 : Int} {v4 : Int} {v5 : Int} {v6 : Int} {l7 : List TZone} {c8 : List D} {n9 : Nat} {m11 : List (Int × Bool)} {c12 : List (List D × List D)} {m14 : List (TAt × (Ar 64))} {c15 : List (List D × List D)} {m17 : List (TAt × (Ar 64))} {c18 : List (List D × List D)} {l20 : List TDev_write} {c21 : List D} {n22 : Nat} {v24 : Int} {b25 : Bool} {v26 : Int} (hl10 : IsL eZone c8 n9 l7) (hm13 : c12 = encM (eI .i64) eB m11) (hm16 : c15 = encM eAt (eA .u8) m14) (hm19 : c18 = encM eAt (eA .u8) m17) (hl23 : IsL eDev_write c21 n22 l20) {v27 : Int} {v28 : Int} {v29 : Int} {v30 : Int} {v31 : Int} {v32 : Int} {l33 : List TZone} {c34 : List D} {n35 : Nat} {m37 : List (Int × Bool)} {c38 : List (List D × List D)} {m40 : List (TAt × (Ar 64))} {c41 : List (List D × List D)} {m43 : List (TAt × (Ar 64))} {c44 : List (List D × List D)} {l46 : List TDev_write} {c47 : List D} {n48 : Nat} {v50 : Int} {b51 : Bool} {v52 : Int} (hl36 : IsL eZone c34 n35 l33) (hm39 : c38 = encM (eI .i64) eB m37) (hm42 : c41 = encM eAt (eA .u8) m40) (hm45 : c44 = encM eAt (eA .u8) m43) (hl49 : IsL eDev_write c47 n48 l46) (h : m___dev_Device__command_ v1 (TDev_Device.mk (TGeom.mk v2 v3 v4 v5 v6) l7 m11 m14 m17 l20 v24 b25 v26) = some (v27, (TDev_Device.mk (TGeom.mk v28 v29 v30 v31 v32) l33 m37 m40 m43 l46 v50 b51 v52))) : SpecM Try.prog 53 7 [(0, .box [.d (.int .i64 v2), .d (.int .i64 v3), .d (.int .i64 v4), .d (.int .i64 v5), .d (.int .i64 v6), .own 2 n9 2, .map 3, .map 4, .map 5, .own 6 n22 66, .d (.int .i64 v24), .d (.bool b25), .d (.int .i64 v26)]), (1, .box [.ptr 0 0]), (2, .row c8 2 53), (3, .mp false false c12), (4, .mp true true c15), (5, .mp true true c18), (6, .row c21 66 109)] [.ptr 0 0, .own 2 n9 2, .d (.int .i64 v1), .fn 54 [.ptr 1 0]] ⟨.d (.int .i64 v27), [(0, .box [.d (.int .i64 v28), .d (.int .i64 v29), .d (.int .i64 v30), .d (.int .i64 v31), .d (.int .i64 v32), .own 2 n35 2, .map 3, .map 4, .map 5, .own 7 n48 66, .d (.int .i64 v50), .d (.bool b51), .d (.int .i64 v52)]), (1, .box [.ptr 0 0]), (2, .row c34 2 53), (3, .mp false false c38), (4, .mp true true c41), (5, .mp true true c44), (7, .row c47 66 109), (6, .dead)], 1, True⟩ := by
  refine specM_b [] 6 7 Try.func53 rfl rfl rfl rfl rfl rfl fun J P hJ hP => ?_
  dsimp only [m___dev_Device__command_] at h
  cbv
  cases b25 with
  | true =>
    replace h := cnd_t h
    cbv
    cases h
    obtain ⟨rfl, rfl⟩ := IsL.uniq hl36 hl10
    obtain rfl := hm39.trans (hm13).symm
    obtain rfl := hm42.trans (hm16).symm
    obtain rfl := hm45.trans (hm19).symm
    obtain ⟨rfl, rfl⟩ := IsL.uniq hl49 hl23
    exact ⟨_, .refl _, [], _, _, [(0, 0), (1, 1), (2, 2), (3, 3), (4, 4), (5, 5), (6, 7)], _, rfl, rfl, rfl, rfl, rfl, rfl⟩
  | false =>
    replace h := cnd_f h
    cbv
    obtain ⟨⟨v56, ⟨⟨v57, v58, v59, v60, v61⟩, l62, m66, m69, m72, l75, v79, b80, v81⟩⟩, h55, h⟩ := bnd h
    obtain ⟨c63, n64, hl65⟩ := nameL eZone l62
    obtain ⟨c67, hm68⟩ := nameM (eI .i64) eB m66
    obtain ⟨c70, hm71⟩ := nameM eAt (eA .u8) m69
    obtain ⟨c73, hm74⟩ := nameM eAt (eA .u8) m72
    obtain ⟨c76, n77, hl78⟩ := nameL eDev_write l75
    try dsimp only at h
    obtain ⟨_, h140, h⟩ := bnd h
    obtain rfl := lenq_n h140 hl65 hl10
    obtain ⟨_, h141, h⟩ := bnd h
    obtain rfl := lenq_n h141 hl78 hl23
    refine callM_by hP (s61 hl10 hm13 hm16 hm19 hl23 hl65 hm68 hm71 hm74 hl78 h55) [(0, 0), (2, 1), (3, 2), (4, 3), (5, 4), (6, 5)] false hJ rfl rfl rfl rfl rfl (.inl rfl) ?_
    cbv
    revert h
    refine st_cmp hJ fun b82 eb82 h => ?_
    cbv
    cases b82 with
    | true =>
      replace h := cnd_t h
      cbv
      cases h
      obtain ⟨rfl, rfl⟩ := IsL.uniq hl36 hl65
      obtain rfl := hm39.trans (hm68).symm
      obtain rfl := hm42.trans (hm71).symm
      obtain rfl := hm45.trans (hm74).symm
      obtain ⟨rfl, rfl⟩ := IsL.uniq hl49 hl78
      exact ⟨_, .refl _, [], _, _, [(0, 0), (1, 1), (2, 2), (3, 3), (4, 4), (5, 5), (6, 7)], _, rfl, rfl, rfl, rfl, rfl, rfl⟩
    | false =>
      replace h := cnd_f h
      cbv
      obtain ⟨⟨⟨v85, v86, v87, v88, v89⟩, l90, m94, m97, m100, l103, v107, b108, v109⟩, h84, h⟩ := bnd h
      obtain ⟨c91, n92, hl93⟩ := nameL eZone l90
      obtain ⟨c95, hm96⟩ := nameM (eI .i64) eB m94
      obtain ⟨c98, hm99⟩ := nameM eAt (eA .u8) m97
      obtain ⟨c101, hm102⟩ := nameM eAt (eA .u8) m100
      obtain ⟨c104, n105, hl106⟩ := nameL eDev_write l103
      try dsimp only at h
      obtain ⟨_, h139, h⟩ := bnd h
      obtain rfl := lenq_n h139 hl93 hl65
      refine callM_by hP (s54 hl65 hm68 hm71 hm74 hl78 hl93 hm96 hm99 hm102 hl106 h84) [(1, 0), (0, 1), (2, 2), (3, 3), (4, 4), (5, 5), (6, 6)] false hJ rfl rfl rfl rfl rfl (.inl rfl) ?_
      cbv
      obtain ⟨⟨⟨v112, v113, v114, v115, v116⟩, l117, m121, m124, m127, l130, v134, b135, v136⟩, h111, h⟩ := bnd h
      obtain ⟨c118, n119, hl120⟩ := nameL eZone l117
      obtain ⟨c122, hm123⟩ := nameM (eI .i64) eB m121
      obtain ⟨c125, hm126⟩ := nameM eAt (eA .u8) m124
      obtain ⟨c128, hm129⟩ := nameM eAt (eA .u8) m127
      obtain ⟨c131, n132, hl133⟩ := nameL eDev_write l130
      try dsimp only at h
      obtain ⟨_, h137, h⟩ := bnd h
      obtain rfl := lenq_n h137 hl120 hl93
      obtain ⟨_, h138, h⟩ := bnd h
      obtain rfl := lenq_n h138 hl133 hl106
      refine callM_by hP (s87 hl93 hm96 hm99 hm102 hl106 hl120 hm123 hm126 hm129 hl133 h111) [(0, 0), (2, 1), (3, 2), (4, 3), (5, 4), (22, 5)] false hJ rfl rfl rfl rfl rfl (.inl rfl) ?_
      cbv
      cases h
      obtain ⟨rfl, rfl⟩ := IsL.uniq hl36 hl120
      obtain rfl := hm39.trans (hm123).symm
      obtain rfl := hm42.trans (hm126).symm
      obtain rfl := hm45.trans (hm129).symm
      obtain ⟨rfl, rfl⟩ := IsL.uniq hl49 hl133
      exact ⟨_, .refl _, [], _, _, [(0, 0), (1, 1), (2, 2), (3, 3), (4, 4), (5, 5), (22, 7)], _, rfl, rfl, rfl, rfl, rfl, rfl⟩
end Go.AX
