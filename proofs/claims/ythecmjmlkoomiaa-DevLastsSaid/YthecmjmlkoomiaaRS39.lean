/- What functions of the program compute: each is what its Lean function says. -/
import Derived.Test.YthecmjmlkoomiaaRS1
import Derived.Test.YthecmjmlkoomiaaRS20
import Derived.Test.YthecmjmlkoomiaaRS28
import Derived.Test.YthecmjmlkoomiaaRS31
import Derived.Test.YthecmjmlkoomiaaRS32
import Derived.Test.YthecmjmlkoomiaaRS37
import Derived.Test.YthecmjmlkoomiaaRS4
namespace Go.AX
open Go.Proofs
set_option autoImplicit false
set_option linter.unusedVariables false
set_option maxRecDepth 100000
set_option maxHeartbeats 100000000
set_option linter.unusedSimpArgs false

theorem s11   {b1 : Bool}  (h : m_law05_awake  = some b1) : Spec Try.prog 11 [] ⟨.d (.bool b1), [], 0, True⟩ := by
  refine spec_b [5, 15] Try.func11 rfl rfl rfl fun J P hJ hP => ?_
  dsimp only [m_law05_awake] at h
  cbv
  obtain ⟨⟨⟨v5, v6, v7, v8, v9⟩, l10, m14, m17, m20, l23, v27, b28, v29⟩, h4, h⟩ := bnd h
  obtain ⟨c11, n12, hl13⟩ := nameL eZone l10
  obtain ⟨c15, hm16⟩ := nameM (eI .i64) eB m14
  obtain ⟨c18, hm19⟩ := nameM eAt (eA .u8) m17
  obtain ⟨c21, hm22⟩ := nameM eAt (eA .u8) m20
  obtain ⟨c24, n25, hl26⟩ := nameL eDev_write l23
  try dsimp only at h
  refine callM_by hP (s13 hl13 hm16 hm19 hm22 hl26 h4) [] false hJ rfl rfl rfl rfl rfl (.inl rfl) ?_
  cbv
  refine JoinP.mk Unit (fun _ => ⟨[(1, .ptr 0 0)], [(0, .box [.d (.int .i64 v5), .d (.int .i64 v6), .d (.int .i64 v7), .d (.int .i64 v8), .d (.int .i64 v9), .own 1 n12 2, .map 2, .map 3, .map 4, .own 5 0 66, .d (.int .i64 v27), .d (.bool b28), .d (.int .i64 v29)]), (1, .row c11 2 53), (2, .mp false false c15), (3, .mp true true c18), (4, .mp true true c21), (5, .row [] 66 109)], 6, 81⟩) (fun _ => True) [1] ⟨(), [(2, 0), (3, 1), (4, 2), (5, 3), (6, 4)], 5, [.cell 0 9 5 66 109], rfl, trivial⟩ ?_
  intro _ _
  cbv
  obtain ⟨a32, h31, h⟩ := bnd h
  obtain ⟨d33, ha34⟩ := nameA .u8 a32
  refine call_by hP (s41 ha34 h31) hJ rfl rfl ?_
  cbv
  obtain ⟨⟨v37, ⟨⟨v38, v39, v40, v41, v42⟩, l43, m47, m50, m53, l56, v60, b61, v62⟩⟩, h36, h⟩ := bnd h
  obtain ⟨c44, n45, hl46⟩ := nameL eZone l43
  obtain ⟨c48, hm49⟩ := nameM (eI .i64) eB m47
  obtain ⟨c51, hm52⟩ := nameM eAt (eA .u8) m50
  obtain ⟨c54, hm55⟩ := nameM eAt (eA .u8) m53
  obtain ⟨c57, n58, hl59⟩ := nameL eDev_write l56
  try dsimp only at h
  refine callM_by hP (s26 ha34 hl13 hm16 hm19 hm22 (IsL.nil' (g := eDev_write)) hl46 hm49 hm52 hm55 hl59 h36) [(0, 0), (2, 1), (3, 2), (4, 3), (1, 4), (5, 5)] false hJ rfl rfl rfl rfl rfl (.inl rfl) ?_
  cbv
  obtain ⟨⟨v65, ⟨⟨v66, v67, v68, v69, v70⟩, l71, m75, m78, m81, l84, v88, b89, v90⟩⟩, h64, h⟩ := bnd h
  obtain ⟨c72, n73, hl74⟩ := nameL eZone l71
  obtain ⟨c76, hm77⟩ := nameM (eI .i64) eB m75
  obtain ⟨c79, hm80⟩ := nameM eAt (eA .u8) m78
  obtain ⟨c82, hm83⟩ := nameM eAt (eA .u8) m81
  obtain ⟨c85, n86, hl87⟩ := nameL eDev_write l84
  try dsimp only at h
  obtain ⟨_, h272, h⟩ := bnd h
  obtain rfl := lenq_n h272 hl74 hl46
  refine callM_by hP (s18 hl46 hm49 hm52 hm55 hl59 hl74 hm77 hm80 hm83 hl87 h64) [(0, 0), (9, 1), (2, 2), (3, 3), (4, 4), (10, 5)] false hJ rfl rfl rfl rfl rfl (.inl rfl) ?_
  cbv
  obtain ⟨a93, h92, h⟩ := bnd h
  obtain ⟨d94, ha95⟩ := nameA .u8 a93
  refine call_by hP (s41 ha95 h92) hJ rfl rfl ?_
  cbv
  obtain ⟨⟨v98, ⟨⟨v99, v100, v101, v102, v103⟩, l104, m108, m111, m114, l117, v121, b122, v123⟩⟩, h97, h⟩ := bnd h
  obtain ⟨c105, n106, hl107⟩ := nameL eZone l104
  obtain ⟨c109, hm110⟩ := nameM (eI .i64) eB m108
  obtain ⟨c112, hm113⟩ := nameM eAt (eA .u8) m111
  obtain ⟨c115, hm116⟩ := nameM eAt (eA .u8) m114
  obtain ⟨c118, n119, hl120⟩ := nameL eDev_write l117
  try dsimp only at h
  refine callM_by hP (s26 ha95 hl74 hm77 hm80 hm83 hl87 hl107 hm110 hm113 hm116 hl120 h97) [(0, 0), (2, 1), (3, 2), (4, 3), (9, 4), (14, 5)] false hJ rfl rfl rfl rfl rfl (.inl rfl) ?_
  cbv
  obtain ⟨⟨a126, v129, ⟨⟨v130, v131, v132, v133, v134⟩, l135, m139, m142, m145, l148, v152, b153, v154⟩⟩, h125, h⟩ := bnd h
  obtain ⟨d127, ha128⟩ := nameA .u8 a126
  obtain ⟨c136, n137, hl138⟩ := nameL eZone l135
  obtain ⟨c140, hm141⟩ := nameM (eI .i64) eB m139
  obtain ⟨c143, hm144⟩ := nameM eAt (eA .u8) m142
  obtain ⟨c146, hm147⟩ := nameM eAt (eA .u8) m145
  obtain ⟨c149, n150, hl151⟩ := nameL eDev_write l148
  try dsimp only at h
  obtain ⟨_, h270, h⟩ := bnd h
  obtain rfl := lenq_n h270 hl138 hl107
  obtain ⟨_, h271, h⟩ := bnd h
  obtain rfl := lenq_n h271 hl151 hl120
  refine callM_by hP (s22 hl107 hm110 hm113 hm116 hl120 ha128 hl138 hm141 hm144 hm147 hl151 h125) [(0, 0), (20, 1), (2, 2), (3, 3), (4, 4), (21, 5)] false hJ rfl rfl rfl rfl rfl (.inl rfl) ?_
  cbv
  obtain ⟨⟨⟨v157, v158, v159, v160, v161⟩, l162, m166, m169, m172, l175, v179, b180, v181⟩, h156, h⟩ := bnd h
  obtain ⟨c163, n164, hl165⟩ := nameL eZone l162
  obtain ⟨c167, hm168⟩ := nameM (eI .i64) eB m166
  obtain ⟨c170, hm171⟩ := nameM eAt (eA .u8) m169
  obtain ⟨c173, hm174⟩ := nameM eAt (eA .u8) m172
  obtain ⟨c176, n177, hl178⟩ := nameL eDev_write l175
  try dsimp only at h
  refine callM_by hP (SpecM.nils (s21 IsL.nil' hl138 hm141 hm144 hm147 hl151 hl165 hm168 hm171 hm174 hl178 h156) (.cons _ (.agg (.nil (.cons _ (.cons _ (.refl _)))) (.refl _)))) [(0, 0), (2, 1), (3, 2), (20, 3), (4, 4), (21, 5)] false hJ rfl rfl rfl rfl rfl (.inl rfl) ?_
  cbv
  refine JoinP.mk Unit (fun _ => ⟨[(1, .ptr 0 0), (2, .d (.int .i64 v37)), (3, .d (.int .i64 v65)), (4, .d (.int .i64 v98)), (5, .ptr 1 0), (6, .d (.int .i64 v129))], [(0, .box [.d (.int .i64 v157), .d (.int .i64 v158), .d (.int .i64 v159), .d (.int .i64 v160), .d (.int .i64 v161), .own 2 n164 2, .map 3, .map 4, .map 5, .own 6 0 66, .d (.int .i64 v179), .d (.bool b180), .d (.int .i64 v181)]), (1, .box [.big 64 d127]), (2, .row c163 2 53), (3, .mp false false c167), (4, .mp true true c170), (5, .mp true true c173), (6, .row [] 66 109)], 7, 81⟩) (fun _ => True) [1, 2, 3, 4, 5, 6] ⟨(), [(0, 0), (30, 1), (36, 2), (2, 3), (3, 4), (37, 5)], 6, [.cell 0 9 6 66 109], rfl, trivial⟩ ?_
  intro _ _
  cbv
  obtain ⟨⟨a184, v187, ⟨⟨v188, v189, v190, v191, v192⟩, l193, m197, m200, m203, l206, v210, b211, v212⟩⟩, h183, h⟩ := bnd h
  obtain ⟨d185, ha186⟩ := nameA .u8 a184
  obtain ⟨c194, n195, hl196⟩ := nameL eZone l193
  obtain ⟨c198, hm199⟩ := nameM (eI .i64) eB m197
  obtain ⟨c201, hm202⟩ := nameM eAt (eA .u8) m200
  obtain ⟨c204, hm205⟩ := nameM eAt (eA .u8) m203
  obtain ⟨c207, n208, hl209⟩ := nameL eDev_write l206
  try dsimp only at h
  obtain ⟨_, h268, h⟩ := bnd h
  obtain rfl := lenq_n h268 hl196 hl165
  obtain ⟨_, h269, h⟩ := bnd h
  obtain rfl := lenq_n h269 hl209 (IsL.nil' (g := eDev_write))
  refine callM_by hP (s22 hl165 hm168 hm171 hm174 (IsL.nil' (g := eDev_write)) ha186 hl196 hm199 hm202 hm205 hl209 h183) [(0, 0), (2, 1), (3, 2), (4, 3), (5, 4), (6, 5)] false hJ rfl rfl rfl rfl rfl (.inl rfl) ?_
  cbv
  obtain ⟨⟨a215, v218, ⟨⟨v219, v220, v221, v222, v223⟩, l224, m228, m231, m234, l237, v241, b242, v243⟩⟩, h214, h⟩ := bnd h
  obtain ⟨d216, ha217⟩ := nameA .u8 a215
  obtain ⟨c225, n226, hl227⟩ := nameL eZone l224
  obtain ⟨c229, hm230⟩ := nameM (eI .i64) eB m228
  obtain ⟨c232, hm233⟩ := nameM eAt (eA .u8) m231
  obtain ⟨c235, hm236⟩ := nameM eAt (eA .u8) m234
  obtain ⟨c238, n239, hl240⟩ := nameL eDev_write l237
  try dsimp only at h
  obtain ⟨_, h266, h⟩ := bnd h
  obtain rfl := lenq_n h266 hl227 hl196
  obtain ⟨_, h267, h⟩ := bnd h
  obtain rfl := lenq_n h267 hl240 hl209
  refine callM_by hP (s22 hl196 hm199 hm202 hm205 hl209 ha217 hl227 hm230 hm233 hm236 hl240 h214) [(0, 0), (2, 1), (3, 2), (4, 3), (5, 4), (6, 5)] false hJ rfl rfl rfl rfl rfl (.inl rfl) ?_
  cbv
  revert h
  refine st_cmp hJ fun b244 eb244 h => ?_
  cbv
  cases b244 with
  | true =>
    replace h := cnd_t h
    cbv
    revert h
    refine st_cmp hJ fun b245 eb245 h => ?_
    cbv
    cases b245 with
    | true =>
      replace h := cnd_t h
      cbv
      revert h
      refine st_cmp hJ fun b246 eb246 h => ?_
      cbv
      cases b246 with
      | true =>
        replace h := cnd_t h
        cbv
        revert h
        refine st_cmp hJ fun b247 eb247 h => ?_
        cbv
        cases b247 with
        | true =>
          replace h := cnd_t h
          cbv
          obtain ⟨a250, h249, h⟩ := bnd h
          obtain ⟨d251, ha252⟩ := nameA .u8 a250
          refine call_by hP (s41 ha252 h249) hJ rfl rfl ?_
          cbv
          revert h
          refine st_eqL hJ (neg := false) (e := ((a126.l == a250.l) && true)) (show eqLs [.big 64 .u8] [.big 64 d127] [.big 64 d251] _ from ⟨rfl, rfl, _, _, _, (ha128).trans (encI_map _ _), (ha252).trans (encI_map _ _), Ar.h _, Ar.h _, rfl, rfl⟩) rfl fun b253 eb253 h => ?_
          cbv
          cases b253 with
          | true =>
            replace h := cnd_t h
            cbv
            revert h
            refine st_cmp hJ fun b254 eb254 h => ?_
            cbv
            cases b254 with
            | true =>
              replace h := cnd_t h
              cbv
              obtain ⟨a257, h256, h⟩ := bnd h
              obtain ⟨d258, ha259⟩ := nameA .u8 a257
              refine call_by hP (s41 ha259 h256) hJ rfl rfl ?_
              cbv
              revert h
              refine st_eqL hJ (neg := false) (e := ((a184.l == a257.l) && true)) (show eqLs [.big 64 .u8] [.big 64 d185] [.big 64 d258] _ from ⟨rfl, rfl, _, _, _, (ha186).trans (encI_map _ _), (ha259).trans (encI_map _ _), Ar.h _, Ar.h _, rfl, rfl⟩) rfl fun b260 eb260 h => ?_
              cbv
              cases b260 with
              | true =>
                replace h := cnd_t h
                cbv
                revert h
                refine st_cmp hJ fun b261 eb261 h => ?_
                cbv
                cases b261 with
                | true =>
                  replace h := cnd_t h
                  cbv
                  obtain ⟨v264, h263, h⟩ := bnd h
                  refine callM_by hP (s42 hl227 hm230 hm233 hm236 hl240 h263) [(0, 0), (2, 1), (3, 2), (4, 3), (5, 4), (6, 5)] false hJ rfl rfl rfl rfl rfl (.inl rfl) ?_
                  cbv
                  revert h
                  refine st_cmp hJ fun b265 eb265 h => ?_
                  cbv
                  refine ⟨fun _ => by kernel_rfl, ?_⟩
                  cbv
                  cases h
                  exact ⟨_, .refl _, [], _, _, [], _, rfl, rfl, rfl, rfl, rfl, rfl⟩
                | false =>
                  replace h := cnd_f h
                  cbv
                  refine ⟨fun _ => by kernel_rfl, ?_⟩
                  cbv
                  cases h
                  exact ⟨_, .refl _, [], _, _, [], _, rfl, rfl, rfl, rfl, rfl, rfl⟩
              | false =>
                replace h := cnd_f h
                cbv
                refine ⟨fun _ => by kernel_rfl, ?_⟩
                cbv
                cases h
                exact ⟨_, .refl _, [], _, _, [], _, rfl, rfl, rfl, rfl, rfl, rfl⟩
            | false =>
              replace h := cnd_f h
              cbv
              refine ⟨fun _ => by kernel_rfl, ?_⟩
              cbv
              cases h
              exact ⟨_, .refl _, [], _, _, [], _, rfl, rfl, rfl, rfl, rfl, rfl⟩
          | false =>
            replace h := cnd_f h
            cbv
            refine ⟨fun _ => by kernel_rfl, ?_⟩
            cbv
            cases h
            exact ⟨_, .refl _, [], _, _, [], _, rfl, rfl, rfl, rfl, rfl, rfl⟩
        | false =>
          replace h := cnd_f h
          cbv
          refine ⟨fun _ => by kernel_rfl, ?_⟩
          cbv
          cases h
          exact ⟨_, .refl _, [], _, _, [], _, rfl, rfl, rfl, rfl, rfl, rfl⟩
      | false =>
        replace h := cnd_f h
        cbv
        refine ⟨fun _ => by kernel_rfl, ?_⟩
        cbv
        cases h
        exact ⟨_, .refl _, [], _, _, [], _, rfl, rfl, rfl, rfl, rfl, rfl⟩
    | false =>
      replace h := cnd_f h
      cbv
      refine ⟨fun _ => by kernel_rfl, ?_⟩
      cbv
      cases h
      exact ⟨_, .refl _, [], _, _, [], _, rfl, rfl, rfl, rfl, rfl, rfl⟩
  | false =>
    replace h := cnd_f h
    cbv
    refine ⟨fun _ => by kernel_rfl, ?_⟩
    cbv
    cases h
    exact ⟨_, .refl _, [], _, _, [], _, rfl, rfl, rfl, rfl, rfl, rfl⟩
end Go.AX
