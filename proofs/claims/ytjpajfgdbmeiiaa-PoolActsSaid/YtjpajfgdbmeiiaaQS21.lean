/- What functions of the program compute: each is what its Lean function says. -/
import Derived.Test.YtjpajfgdbmeiiaaQS10
import Derived.Test.YtjpajfgdbmeiiaaQS11
import Derived.Test.YtjpajfgdbmeiiaaQS12
import Derived.Test.YtjpajfgdbmeiiaaQS14
import Derived.Test.YtjpajfgdbmeiiaaQS15
import Derived.Test.YtjpajfgdbmeiiaaQS16
import Derived.Test.YtjpajfgdbmeiiaaQS17
import Derived.Test.YtjpajfgdbmeiiaaQS3
import Derived.Test.YtjpajfgdbmeiiaaQS4
import Derived.Test.YtjpajfgdbmeiiaaQS6
import Derived.Test.YtjpajfgdbmeiiaaQS8
namespace Go.AX
open Go.Proofs
set_option autoImplicit false
set_option linter.unusedVariables false
set_option maxRecDepth 100000
set_option maxHeartbeats 4000000
set_option linter.unusedSimpArgs false

theorem s6 {v1 : Int} {v2 : Int} {v3 : Int} {v4 : Int} {v5 : Int} {l6 : List Int} {c7 : List D} {n8 : Nat} {v10 : Int} {v11 : Int} {v12 : Int} {v13 : Int} {v14 : Int} (hl9 : IsL (eI .i64) c7 n8 l6) {b15 : Bool}  (h : m_law11_PoolActs (TGeom.mk v1 v2 v3 v4 v5) (TPool.mk l6 (A3.mk v10 v11 v12)) v13 v14 = some b15) : Spec Try.prog 6 [.agg [.d (.int .i64 v1), .d (.int .i64 v2), .d (.int .i64 v3), .d (.int .i64 v4), .d (.int .i64 v5)], .agg [.d (.lst c7 n8), .d (.int .i64 v10), .d (.int .i64 v11), .d (.int .i64 v12)], .d (.int .u8 v13), .d (.int .i64 v14)] ⟨.d (.bool b15), [], 0, True⟩ := by
  refine spec_b [6, 4, 28] Try.func6 rfl rfl rfl fun J P hJ hP => ?_
  dsimp only [m_law11_PoolActs] at h
  cbv
  obtain ⟨j18, hj19, h⟩ := jn h
  refine JoinP.mk ({x : Unit // j18 () = some b15}) (fun x => ⟨[(2, .d (.int .u8 v13)), (3, .d (.int .i64 v14)), (4, .ptr 0 0), (5, .ptr 1 0)], [(0, .box [.d (.int .i64 v1), .d (.int .i64 v2), .d (.int .i64 v3), .d (.int .i64 v4), .d (.int .i64 v5)]), (1, .box [.d (.lst c7 n8), .d (.int .i64 v10), .d (.int .i64 v11), .d (.int .i64 v12)])], 2, 126⟩) (fun _ => True) [2, 3, 4, 5] ?_ ?_
  · cbv
    obtain ⟨j21, hj22, h⟩ := jn h
    refine JoinP.mk ({x : Bool // j21 (x) = some b15}) (fun x => ⟨[(2, .d (.int .u8 v13)), (3, .d (.int .i64 v14)), (4, .ptr 0 0), (5, .ptr 1 0), (26, .d (.bool x.1))], [(0, .box [.d (.int .i64 v1), .d (.int .i64 v2), .d (.int .i64 v3), .d (.int .i64 v4), .d (.int .i64 v5)]), (1, .box [.d (.lst c7 n8), .d (.int .i64 v10), .d (.int .i64 v11), .d (.int .i64 v12)])], 2, 126⟩) (fun _ => True) [2, 3, 4, 5, 26] ?_ ?_
    · cbv
      obtain ⟨b25, h24, h⟩ := bnd h
      refine call_by hP (s14 h24) hJ rfl rfl ?_
      cbv
      revert h
      refine st_not hJ fun b26 eb26 h => ?_
      cbv
      cases b26 with
      | true =>
        replace h := cnd_t h
        cbv
        exact ⟨⟨(true), h⟩, [(0, 0), (2, 1)], 2, [], rfl, trivial⟩
      | false =>
        replace h := cnd_f h
        cbv
        obtain ⟨b29, h28, h⟩ := bnd h
        refine call_by hP (s15 h28) hJ rfl rfl ?_
        cbv
        revert h
        refine st_not hJ fun b30 eb30 h => ?_
        cbv
        exact ⟨⟨(b30), h⟩, [(0, 0), (2, 1)], 2, [], rfl, trivial⟩
    · rintro ⟨b23, h⟩ -
      rw [hj22] at h
      try dsimp only at h ⊢
      cbv
      cases b23 with
      | true =>
        replace h := cnd_t h
        cbv
        obtain ⟨b26, h25, h⟩ := bnd h
        refine call_by hP (s14 h25) hJ rfl rfl ?_
        cbv
        cases h
        exact ⟨[], _, _, [], rfl, rfl, rfl, rfl⟩
      | false =>
        replace h := cnd_f h
        cbv
        exact ⟨⟨(), h⟩, [(0, 0), (1, 1)], 2, [], rfl, trivial⟩
  · rintro ⟨_, h⟩ -
    rw [hj19] at h
    try dsimp only at h ⊢
    cbv
    obtain ⟨b22, h21, h⟩ := bnd h
    refine call_by hP (s25 hl9 h21) hJ rfl rfl ?_
    cbv
    obtain ⟨b25, h24, h⟩ := bnd h
    refine call_by hP (s16 hl9 h24) hJ rfl rfl ?_
    cbv
    revert h
    refine st_neb hJ fun b26 eb26 h => ?_
    cbv
    refine ⟨fun _ => by kernel_rfl, ?_⟩
    cbv
    cases b26 with
    | true =>
      replace h := cnd_t h
      cbv
      cases h
      exact ⟨[], _, _, [], rfl, rfl, rfl, rfl⟩
    | false =>
      replace h := cnd_f h
      cbv
      obtain ⟨b29, h28, h⟩ := bnd h
      refine call_by hP (s16 hl9 h28) hJ rfl rfl ?_
      cbv
      revert h
      refine st_not hJ fun b30 eb30 h => ?_
      cbv
      cases b30 with
      | true =>
        replace h := cnd_t h
        cbv
        cases h
        exact ⟨[], _, _, [], rfl, rfl, rfl, rfl⟩
      | false =>
        replace h := cnd_f h
        cbv
        revert h
        refine st_div hJ fun v31 zv31 ev31 h => ?_
        cbv
        revert h
        refine st_conv hJ fun v32 ev32 h => ?_
        cbv
        obtain ⟨⟨⟨v35, v36⟩, ⟨l37, ⟨v41, v42, v43⟩⟩, b44⟩, h34, h⟩ := bnd h
        obtain ⟨c38, n39, hl40⟩ := nameL (eI .i64) l37
        try dsimp only at h
        refine call_by hP (s19 hl9 hl40 h34) hJ rfl rfl ?_
        cbv
        obtain ⟨⟨⟨v47, v48⟩, ⟨l49, ⟨v53, v54, v55⟩⟩, b56⟩, h46, h⟩ := bnd h
        obtain ⟨c50, n51, hl52⟩ := nameL (eI .i64) l49
        try dsimp only at h
        refine call_by hP (s26 hl9 hl52 h46) hJ rfl rfl ?_
        cbv
        obtain ⟨⟨⟨l59, ⟨v63, v64, v65⟩⟩, b66⟩, h58, h⟩ := bnd h
        obtain ⟨c60, n61, hl62⟩ := nameL (eI .i64) l59
        try dsimp only at h
        refine call_by hP (s20 hl9 hl62 h58) hJ rfl rfl ?_
        cbv
        obtain ⟨⟨⟨l69, ⟨v73, v74, v75⟩⟩, b76⟩, h68, h⟩ := bnd h
        obtain ⟨c70, n71, hl72⟩ := nameL (eI .i64) l69
        try dsimp only at h
        refine call_by hP (s27 hl9 hl72 h68) hJ rfl rfl ?_
        cbv
        obtain ⟨j78, hj79, h⟩ := jn h
        refine JoinP.mk ({x : Unit // j78 () = some b15}) (fun x => ⟨[(4, .ptr 0 0), (5, .ptr 1 0), (9, .d (.int .i64 v32))], [(0, .box [.d (.int .i64 v1), .d (.int .i64 v2), .d (.int .i64 v3), .d (.int .i64 v4), .d (.int .i64 v5)]), (1, .box [.d (.lst c7 n8), .d (.int .i64 v10), .d (.int .i64 v11), .d (.int .i64 v12)])], 2, 126⟩) (fun _ => True) [4, 5, 9] ?_ ?_
        · cbv
          revert h
          refine st_bool hJ (fun hJ => by subst hJ; rfl) fun b80 eb80 h => ?_
          cbv
          cases b80 with
          | true =>
            replace h := cnd_t h
            cbv
            cases h
            exact ⟨[], _, _, [], rfl, rfl, rfl, rfl⟩
          | false =>
            replace h := cnd_f h
            cbv
            revert h
            refine st_neb hJ fun b81 eb81 h => ?_
            cbv
            cases b81 with
            | true =>
              replace h := cnd_t h
              cbv
              cases h
              exact ⟨[], _, _, [], rfl, rfl, rfl, rfl⟩
            | false =>
              replace h := cnd_f h
              cbv
              obtain ⟨b84, h83, h⟩ := bnd h
              refine snap_by hP (s21 hl40 hl52 h83) hJ (by cbv) rfl ⟨by simp [V.noL, noLs, D.noL], trivial⟩ ?_
              cbv
              revert h
              refine st_not hJ fun b85 eb85 h => ?_
              cbv
              cases b85 with
              | true =>
                replace h := cnd_t h
                cbv
                cases h
                exact ⟨[], _, _, [], rfl, rfl, rfl, rfl⟩
              | false =>
                replace h := cnd_f h
                cbv
                revert h
                refine st_neb hJ fun b86 eb86 h => ?_
                cbv
                cases b86 with
                | true =>
                  replace h := cnd_t h
                  cbv
                  cases h
                  exact ⟨[], _, _, [], rfl, rfl, rfl, rfl⟩
                | false =>
                  replace h := cnd_f h
                  cbv
                  obtain ⟨b89, h88, h⟩ := bnd h
                  refine snap_by hP (s21 hl62 hl72 h88) hJ (by cbv) rfl ⟨by simp [V.noL, noLs, D.noL], trivial⟩ ?_
                  cbv
                  revert h
                  refine st_not hJ fun b90 eb90 h => ?_
                  cbv
                  cases b90 with
                  | true =>
                    replace h := cnd_t h
                    cbv
                    cases h
                    exact ⟨[], _, _, [], rfl, rfl, rfl, rfl⟩
                  | false =>
                    replace h := cnd_f h
                    cbv
                    exact ⟨⟨(), h⟩, [(0, 0), (1, 1)], 2, [], rfl, trivial⟩
        · rintro ⟨_, h⟩ -
          rw [hj79] at h
          try dsimp only at h ⊢
          cbv
          obtain ⟨l82, h81, h⟩ := bnd h
          obtain ⟨c83, n84, hl85⟩ := nameL (eI .i64) l82
          refine call_by hP (s18 hl9 hl85 h81) hJ rfl rfl ?_
          cbv
          obtain ⟨l88, h87, h⟩ := bnd h
          obtain ⟨c89, n90, hl91⟩ := nameL (eI .i64) l88
          refine call_by hP (s29 hl9 hl91 h87) hJ rfl rfl ?_
          cbv
          obtain ⟨b94, h93, h⟩ := bnd h
          refine snap_by hP (s28 hl85 hl91 h93) hJ (by cbv) rfl ⟨by simp [V.noL, noLs, D.noL], trivial⟩ ?_
          cbv
          cases b94 with
          | true =>
            replace h := cnd_t h
            cbv
            obtain ⟨l97, h96, h⟩ := bnd h
            obtain ⟨c98, n99, hl100⟩ := nameL (eI .i64) l97
            refine call_by hP (s30 hl9 hl100 h96) hJ rfl rfl ?_
            cbv
            obtain ⟨l103, h102, h⟩ := bnd h
            obtain ⟨c104, n105, hl106⟩ := nameL (eI .i64) l103
            refine call_by hP (s29 hl9 hl106 h102) hJ rfl rfl ?_
            cbv
            obtain ⟨b109, h108, h⟩ := bnd h
            refine snap_by hP (s28 hl100 hl106 h108) hJ (by cbv) rfl ⟨by simp [V.noL, noLs, D.noL], trivial⟩ ?_
            cbv
            cases b109 with
            | true =>
              replace h := cnd_t h
              cbv
              obtain ⟨v112, h111, h⟩ := bnd h
              refine call_by hP (s17 hl9 h111) hJ rfl rfl ?_
              cbv
              obtain ⟨v115, h114, h⟩ := bnd h
              refine call_by hP (s31 hl9 h114) hJ rfl rfl ?_
              cbv
              revert h
              refine st_cmp hJ fun b116 eb116 h => ?_
              cbv
              refine ⟨fun _ => by kernel_rfl, ?_⟩
              cbv
              cases h
              exact ⟨[], _, _, [], rfl, rfl, rfl, rfl⟩
            | false =>
              replace h := cnd_f h
              cbv
              refine ⟨fun _ => by kernel_rfl, ?_⟩
              cbv
              cases h
              exact ⟨[], _, _, [], rfl, rfl, rfl, rfl⟩
          | false =>
            replace h := cnd_f h
            cbv
            refine ⟨fun _ => by kernel_rfl, ?_⟩
            cbv
            cases h
            exact ⟨[], _, _, [], rfl, rfl, rfl, rfl⟩
end Go.AX
