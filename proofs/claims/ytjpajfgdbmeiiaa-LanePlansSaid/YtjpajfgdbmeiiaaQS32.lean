/- What functions of the program compute: each is what its Lean function says. -/
import Derived.Test.YtjpajfgdbmeiiaaQS13
import Derived.Test.YtjpajfgdbmeiiaaQS19
import Derived.Test.YtjpajfgdbmeiiaaQS23
import Derived.Test.YtjpajfgdbmeiiaaQS31
import Derived.Test.YtjpajfgdbmeiiaaQS4
import Derived.Test.YtjpajfgdbmeiiaaQS7
import Derived.Test.YtjpajfgdbmeiiaaQS8
namespace Go.AX
open Go.Proofs
set_option autoImplicit false
set_option linter.unusedVariables false
set_option maxRecDepth 100000
set_option maxHeartbeats 4000000
set_option linter.unusedSimpArgs false

theorem s8 {v1 : Int} {v2 : Int} {v3 : Int} {v4 : Int} {v5 : Int} {l6 : List Int} {c7 : List D} {n8 : Nat} {v10 : Int} {v11 : Int} {v12 : Int} {l13 : List Int} {c14 : List D} {n15 : Nat} {v17 : Int} {v18 : Int} (hl9 : IsL (eI .i64) c7 n8 l6) (hl16 : IsL (eI .i64) c14 n15 l13) {b19 : Bool}  (h : m_law12_LanePlans (TGeom.mk v1 v2 v3 v4 v5) (TPool.mk l6 (A3.mk v10 v11 v12)) l13 v17 v18 = some b19) : Spec Try.prog 8 [.agg [.d (.int .i64 v1), .d (.int .i64 v2), .d (.int .i64 v3), .d (.int .i64 v4), .d (.int .i64 v5)], .agg [.d (.lst c7 n8), .d (.int .i64 v10), .d (.int .i64 v11), .d (.int .i64 v12)], .d (.lst c14 n15), .d (.int .u8 v17), .d (.int .i64 v18)] ⟨.d (.bool b19), [], 0, True⟩ := by
  refine spec_b [6, 4] Try.func8 rfl rfl rfl fun J P hJ hP => ?_
  dsimp only [m_law12_LanePlans] at h
  cbv
  obtain ⟨j22, hj23, h⟩ := jn h
  refine JoinP.mk ({x : Unit // j22 () = some b19}) (fun x => ⟨[(2, .d (.lst c14 n15)), (3, .d (.int .u8 v17)), (4, .d (.int .i64 v18)), (5, .ptr 0 0), (6, .ptr 1 0)], [(0, .box [.d (.int .i64 v1), .d (.int .i64 v2), .d (.int .i64 v3), .d (.int .i64 v4), .d (.int .i64 v5)]), (1, .box [.d (.lst c7 n8), .d (.int .i64 v10), .d (.int .i64 v11), .d (.int .i64 v12)])], 2, 91⟩) (fun _ => True) [2, 3, 4, 5, 6] ?_ ?_
  · cbv
    obtain ⟨j25, hj26, h⟩ := jn h
    refine JoinP.mk ({x : Bool // j25 (x) = some b19}) (fun x => ⟨[(2, .d (.lst c14 n15)), (3, .d (.int .u8 v17)), (4, .d (.int .i64 v18)), (5, .ptr 0 0), (6, .ptr 1 0), (35, .d (.bool x.1))], [(0, .box [.d (.int .i64 v1), .d (.int .i64 v2), .d (.int .i64 v3), .d (.int .i64 v4), .d (.int .i64 v5)]), (1, .box [.d (.lst c7 n8), .d (.int .i64 v10), .d (.int .i64 v11), .d (.int .i64 v12)])], 2, 91⟩) (fun _ => True) [2, 3, 4, 5, 6, 35] ?_ ?_
    · cbv
      obtain ⟨b29, h28, h⟩ := bnd h
      refine call_by hP (s33 h28) hJ rfl rfl ?_
      cbv
      revert h
      refine st_not hJ fun b30 eb30 h => ?_
      cbv
      cases b30 with
      | true =>
        replace h := cnd_t h
        cbv
        exact ⟨⟨(true), h⟩, [(0, 0), (2, 1)], 2, [], rfl, trivial⟩
      | false =>
        replace h := cnd_f h
        cbv
        obtain ⟨b33, h32, h⟩ := bnd h
        refine call_by hP (s34 hl9 h32) hJ rfl rfl ?_
        cbv
        revert h
        refine st_not hJ fun b34 eb34 h => ?_
        cbv
        cases b34 with
        | true =>
          replace h := cnd_t h
          cbv
          exact ⟨⟨(true), h⟩, [(0, 0), (2, 1)], 2, [], rfl, trivial⟩
        | false =>
          replace h := cnd_f h
          cbv
          obtain ⟨b37, h36, h⟩ := bnd h
          refine call_by hP (s35 hl16 h36) hJ rfl rfl ?_
          cbv
          revert h
          refine st_not hJ fun b38 eb38 h => ?_
          cbv
          cases b38 with
          | true =>
            replace h := cnd_t h
            cbv
            exact ⟨⟨(true), h⟩, [(0, 0), (2, 1)], 2, [], rfl, trivial⟩
          | false =>
            replace h := cnd_f h
            cbv
            obtain ⟨b41, h40, h⟩ := bnd h
            refine call_by hP (s36 h40) hJ rfl rfl ?_
            cbv
            revert h
            refine st_not hJ fun b42 eb42 h => ?_
            cbv
            exact ⟨⟨(b42), h⟩, [(0, 0), (2, 1)], 2, [], rfl, trivial⟩
    · rintro ⟨b27, h⟩ -
      rw [hj26] at h
      try dsimp only at h ⊢
      cbv
      cases b27 with
      | true =>
        replace h := cnd_t h
        cbv
        obtain ⟨b30, h29, h⟩ := bnd h
        refine call_by hP (s33 h29) hJ rfl rfl ?_
        cbv
        cases h
        exact ⟨[], _, _, [], rfl, rfl, rfl, rfl⟩
      | false =>
        replace h := cnd_f h
        cbv
        exact ⟨⟨(), h⟩, [(0, 0), (1, 1)], 2, [], rfl, trivial⟩
  · rintro ⟨_, h⟩ -
    rw [hj23] at h
    try dsimp only at h ⊢
    cbv
    obtain ⟨⟨l26, ⟨l30, ⟨v34, v35, v36⟩⟩, b37⟩, h25, h⟩ := bnd h
    obtain ⟨c27, n28, hl29⟩ := nameL eAt l26
    obtain ⟨c31, n32, hl33⟩ := nameL (eI .i64) l30
    try dsimp only at h
    refine call_by hP (s37 hl9 hl16 hl29 hl33 h25) hJ rfl rfl ?_
    cbv
    obtain ⟨⟨l40, ⟨l44, ⟨v48, v49, v50⟩⟩, b51⟩, h39, h⟩ := bnd h
    obtain ⟨c41, n42, hl43⟩ := nameL eAt l40
    obtain ⟨c45, n46, hl47⟩ := nameL (eI .i64) l44
    try dsimp only at h
    refine call_by hP (s38 hl9 hl16 hl43 hl47 h39) hJ rfl rfl ?_
    cbv
    revert h
    refine st_div hJ fun v52 zv52 ev52 h => ?_
    cbv
    revert h
    refine st_conv hJ fun v53 ev53 h => ?_
    cbv
    obtain ⟨b56, h55, h⟩ := bnd h
    refine snap_by hP (s39 hl29 hl43 h55) hJ (by cbv) rfl ⟨by simp [V.noL, noLs, D.noL], trivial⟩ ?_
    cbv
    cases b56 with
    | true =>
      replace h := cnd_t h
      cbv
      obtain ⟨b59, h58, h⟩ := bnd h
      refine snap_by hP (s21 hl33 hl47 h58) hJ (by cbv) rfl ⟨by simp [V.noL, noLs, D.noL], trivial⟩ ?_
      cbv
      cases b59 with
      | true =>
        replace h := cnd_t h
        cbv
        revert h
        refine st_eqb hJ fun b60 eb60 h => ?_
        cbv
        cases b60 with
        | true =>
          replace h := cnd_t h
          cbv
          obtain ⟨v63, h62, h⟩ := bnd h
          refine call_by hP (s40 hl9 h62) hJ rfl rfl ?_
          cbv
          obtain ⟨v66, h65, h⟩ := bnd h
          refine call_by hP (s41 hl9 h65) hJ rfl rfl ?_
          cbv
          revert h
          refine st_cmp hJ fun b67 eb67 h => ?_
          cbv
          cases b67 with
          | true =>
            replace h := cnd_t h
            cbv
            obtain ⟨v70, h69, h⟩ := bnd h
            refine call_by hP (s42 hl9 h69) hJ rfl rfl ?_
            cbv
            obtain ⟨v73, h72, h⟩ := bnd h
            refine call_by hP (s43 hl9 h72) hJ rfl rfl ?_
            cbv
            revert h
            refine st_cmp hJ fun b74 eb74 h => ?_
            cbv
            refine ⟨fun _ => by kernel_rfl, ?_⟩
            cbv
            cases h
            exact ⟨[], _, _, [], rfl, rfl, rfl, rfl⟩
          | false =>
            replace h := cnd_f h
            cbv
            refine ⟨fun _ => by kernel_rfl, ?_⟩
            cbv
            cases h
            exact ⟨[], _, _, [], rfl, rfl, rfl, rfl⟩
        | false =>
          replace h := cnd_f h
          cbv
          refine ⟨fun _ => by kernel_rfl, ?_⟩
          cbv
          cases h
          exact ⟨[], _, _, [], rfl, rfl, rfl, rfl⟩
      | false =>
        replace h := cnd_f h
        cbv
        refine ⟨fun _ => by kernel_rfl, ?_⟩
        cbv
        cases h
        exact ⟨[], _, _, [], rfl, rfl, rfl, rfl⟩
    | false =>
      replace h := cnd_f h
      cbv
      refine ⟨fun _ => by kernel_rfl, ?_⟩
      cbv
      cases h
      exact ⟨[], _, _, [], rfl, rfl, rfl, rfl⟩
end Go.AX
