/- What functions of the program compute: each is what its Lean function says. -/
import Derived.Test.YtjpajfgdbmeiiaaQS11
import Derived.Test.YtjpajfgdbmeiiaaQS14
import Derived.Test.YtjpajfgdbmeiiaaQS17
import Derived.Test.YtjpajfgdbmeiiaaQS2
import Derived.Test.YtjpajfgdbmeiiaaQS4
import Derived.Test.YtjpajfgdbmeiiaaQS5
import Derived.Test.YtjpajfgdbmeiiaaQS9
namespace Go.AX
open Go.Proofs
set_option autoImplicit false
set_option linter.unusedVariables false
set_option maxRecDepth 100000
set_option maxHeartbeats 4000000
set_option linter.unusedSimpArgs false

theorem s5 {v1 : Int} {v2 : Int} {v3 : Int} {v4 : Int} {v5 : Int} {l6 : List TZone} {c7 : List D} {n8 : Nat} (hl9 : IsL eZone c7 n8 l6) {b10 : Bool}  (h : m_law11_PoolOpens (TGeom.mk v1 v2 v3 v4 v5) l6 = some b10) : Spec Try.prog 5 [.agg [.d (.int .i64 v1), .d (.int .i64 v2), .d (.int .i64 v3), .d (.int .i64 v4), .d (.int .i64 v5)], .d (.lst c7 n8)] ⟨.d (.bool b10), [], 0, True⟩ := by
  refine spec_b [6, 4] Try.func5 rfl rfl rfl fun J P hJ hP => ?_
  dsimp only [m_law11_PoolOpens] at h
  cbv
  obtain ⟨j13, hj14, h⟩ := jn h
  refine JoinP.mk ({x : Unit // j13 () = some b10}) (fun x => ⟨[(1, .d (.lst c7 n8)), (2, .ptr 0 0)], [(0, .box [.d (.int .i64 v1), .d (.int .i64 v2), .d (.int .i64 v3), .d (.int .i64 v4), .d (.int .i64 v5)])], 1, 52⟩) (fun _ => True) [1, 2] ?_ ?_
  · cbv
    obtain ⟨j16, hj17, h⟩ := jn h
    refine JoinP.mk ({x : Bool // j16 (x) = some b10}) (fun x => ⟨[(1, .d (.lst c7 n8)), (2, .ptr 0 0), (21, .d (.bool x.1))], [(0, .box [.d (.int .i64 v1), .d (.int .i64 v2), .d (.int .i64 v3), .d (.int .i64 v4), .d (.int .i64 v5)])], 1, 52⟩) (fun _ => True) [1, 2, 21] ?_ ?_
    · cbv
      obtain ⟨b20, h19, h⟩ := bnd h
      refine call_by hP (s14 h19) hJ rfl rfl ?_
      cbv
      revert h
      refine st_not hJ fun b21 eb21 h => ?_
      cbv
      cases b21 with
      | true =>
        replace h := cnd_t h
        cbv
        exact ⟨⟨(true), h⟩, [(0, 0)], 1, [], rfl, trivial⟩
      | false =>
        replace h := cnd_f h
        cbv
        obtain ⟨b24, h23, h⟩ := bnd h
        refine call_by hP (s15 h23) hJ rfl rfl ?_
        cbv
        revert h
        refine st_not hJ fun b25 eb25 h => ?_
        cbv
        cases b25 with
        | true =>
          replace h := cnd_t h
          cbv
          exact ⟨⟨(true), h⟩, [(0, 0)], 1, [], rfl, trivial⟩
        | false =>
          replace h := cnd_f h
          cbv
          obtain ⟨b28, h27, h⟩ := bnd h
          refine call_by hP (s22 hl9 h27) hJ rfl rfl ?_
          cbv
          revert h
          refine st_not hJ fun b29 eb29 h => ?_
          cbv
          exact ⟨⟨(b29), h⟩, [(0, 0)], 1, [], rfl, trivial⟩
    · rintro ⟨b18, h⟩ -
      rw [hj17] at h
      try dsimp only at h ⊢
      cbv
      cases b18 with
      | true =>
        replace h := cnd_t h
        cbv
        obtain ⟨b21, h20, h⟩ := bnd h
        refine call_by hP (s14 h20) hJ rfl rfl ?_
        cbv
        cases h
        exact ⟨[], _, _, [], rfl, rfl, rfl, rfl⟩
      | false =>
        replace h := cnd_f h
        cbv
        exact ⟨⟨(), h⟩, [(0, 0)], 1, [], rfl, trivial⟩
  · rintro ⟨_, h⟩ -
    rw [hj14] at h
    try dsimp only at h ⊢
    cbv
    obtain ⟨⟨⟨l17, ⟨v21, v22, v23⟩⟩, b24⟩, h16, h⟩ := bnd h
    obtain ⟨c18, n19, hl20⟩ := nameL (eI .i64) l17
    try dsimp only at h
    refine call_by hP (s23 hl9 hl20 h16) hJ rfl rfl ?_
    cbv
    obtain ⟨⟨⟨l27, ⟨v31, v32, v33⟩⟩, b34⟩, h26, h⟩ := bnd h
    obtain ⟨c28, n29, hl30⟩ := nameL (eI .i64) l27
    try dsimp only at h
    refine call_by hP (s24 hl9 hl30 h26) hJ rfl rfl ?_
    cbv
    obtain ⟨b37, h36, h⟩ := bnd h
    refine snap_by hP (s21 hl20 hl30 h36) hJ (by cbv) rfl ⟨by simp [V.noL, noLs, D.noL], trivial⟩ ?_
    cbv
    cases b37 with
    | true =>
      replace h := cnd_t h
      cbv
      revert h
      refine st_eqb hJ fun b38 eb38 h => ?_
      cbv
      cases b38 with
      | true =>
        replace h := cnd_t h
        cbv
        revert h
        refine st_not hJ fun b39 eb39 h => ?_
        cbv
        cases b39 with
        | true =>
          replace h := cnd_t h
          cbv
          cases h
          exact ⟨[], _, _, [], rfl, rfl, rfl, rfl⟩
        | false =>
          replace h := cnd_f h
          cbv
          obtain ⟨b42, h41, h⟩ := bnd h
          refine snap_by hP (s25 hl20 h41) hJ (by cbv) rfl ⟨by simp [V.noL, noLs, D.noL], trivial⟩ ?_
          cbv
          cases h
          exact ⟨[], _, _, [], rfl, rfl, rfl, rfl⟩
      | false =>
        replace h := cnd_f h
        cbv
        cases h
        exact ⟨[], _, _, [], rfl, rfl, rfl, rfl⟩
    | false =>
      replace h := cnd_f h
      cbv
      cases h
      exact ⟨[], _, _, [], rfl, rfl, rfl, rfl⟩
end Go.AX
