/- What functions of the program compute: each is what its Lean function says. -/
import Derived.Test.YtjpajfgdbmeiiaaQS19
import Derived.Test.YtjpajfgdbmeiiaaQS30
import Derived.Test.YtjpajfgdbmeiiaaQS31
import Derived.Test.YtjpajfgdbmeiiaaQS7
namespace Go.AX
open Go.Proofs
set_option autoImplicit false
set_option linter.unusedVariables false
set_option maxRecDepth 100000
set_option maxHeartbeats 4000000
set_option linter.unusedSimpArgs false

theorem s11 {v1 : Int} {v2 : Int} {v3 : Int} {v4 : Int} {v5 : Int} {l6 : List Int} {c7 : List D} {n8 : Nat} {v10 : Int} {v11 : Int} {v12 : Int} {v13 : Int} {v14 : Int} {v15 : Int} (hl9 : IsL (eI .i64) c7 n8 l6) {b16 : Bool}  (h : m_law12_LaneLess (TGeom.mk v1 v2 v3 v4 v5) (TPool.mk l6 (A3.mk v10 v11 v12)) v13 v14 v15 = some b16) : Spec Try.prog 11 [.agg [.d (.int .i64 v1), .d (.int .i64 v2), .d (.int .i64 v3), .d (.int .i64 v4), .d (.int .i64 v5)], .agg [.d (.lst c7 n8), .d (.int .i64 v10), .d (.int .i64 v11), .d (.int .i64 v12)], .d (.int .i64 v13), .d (.int .i64 v14), .d (.int .i64 v15)] ⟨.d (.bool b16), [], 0, True⟩ := by
  refine spec_b [6, 4] Try.func11 rfl rfl rfl fun J P hJ hP => ?_
  dsimp only [m_law12_LaneLess] at h
  cbv
  obtain ⟨j19, hj20, h⟩ := jn h
  refine JoinP.mk ({x : Unit // j19 () = some b16}) (fun x => ⟨[(2, .d (.int .i64 v13)), (3, .d (.int .i64 v14)), (4, .d (.int .i64 v15)), (5, .ptr 0 0), (6, .ptr 1 0)], [(0, .box [.d (.int .i64 v1), .d (.int .i64 v2), .d (.int .i64 v3), .d (.int .i64 v4), .d (.int .i64 v5)]), (1, .box [.d (.lst c7 n8), .d (.int .i64 v10), .d (.int .i64 v11), .d (.int .i64 v12)])], 2, 52⟩) (fun _ => True) [2, 3, 4, 5, 6] ?_ ?_
  · cbv
    obtain ⟨j22, hj23, h⟩ := jn h
    refine JoinP.mk ({x : Bool // j22 (x) = some b16}) (fun x => ⟨[(2, .d (.int .i64 v13)), (3, .d (.int .i64 v14)), (4, .d (.int .i64 v15)), (5, .ptr 0 0), (6, .ptr 1 0), (37, .d (.bool x.1))], [(0, .box [.d (.int .i64 v1), .d (.int .i64 v2), .d (.int .i64 v3), .d (.int .i64 v4), .d (.int .i64 v5)]), (1, .box [.d (.lst c7 n8), .d (.int .i64 v10), .d (.int .i64 v11), .d (.int .i64 v12)])], 2, 52⟩) (fun _ => True) [2, 3, 4, 5, 6, 37] ?_ ?_
    · cbv
      obtain ⟨b26, h25, h⟩ := bnd h
      refine call_by hP (s33 h25) hJ rfl rfl ?_
      cbv
      revert h
      refine st_not hJ fun b27 eb27 h => ?_
      cbv
      cases b27 with
      | true =>
        replace h := cnd_t h
        cbv
        exact ⟨⟨(true), h⟩, [(0, 0), (2, 1)], 2, [], rfl, trivial⟩
      | false =>
        replace h := cnd_f h
        cbv
        obtain ⟨b30, h29, h⟩ := bnd h
        refine call_by hP (s34 hl9 h29) hJ rfl rfl ?_
        cbv
        revert h
        refine st_not hJ fun b31 eb31 h => ?_
        cbv
        cases b31 with
        | true =>
          replace h := cnd_t h
          cbv
          exact ⟨⟨(true), h⟩, [(0, 0), (2, 1)], 2, [], rfl, trivial⟩
        | false =>
          replace h := cnd_f h
          cbv
          obtain ⟨b34, h33, h⟩ := bnd h
          refine call_by hP (s36 h33) hJ rfl rfl ?_
          cbv
          revert h
          refine st_not hJ fun b35 eb35 h => ?_
          cbv
          cases b35 with
          | true =>
            replace h := cnd_t h
            cbv
            exact ⟨⟨(true), h⟩, [(0, 0), (2, 1)], 2, [], rfl, trivial⟩
          | false =>
            replace h := cnd_f h
            cbv
            obtain ⟨b38, h37, h⟩ := bnd h
            refine call_by hP (s36 h37) hJ rfl rfl ?_
            cbv
            revert h
            refine st_not hJ fun b39 eb39 h => ?_
            cbv
            cases b39 with
            | true =>
              replace h := cnd_t h
              cbv
              exact ⟨⟨(true), h⟩, [(0, 0), (2, 1)], 2, [], rfl, trivial⟩
            | false =>
              replace h := cnd_f h
              cbv
              revert h
              refine st_cmp hJ fun b40 eb40 h => ?_
              cbv
              cases b40 with
              | true =>
                replace h := cnd_t h
                cbv
                exact ⟨⟨(true), h⟩, [(0, 0), (2, 1)], 2, [], rfl, trivial⟩
              | false =>
                replace h := cnd_f h
                cbv
                revert h
                refine st_cmp hJ fun b41 eb41 h => ?_
                cbv
                exact ⟨⟨(b41), h⟩, [(0, 0), (2, 1)], 2, [], rfl, trivial⟩
    · rintro ⟨b24, h⟩ -
      rw [hj23] at h
      try dsimp only at h ⊢
      cbv
      cases b24 with
      | true =>
        replace h := cnd_t h
        cbv
        obtain ⟨b27, h26, h⟩ := bnd h
        refine call_by hP (s33 h26) hJ rfl rfl ?_
        cbv
        cases h
        exact ⟨[], _, _, [], rfl, rfl, rfl, rfl⟩
      | false =>
        replace h := cnd_f h
        cbv
        exact ⟨⟨(), h⟩, [(0, 0), (1, 1)], 2, [], rfl, trivial⟩
  · rintro ⟨_, h⟩ -
    rw [hj20] at h
    try dsimp only at h ⊢
    cbv
    obtain ⟨b23, h22, h⟩ := bnd h
    refine call_by hP (s44 hl9 h22) hJ rfl rfl ?_
    cbv
    revert h
    refine st_not hJ fun b24 eb24 h => ?_
    cbv
    cases b24 with
    | true =>
      replace h := cnd_t h
      cbv
      cases h
      exact ⟨[], _, _, [], rfl, rfl, rfl, rfl⟩
    | false =>
      replace h := cnd_f h
      cbv
      obtain ⟨b27, h26, h⟩ := bnd h
      refine call_by hP (s44 hl9 h26) hJ rfl rfl ?_
      cbv
      cases h
      exact ⟨[], _, _, [], rfl, rfl, rfl, rfl⟩
end Go.AX
