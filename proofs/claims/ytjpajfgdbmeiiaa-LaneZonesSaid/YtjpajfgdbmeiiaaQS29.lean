/- What functions of the program compute: each is what its Lean function says. -/
import Derived.Test.YtjpajfgdbmeiiaaQS13
import Derived.Test.YtjpajfgdbmeiiaaQS16
import Derived.Test.YtjpajfgdbmeiiaaQS20
import Derived.Test.YtjpajfgdbmeiiaaQS23
namespace Go.AX
open Go.Proofs
set_option autoImplicit false
set_option linter.unusedVariables false
set_option maxRecDepth 100000
set_option maxHeartbeats 4000000
set_option linter.unusedSimpArgs false

theorem s58 {v1 : Int} {v2 : Int} {v3 : Int} {v4 : Int} {v5 : Int} {l6 : List Int} {c7 : List D} {n8 : Nat} {v10 : Int} {v11 : Int} {v12 : Int} {v13 : Int} {v14 : Int} {v15 : Int} {v16 : Int} (hl9 : IsL (eI .i64) c7 n8 l6) {l17 : List Int} {c18 : List D} {n19 : Nat} {v21 : Int} {v22 : Int} {v23 : Int} {b24 : Bool} (hl20 : IsL (eI .i64) c18 n19 l17) (h : m_lane_both (TGeom.mk v1 v2 v3 v4 v5) (TPool.mk l6 (A3.mk v10 v11 v12)) v13 v14 v15 v16 = some ((TPool.mk l17 (A3.mk v21 v22 v23)), b24)) : Spec Try.prog 58 [.agg [.d (.int .i64 v1), .d (.int .i64 v2), .d (.int .i64 v3), .d (.int .i64 v4), .d (.int .i64 v5)], .agg [.d (.lst c7 n8), .d (.int .i64 v10), .d (.int .i64 v11), .d (.int .i64 v12)], .d (.int .i64 v13), .d (.int .i64 v14), .d (.int .i64 v15), .d (.int .i64 v16)] ⟨.tup [.agg [.d (.lst c18 n19), .d (.int .i64 v21), .d (.int .i64 v22), .d (.int .i64 v23)], .d (.bool b24)], [], 0, True⟩ := by
  refine spec_b [] Try.func58 rfl rfl rfl fun J P hJ hP => ?_
  dsimp only [m_lane_both] at h
  cbv
  obtain ⟨l28, h27, h⟩ := bnd h
  obtain ⟨c29, n30, hl31⟩ := nameL (eI .i64) l28
  refine call_by hP (s18 hl9 hl31 h27) hJ rfl rfl ?_
  cbv
  revert h
  refine st_len hJ hl31 fun v32 ev32 h => ?_
  cbv
  obtain ⟨v35, h34, h⟩ := bnd h
  refine call_by hP (s40 hl9 h34) hJ rfl rfl ?_
  cbv
  obtain ⟨v38, h37, h⟩ := bnd h
  refine call_by hP (s40 hl9 h37) hJ rfl rfl ?_
  cbv
  revert h
  refine st_bin hJ fun v39 ev39 h => ?_
  cbv
  revert h
  refine st_cmp hJ fun b40 eb40 h => ?_
  cbv
  refine ⟨fun _ => by kernel_rfl, ?_⟩
  cbv
  cases b40 with
  | true =>
    replace h := cnd_t h
    cbv
    cases h
    obtain ⟨rfl, rfl⟩ := IsL.uniq hl20 hl9
    exact ⟨[], _, _, [], rfl, rfl, rfl, rfl⟩
  | false =>
    replace h := cnd_f h
    cbv
    have hl41 : IsL (eI .i64) [.int .i64 v13] 1 [v13] := ⟨rfl, rfl⟩
    refine st_any hJ rfl rfl (by subst hJ; exact (by decide : 1 ≤ 16777216)) ?_
    cbv
    obtain ⟨l44, h43, h⟩ := bnd h
    obtain ⟨c45, n46, hl47⟩ := nameL (eI .i64) l44
    refine snapF_by hP (s63 hl41 hl47 h43) hJ (by cbv) rfl rfl ⟨by simp [V.noL, noLs, D.noL], ⟨noL_enc hl47 (eI_noL .i64), trivial⟩⟩ ?_
    cbv
    have hl48 : IsL (eI .i64) [.int .i64 v15] 1 [v15] := ⟨rfl, rfl⟩
    refine st_any hJ rfl rfl (by subst hJ; exact (by decide : 1 ≤ 16777216)) ?_
    cbv
    obtain ⟨l51, h50, h⟩ := bnd h
    obtain ⟨c52, n53, hl54⟩ := nameL (eI .i64) l51
    refine snapF_by hP (s63 hl48 hl54 h50) hJ (by cbv) rfl rfl ⟨by simp [V.noL, noLs, D.noL], ⟨noL_enc hl54 (eI_noL .i64), trivial⟩⟩ ?_
    cbv
    have hl55 : IsL (eL (eI .i64)) [.lst c45 n46, .lst c52 n53] 2 [l44, l51] := ⟨by rw [hl47.cs, hl47.n]; rw [hl54.cs, hl54.n]; rfl, rfl⟩
    refine st_any hJ rfl rfl (by subst hJ; exact (by decide : 2 ≤ 16777216)) ?_
    cbv
    obtain ⟨l58, h57, h⟩ := bnd h
    obtain ⟨c59, n60, hl61⟩ := nameL (eI .i64) l58
    refine snap_by hP (s62 hl55 hl61 h57) hJ (by cbv) rfl ⟨by simp [V.noL, noLs, D.noL], ⟨noL_enc hl61 (eI_noL .i64), trivial⟩⟩ ?_
    cbv
    obtain ⟨⟨l64, ⟨l68, ⟨v72, v73, v74⟩⟩, b75⟩, h63, h⟩ := bnd h
    obtain ⟨c65, n66, hl67⟩ := nameL eAt l64
    obtain ⟨c69, n70, hl71⟩ := nameL (eI .i64) l68
    try dsimp only at h
    refine snap_by hP (s37 hl9 hl61 hl67 hl71 h63) hJ (by cbv) rfl ⟨by simp [V.noL, noLs, D.noL], ⟨noL_enc hl67 eAt_noL, ⟨noL_enc hl71 (eI_noL .i64), trivial⟩⟩⟩ ?_
    cbv
    refine ⟨fun _ => by kernel_rfl, ?_⟩
    cbv
    cases h
    obtain ⟨rfl, rfl⟩ := IsL.uniq hl20 hl71
    exact ⟨[], _, _, [], rfl, rfl, rfl, rfl⟩
end Go.AX
