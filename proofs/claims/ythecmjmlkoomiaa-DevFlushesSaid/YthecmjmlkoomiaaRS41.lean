/- What functions of the program compute: each is what its Lean function says. -/
import Derived.Test.YthecmjmlkoomiaaRS12
import Derived.Test.YthecmjmlkoomiaaRS17
import Derived.Test.YthecmjmlkoomiaaRS18
import Derived.Test.YthecmjmlkoomiaaRS20
import Derived.Test.YthecmjmlkoomiaaRS25
import Derived.Test.YthecmjmlkoomiaaRS28
import Derived.Test.YthecmjmlkoomiaaRS29
import Derived.Test.YthecmjmlkoomiaaRS32
import Derived.Test.YthecmjmlkoomiaaRS37
import Derived.Test.YthecmjmlkoomiaaRS39
import Derived.Test.YthecmjmlkoomiaaRS40
import Derived.Test.YthecmjmlkoomiaaRS5
import Derived.Test.YthecmjmlkoomiaaRS8
namespace Go.AX
open Go.Proofs
set_option autoImplicit false
set_option linter.unusedVariables false
set_option maxRecDepth 100000
set_option maxHeartbeats 100000000
set_option linter.unusedSimpArgs false

theorem s3 {v1 : Int} {v2 : Int} {v3 : Int} {v4 : Int} {v5 : Int} {l6 : List TRef05_Act} {c7 : List D} {n8 : Nat} {l10 : List Int} {c11 : List D} {n12 : Nat} {v14 : Int} {v15 : Int} (hl9 : IsL eRef05_Act c7 n8 l6) (hl13 : IsL (eI .i64) c11 n12 l10) {b16 : Bool}  (h : m_law05_DevFlushes (TGeom.mk v1 v2 v3 v4 v5) l6 (TWreck.mk l10 v14 v15) = some b16) : Spec Try.prog 3 [.agg [.d (.int .i64 v1), .d (.int .i64 v2), .d (.int .i64 v3), .d (.int .i64 v4), .d (.int .i64 v5)], .d (.lst c7 n8), .agg [.d (.lst c11 n12), .d (.int .u64 v14), .d (.int .i64 v15)]] ⟨.d (.bool b16), [], 0, True⟩ := by
  refine spec_b [6, 4, 56, 38, 17, 31] Try.func3 rfl rfl rfl fun J P hJ hP => ?_
  dsimp only [m_law05_DevFlushes] at h
  cbv
  obtain ⟨j19, hj20, h⟩ := jn h
  refine JoinP.mk ({x : Unit // j19 () = some b16}) (fun x => ⟨[(1, .d (.lst c7 n8)), (3, .ptr 0 0), (5, .ptr 1 0)], [(0, .box [.d (.int .i64 v1), .d (.int .i64 v2), .d (.int .i64 v3), .d (.int .i64 v4), .d (.int .i64 v5)]), (1, .box [.d (.lst c11 n12), .d (.int .u64 v14), .d (.int .i64 v15)])], 2, 127⟩) (fun _ => True) [1, 3, 5] ?_ ?_
  · cbv
    obtain ⟨j22, hj23, h⟩ := jn h
    refine JoinP.mk ({x : Bool // j22 (x) = some b16}) (fun x => ⟨[(1, .d (.lst c7 n8)), (3, .ptr 0 0), (5, .ptr 1 0), (28, .d (.bool x.1))], [(0, .box [.d (.int .i64 v1), .d (.int .i64 v2), .d (.int .i64 v3), .d (.int .i64 v4), .d (.int .i64 v5)]), (1, .box [.d (.lst c11 n12), .d (.int .u64 v14), .d (.int .i64 v15)])], 2, 127⟩) (fun _ => True) [1, 3, 5, 28] ?_ ?_
    · cbv
      obtain ⟨b26, h25, h⟩ := bnd h
      refine call_by hP (s11 h25) hJ rfl rfl ?_
      cbv
      revert h
      refine st_not hJ fun b27 eb27 h => ?_
      cbv
      cases b27 with
      | true =>
        replace h := cnd_t h
        cbv
        exact ⟨⟨(true), h⟩, [(0, 0), (2, 1)], 2, [], rfl, trivial⟩
      | false =>
        replace h := cnd_f h
        cbv
        obtain ⟨b30, h29, h⟩ := bnd h
        refine call_by hP (s12 h29) hJ rfl rfl ?_
        cbv
        revert h
        refine st_not hJ fun b31 eb31 h => ?_
        cbv
        cases b31 with
        | true =>
          replace h := cnd_t h
          cbv
          exact ⟨⟨(true), h⟩, [(0, 0), (2, 1)], 2, [], rfl, trivial⟩
        | false =>
          replace h := cnd_f h
          cbv
          revert h
          refine st_len hJ hl9 fun v32 ev32 h => ?_
          cbv
          revert h
          refine st_cmp hJ fun b33 eb33 h => ?_
          cbv
          exact ⟨⟨(b33), h⟩, [(0, 0), (2, 1)], 2, [], rfl, trivial⟩
    · rintro ⟨b24, h⟩ -
      rw [hj23] at h
      try dsimp only at h ⊢
      cbv
      cases b24 with
      | true =>
        replace h := cnd_t h
        cbv
        obtain ⟨b27, h26, h⟩ := bnd h
        refine call_by hP (s11 h26) hJ rfl rfl ?_
        cbv
        cases h
        exact ⟨_, .refl _, [], _, _, [], _, rfl, rfl, rfl, rfl, rfl, rfl⟩
      | false =>
        replace h := cnd_f h
        cbv
        exact ⟨⟨(), h⟩, [(0, 0), (1, 1)], 2, [], rfl, trivial⟩
  · rintro ⟨_, h⟩ -
    rw [hj20] at h
    try dsimp only at h ⊢
    cbv
    obtain ⟨⟨⟨v23, v24, v25, v26, v27⟩, l28, m32, m35, m38, l41, v45, b46, v47⟩, h22, h⟩ := bnd h
    obtain ⟨c29, n30, hl31⟩ := nameL eZone l28
    obtain ⟨c33, hm34⟩ := nameM (eI .i64) eB m32
    obtain ⟨c36, hm37⟩ := nameM eAt (eA .u8) m35
    obtain ⟨c39, hm40⟩ := nameM eAt (eA .u8) m38
    obtain ⟨c42, n43, hl44⟩ := nameL eDev_write l41
    try dsimp only at h
    refine callM_by hP (s13 hl31 hm34 hm37 hm40 hl44 h22) [] false hJ rfl rfl rfl rfl rfl (.inl rfl) ?_
    cbv
    obtain ⟨⟨⟨v50, v51, v52, v53, v54⟩, l55, l59, l63, l67, b71, v72, b73, v74⟩, h49, h⟩ := bnd h
    obtain ⟨c56, n57, hl58⟩ := nameL eZone l55
    obtain ⟨c60, n61, hl62⟩ := nameL (eI .i64) l59
    obtain ⟨c64, n65, hl66⟩ := nameL eRef05_Cell l63
    obtain ⟨c68, n69, hl70⟩ := nameL eRef05_Cell l67
    try dsimp only at h
    refine call_by hP (Spec.frozen (s14 hl58 hl62 hl66 hl70 h49) rfl) hJ rfl rfl ?_
    cbv
    obtain ⟨p76, q75, hp77, hf78, hq79⟩ := bnd_loop h
    clear h
    refine LoopB.mk ({x : Nat × Int × Int × Int × Int × Int × Int × Int × Bool × Int × Int × Int × Int × Int × Int × (List TZone) × (List D) × Nat × (List Int) × (List D) × Nat × (List TRef05_Cell) × (List D) × Nat × (List TRef05_Cell) × (List D) × Nat × Bool × Int × Bool × Int × (List TZone) × (List D) × Nat × (List (Int × Bool)) × (List (List D × List D)) × (List (TAt × (Ar 64))) × (List (List D × List D)) × (List (TAt × (Ar 64))) × (List (List D × List D)) × (List TDev_write) × (List D) × Nat // IsL eZone x.2.2.2.2.2.2.2.2.2.2.2.2.2.2.2.2.1 x.2.2.2.2.2.2.2.2.2.2.2.2.2.2.2.2.2.1 x.2.2.2.2.2.2.2.2.2.2.2.2.2.2.2.1 ∧ IsL (eI .i64) x.2.2.2.2.2.2.2.2.2.2.2.2.2.2.2.2.2.2.2.1 x.2.2.2.2.2.2.2.2.2.2.2.2.2.2.2.2.2.2.2.2.1 x.2.2.2.2.2.2.2.2.2.2.2.2.2.2.2.2.2.2.1 ∧ IsL eRef05_Cell x.2.2.2.2.2.2.2.2.2.2.2.2.2.2.2.2.2.2.2.2.2.2.1 x.2.2.2.2.2.2.2.2.2.2.2.2.2.2.2.2.2.2.2.2.2.2.2.1 x.2.2.2.2.2.2.2.2.2.2.2.2.2.2.2.2.2.2.2.2.2.1 ∧ IsL eRef05_Cell x.2.2.2.2.2.2.2.2.2.2.2.2.2.2.2.2.2.2.2.2.2.2.2.2.2.1 x.2.2.2.2.2.2.2.2.2.2.2.2.2.2.2.2.2.2.2.2.2.2.2.2.2.2.1 x.2.2.2.2.2.2.2.2.2.2.2.2.2.2.2.2.2.2.2.2.2.2.2.2.1 ∧ IsL eZone x.2.2.2.2.2.2.2.2.2.2.2.2.2.2.2.2.2.2.2.2.2.2.2.2.2.2.2.2.2.2.2.2.1 x.2.2.2.2.2.2.2.2.2.2.2.2.2.2.2.2.2.2.2.2.2.2.2.2.2.2.2.2.2.2.2.2.2.1 x.2.2.2.2.2.2.2.2.2.2.2.2.2.2.2.2.2.2.2.2.2.2.2.2.2.2.2.2.2.2.2.1 ∧ x.2.2.2.2.2.2.2.2.2.2.2.2.2.2.2.2.2.2.2.2.2.2.2.2.2.2.2.2.2.2.2.2.2.2.2.1 = encM (eI .i64) eB x.2.2.2.2.2.2.2.2.2.2.2.2.2.2.2.2.2.2.2.2.2.2.2.2.2.2.2.2.2.2.2.2.2.2.1 ∧ x.2.2.2.2.2.2.2.2.2.2.2.2.2.2.2.2.2.2.2.2.2.2.2.2.2.2.2.2.2.2.2.2.2.2.2.2.2.1 = encM eAt (eA .u8) x.2.2.2.2.2.2.2.2.2.2.2.2.2.2.2.2.2.2.2.2.2.2.2.2.2.2.2.2.2.2.2.2.2.2.2.2.1 ∧ x.2.2.2.2.2.2.2.2.2.2.2.2.2.2.2.2.2.2.2.2.2.2.2.2.2.2.2.2.2.2.2.2.2.2.2.2.2.2.2.1 = encM eAt (eA .u8) x.2.2.2.2.2.2.2.2.2.2.2.2.2.2.2.2.2.2.2.2.2.2.2.2.2.2.2.2.2.2.2.2.2.2.2.2.2.2.1 ∧ IsL eDev_write x.2.2.2.2.2.2.2.2.2.2.2.2.2.2.2.2.2.2.2.2.2.2.2.2.2.2.2.2.2.2.2.2.2.2.2.2.2.2.2.2.2.1 x.2.2.2.2.2.2.2.2.2.2.2.2.2.2.2.2.2.2.2.2.2.2.2.2.2.2.2.2.2.2.2.2.2.2.2.2.2.2.2.2.2.2 x.2.2.2.2.2.2.2.2.2.2.2.2.2.2.2.2.2.2.2.2.2.2.2.2.2.2.2.2.2.2.2.2.2.2.2.2.2.2.2.2.1 ∧ loopN p76 x.1 (x.2.1, x.2.2.1, x.2.2.2.1, x.2.2.2.2.1, x.2.2.2.2.2.1, x.2.2.2.2.2.2.1, x.2.2.2.2.2.2.2.1, x.2.2.2.2.2.2.2.2.1, x.2.2.2.2.2.2.2.2.2.1, x.2.2.2.2.2.2.2.2.2.2.1, x.2.2.2.2.2.2.2.2.2.2.2.1, x.2.2.2.2.2.2.2.2.2.2.2.2.1, x.2.2.2.2.2.2.2.2.2.2.2.2.2.1, x.2.2.2.2.2.2.2.2.2.2.2.2.2.2.1, x.2.2.2.2.2.2.2.2.2.2.2.2.2.2.2.1, x.2.2.2.2.2.2.2.2.2.2.2.2.2.2.2.2.2.2.1, x.2.2.2.2.2.2.2.2.2.2.2.2.2.2.2.2.2.2.2.2.2.1, x.2.2.2.2.2.2.2.2.2.2.2.2.2.2.2.2.2.2.2.2.2.2.2.2.1, x.2.2.2.2.2.2.2.2.2.2.2.2.2.2.2.2.2.2.2.2.2.2.2.2.2.2.2.1, x.2.2.2.2.2.2.2.2.2.2.2.2.2.2.2.2.2.2.2.2.2.2.2.2.2.2.2.2.1, x.2.2.2.2.2.2.2.2.2.2.2.2.2.2.2.2.2.2.2.2.2.2.2.2.2.2.2.2.2.1, x.2.2.2.2.2.2.2.2.2.2.2.2.2.2.2.2.2.2.2.2.2.2.2.2.2.2.2.2.2.2.1, x.2.2.2.2.2.2.2.2.2.2.2.2.2.2.2.2.2.2.2.2.2.2.2.2.2.2.2.2.2.2.2.1, x.2.2.2.2.2.2.2.2.2.2.2.2.2.2.2.2.2.2.2.2.2.2.2.2.2.2.2.2.2.2.2.2.2.2.1, x.2.2.2.2.2.2.2.2.2.2.2.2.2.2.2.2.2.2.2.2.2.2.2.2.2.2.2.2.2.2.2.2.2.2.2.2.1, x.2.2.2.2.2.2.2.2.2.2.2.2.2.2.2.2.2.2.2.2.2.2.2.2.2.2.2.2.2.2.2.2.2.2.2.2.2.2.1, x.2.2.2.2.2.2.2.2.2.2.2.2.2.2.2.2.2.2.2.2.2.2.2.2.2.2.2.2.2.2.2.2.2.2.2.2.2.2.2.2.1) = some q75}) (fun x => ⟨[(1, .d (.lst c7 n8)), (3, .ptr 0 0), (5, .ptr 1 0), (7, .ptr 2 0), (8, .ptr 3 0), (9, .d (.int .i64 x.1.2.1))], [(0, .box [.d (.int .i64 v1), .d (.int .i64 v2), .d (.int .i64 v3), .d (.int .i64 v4), .d (.int .i64 v5)]), (1, .box [.d (.lst c11 n12), .d (.int .u64 v14), .d (.int .i64 v15)]), (2, .box [.d (.int .i64 x.1.2.2.1), .d (.int .i64 x.1.2.2.2.1), .d (.int .i64 x.1.2.2.2.2.1), .d (.int .i64 x.1.2.2.2.2.2.1), .d (.int .i64 x.1.2.2.2.2.2.2.1), .own 4 x.1.2.2.2.2.2.2.2.2.2.2.2.2.2.2.2.2.2.2.2.2.2.2.2.2.2.2.2.2.2.2.2.2.2.1 2, .map 5, .map 6, .map 7, .own 8 x.1.2.2.2.2.2.2.2.2.2.2.2.2.2.2.2.2.2.2.2.2.2.2.2.2.2.2.2.2.2.2.2.2.2.2.2.2.2.2.2.2.2.2 66, .d (.int .i64 x.1.2.2.2.2.2.2.2.1), .d (.bool x.1.2.2.2.2.2.2.2.2.1), .d (.int .i64 x.1.2.2.2.2.2.2.2.2.2.1)]), (3, .box [.d (.int .i64 x.1.2.2.2.2.2.2.2.2.2.2.1), .d (.int .i64 x.1.2.2.2.2.2.2.2.2.2.2.2.1), .d (.int .i64 x.1.2.2.2.2.2.2.2.2.2.2.2.2.1), .d (.int .i64 x.1.2.2.2.2.2.2.2.2.2.2.2.2.2.1), .d (.int .i64 x.1.2.2.2.2.2.2.2.2.2.2.2.2.2.2.1), .d (.lst x.1.2.2.2.2.2.2.2.2.2.2.2.2.2.2.2.2.1 x.1.2.2.2.2.2.2.2.2.2.2.2.2.2.2.2.2.2.1), .d (.lst x.1.2.2.2.2.2.2.2.2.2.2.2.2.2.2.2.2.2.2.2.1 x.1.2.2.2.2.2.2.2.2.2.2.2.2.2.2.2.2.2.2.2.2.1), .d (.lst x.1.2.2.2.2.2.2.2.2.2.2.2.2.2.2.2.2.2.2.2.2.2.2.1 x.1.2.2.2.2.2.2.2.2.2.2.2.2.2.2.2.2.2.2.2.2.2.2.2.1), .d (.lst x.1.2.2.2.2.2.2.2.2.2.2.2.2.2.2.2.2.2.2.2.2.2.2.2.2.2.1 x.1.2.2.2.2.2.2.2.2.2.2.2.2.2.2.2.2.2.2.2.2.2.2.2.2.2.2.1), .d (.bool x.1.2.2.2.2.2.2.2.2.2.2.2.2.2.2.2.2.2.2.2.2.2.2.2.2.2.2.2.1), .d (.int .i64 x.1.2.2.2.2.2.2.2.2.2.2.2.2.2.2.2.2.2.2.2.2.2.2.2.2.2.2.2.2.1), .d (.bool x.1.2.2.2.2.2.2.2.2.2.2.2.2.2.2.2.2.2.2.2.2.2.2.2.2.2.2.2.2.2.1), .d (.int .i64 x.1.2.2.2.2.2.2.2.2.2.2.2.2.2.2.2.2.2.2.2.2.2.2.2.2.2.2.2.2.2.2.1)]), (4, .row x.1.2.2.2.2.2.2.2.2.2.2.2.2.2.2.2.2.2.2.2.2.2.2.2.2.2.2.2.2.2.2.2.2.1 2 53), (5, .mp false false x.1.2.2.2.2.2.2.2.2.2.2.2.2.2.2.2.2.2.2.2.2.2.2.2.2.2.2.2.2.2.2.2.2.2.2.2.1), (6, .mp true true x.1.2.2.2.2.2.2.2.2.2.2.2.2.2.2.2.2.2.2.2.2.2.2.2.2.2.2.2.2.2.2.2.2.2.2.2.2.2.1), (7, .mp true true x.1.2.2.2.2.2.2.2.2.2.2.2.2.2.2.2.2.2.2.2.2.2.2.2.2.2.2.2.2.2.2.2.2.2.2.2.2.2.2.2.1), (8, .row x.1.2.2.2.2.2.2.2.2.2.2.2.2.2.2.2.2.2.2.2.2.2.2.2.2.2.2.2.2.2.2.2.2.2.2.2.2.2.2.2.2.2.1 66 109)], 9, 127⟩) (fun x => x.1.1) [1, 3, 5, 7, 8, 9] 8 ⟨(FUEL, 0, v23, v24, v25, v26, v27, v45, b46, v47, v50, v51, v52, v53, v54, l55, c56, n57, ([] : List Int), [], 0, ([] : List TRef05_Cell), [], 0, ([] : List TRef05_Cell), [], 0, b71, v72, b73, v74, l28, c29, n30, m32, c33, m35, c36, m38, c39, ([] : List TDev_write), [], 0), hl58, (IsL.nil' (g := (eI .i64))), (IsL.nil' (g := eRef05_Cell)), (IsL.nil' (g := eRef05_Cell)), hl31, hm34, hm37, hm40, (IsL.nil' (g := eDev_write)), hf78⟩ ⟨[(0, 0), (1, 1), (3, 2), (12, 3), (4, 4), (5, 5), (6, 6), (7, 7)], [.cell 2 9 8 66 109, .nlC 3 6, .nlC 3 7, .nlC 3 8], ?_⟩ ?_
    · rfl
    · rintro ⟨⟨N82, v85, v86, v87, v88, v89, v90, v91, b92, v93, v94, v95, v96, v97, v98, l99, c100, n101, l103, c104, n105, l107, c108, n109, l111, c112, n113, b115, v116, b117, v118, l119, c120, n121, m123, c124, m126, c127, m129, c130, l132, c133, n134⟩, hl102, hl106, hl110, hl114, hl122, hm125, hm128, hm131, hl135, hr81⟩
      obtain ⟨M83, o80, eN84, h, hr81⟩ := loopN_step hr81
      subst eN84
      rw [hp77] at h
      try dsimp only at h ⊢
      cbv
      revert h
      refine st_len hJ hl9 fun v136 ev136 h => ?_
      cbv
      revert h
      refine st_cmp hJ fun b137 eb137 h => ?_
      cbv
      cases b137 with
      | true =>
        replace h := cnd_t h
        cbv
        refine JoinP.mk Unit (fun _ => ⟨[(1, .d (.lst c7 n8)), (3, .ptr 0 0), (5, .ptr 1 0), (7, .ptr 2 0), (8, .ptr 3 0), (9, .d (.int .i64 v85))], [(0, .box [.d (.int .i64 v1), .d (.int .i64 v2), .d (.int .i64 v3), .d (.int .i64 v4), .d (.int .i64 v5)]), (1, .box [.d (.lst c11 n12), .d (.int .u64 v14), .d (.int .i64 v15)]), (2, .box [.d (.int .i64 v86), .d (.int .i64 v87), .d (.int .i64 v88), .d (.int .i64 v89), .d (.int .i64 v90), .own 4 n121 2, .map 5, .map 6, .map 7, .own 8 n134 66, .d (.int .i64 v91), .d (.bool b92), .d (.int .i64 v93)]), (3, .box [.d (.int .i64 v94), .d (.int .i64 v95), .d (.int .i64 v96), .d (.int .i64 v97), .d (.int .i64 v98), .d (.lst c100 n101), .d (.lst c104 n105), .d (.lst c108 n109), .d (.lst c112 n113), .d (.bool b115), .d (.int .i64 v116), .d (.bool b117), .d (.int .i64 v118)]), (4, .row c120 2 53), (5, .mp false false c124), (6, .mp true true c127), (7, .mp true true c130), (8, .row c133 66 109)], 9, 127⟩) (fun _ => True) [1, 3, 5, 7, 8, 9] ⟨(), [(0, 0), (1, 1), (2, 2), (3, 3), (4, 4), (5, 5), (6, 6), (7, 7), (8, 8)], 9, [], rfl, trivial⟩ ?_
        intro _ _
        cbv
        revert h
        refine st_idx_lp hJ hl9 fun y138 k139 hy140 ho141 h => ?_
        obtain ⟨v142, ⟨v143, v144⟩, a145, v148, ⟨l149, v153, v154⟩⟩ := y138
        obtain ⟨d146, ha147⟩ := nameA .u8 a145
        obtain ⟨c150, n151, hl152⟩ := nameL (eI .i64) l149
        try dsimp only at h
        cbv
        refine st_ldW hJ eRef05_Act_len hl9 hy140 ho141 (fun hJ => by subst hJ; rfl) ([.int .u8 v142, .int .i64 v143, .int .i64 v144] ++ (d146 ++ ([.int .i64 v148, .lst c150 n151, .int .u64 v153, .int .i64 v154]))) (by rw [(show d146 = encL (eI .u8) a145.l from ha147)]; rw [hl152.cs, hl152.n]; first | done | rfl | simp [eRef05_Act, encL_len (k := 1) (eI_len _), Ar.h]) (.int (.int (.int (.big ⟨by rw [(show d146 = encL (eI .u8) a145.l from ha147)]; exact eA_len _ _, by decide⟩ (.int (.slc (.int (.int .nil)))))))) rfl ?_
        cbv
        obtain ⟨⟨v157, ⟨⟨v158, v159, v160, v161, v162⟩, l163, m167, m170, m173, l176, v180, b181, v182⟩⟩, h156, h⟩ := bnd h
        obtain ⟨c164, n165, hl166⟩ := nameL eZone l163
        obtain ⟨c168, hm169⟩ := nameM (eI .i64) eB m167
        obtain ⟨c171, hm172⟩ := nameM eAt (eA .u8) m170
        obtain ⟨c174, hm175⟩ := nameM eAt (eA .u8) m173
        obtain ⟨c177, n178, hl179⟩ := nameL eDev_write l176
        try dsimp only at h
        refine callM_by hP (s15 ha147 hl152 hl122 hm125 hm128 hm131 hl135 hl166 hm169 hm172 hm175 hl179 h156) [(2, 0), (5, 1), (6, 2), (4, 3), (7, 4), (8, 5)] false hJ rfl rfl rfl rfl rfl (.inl rfl) ?_
        cbv
        revert h
        refine st_idx_lp hJ hl9 fun y183 k184 hy185 ho186 h => ?_
        obtain ⟨v187, ⟨v188, v189⟩, a190, v193, ⟨l194, v198, v199⟩⟩ := y183
        obtain ⟨d191, ha192⟩ := nameA .u8 a190
        obtain ⟨c195, n196, hl197⟩ := nameL (eI .i64) l194
        try dsimp only at h
        cbv
        refine st_ldW hJ eRef05_Act_len hl9 hy185 ho186 (fun hJ => by subst hJ; rfl) ([.int .u8 v187, .int .i64 v188, .int .i64 v189] ++ (d191 ++ ([.int .i64 v193, .lst c195 n196, .int .u64 v198, .int .i64 v199]))) (by rw [(show d191 = encL (eI .u8) a190.l from ha192)]; rw [hl197.cs, hl197.n]; first | done | rfl | simp [eRef05_Act, encL_len (k := 1) (eI_len _), Ar.h]) (.int (.int (.int (.big ⟨by rw [(show d191 = encL (eI .u8) a190.l from ha192)]; exact eA_len _ _, by decide⟩ (.int (.slc (.int (.int .nil)))))))) rfl ?_
        cbv
        obtain ⟨⟨⟨⟨v202, v203, v204, v205, v206⟩, l207, l211, l215, l219, b223, v224, b225, v226⟩, v227⟩, h201, h⟩ := bnd h
        obtain ⟨c208, n209, hl210⟩ := nameL eZone l207
        obtain ⟨c212, n213, hl214⟩ := nameL (eI .i64) l211
        obtain ⟨c216, n217, hl218⟩ := nameL eRef05_Cell l215
        obtain ⟨c220, n221, hl222⟩ := nameL eRef05_Cell l219
        try dsimp only at h
        refine call_by hP (s16 hl102 hl106 hl110 hl114 ha192 hl197 hl210 hl214 hl218 hl222 h201) hJ rfl rfl ?_
        cbv
        refine ⟨fun _ => by kernel_rfl, ?_⟩
        cbv
        revert h
        refine st_bin hJ fun v228 ev228 h => ?_
        cbv
        cases h
        exact ⟨⟨(M83, v228, v158, v159, v160, v161, v162, v180, b181, v182, v202, v203, v204, v205, v206, l207, c208, n209, l211, c212, n213, l215, c216, n217, l219, c220, n221, b223, v224, b225, v226, l163, c164, n165, m167, c168, m170, c171, m173, c174, l176, c177, n178), hl210, hl214, hl218, hl222, hl166, hm169, hm172, hm175, hl179, hr81⟩, [(0, 0), (1, 1), (2, 2), (3, 3), (14, 4), (5, 5), (6, 6), (15, 7), (16, 8)], 9, [], rfl, Nat.lt_succ_self _⟩
      | false =>
        replace h := cnd_f h
        cbv
        cases h
        have h := hq79
        obtain rfl := hr81
        try dsimp only at h
        obtain ⟨⟨⟨v140, v141, v142, v143, v144⟩, l145, m149, m152, m155, l158, v162, b163, v164⟩, h139, h⟩ := bnd h
        obtain ⟨c146, n147, hl148⟩ := nameL eZone l145
        obtain ⟨c150, hm151⟩ := nameM (eI .i64) eB m149
        obtain ⟨c153, hm154⟩ := nameM eAt (eA .u8) m152
        obtain ⟨c156, hm157⟩ := nameM eAt (eA .u8) m155
        obtain ⟨c159, n160, hl161⟩ := nameL eDev_write l158
        try dsimp only at h
        obtain ⟨_, h269, h⟩ := bnd h
        obtain rfl := lenq_n h269 hl148 hl122
        obtain ⟨_, h270, h⟩ := bnd h
        obtain rfl := lenq_n h270 hl161 hl135
        refine callM_by hP (s17 hl122 hm125 hm128 hm131 hl135 hl148 hm151 hm154 hm157 hl161 h139) [(2, 0), (4, 1), (5, 2), (6, 3), (7, 4), (8, 5)] false hJ rfl rfl rfl rfl rfl (.inl rfl) ?_
        cbv
        obtain ⟨⟨v167, ⟨⟨v168, v169, v170, v171, v172⟩, l173, m177, m180, m183, l186, v190, b191, v192⟩⟩, h166, h⟩ := bnd h
        obtain ⟨c174, n175, hl176⟩ := nameL eZone l173
        obtain ⟨c178, hm179⟩ := nameM (eI .i64) eB m177
        obtain ⟨c181, hm182⟩ := nameM eAt (eA .u8) m180
        obtain ⟨c184, hm185⟩ := nameM eAt (eA .u8) m183
        obtain ⟨c187, n188, hl189⟩ := nameL eDev_write l186
        try dsimp only at h
        obtain ⟨_, h268, h⟩ := bnd h
        obtain rfl := lenq_n h268 hl176 hl148
        refine callM_by hP (s18 hl148 hm151 hm154 hm157 hl161 hl176 hm179 hm182 hm185 hl189 h166) [(2, 0), (4, 1), (5, 2), (6, 3), (7, 4), (8, 5)] false hJ rfl rfl rfl rfl rfl (.inl rfl) ?_
        cbv
        revert h
        refine st_cmp hJ fun b193 eb193 h => ?_
        cbv
        cases b193 with
        | true =>
          replace h := cnd_t h
          cbv
          obtain ⟨b196, h195, h⟩ := bnd h
          refine callM_by hP (s19 hl176 hm179 hm182 hm185 hl189 h195) [(2, 0), (4, 1), (5, 2), (6, 3), (7, 4), (16, 5)] false hJ rfl rfl rfl rfl rfl (.inl rfl) ?_
          cbv
          cases h
          exact ⟨_, .refl _, [], _, _, [], _, rfl, rfl, rfl, rfl, rfl, rfl⟩
        | false =>
          replace h := cnd_f h
          cbv
          obtain ⟨l196, h195, h⟩ := bnd h
          obtain ⟨c197, n198, hl199⟩ := nameL eZone l196
          refine callM_by hP (s20 hl176 hm179 hm182 hm185 hl189 hl199 h195) [(2, 0), (4, 1), (5, 2), (6, 3), (7, 4), (16, 5)] false hJ rfl rfl rfl rfl rfl (.inl rfl) ?_
          cbv
          obtain ⟨⟨⟨v202, v203, v204, v205, v206⟩, l207, m211, m214, m217, l220, v224, b225, v226⟩, h201, h⟩ := bnd h
          obtain ⟨c208, n209, hl210⟩ := nameL eZone l207
          obtain ⟨c212, hm213⟩ := nameM (eI .i64) eB m211
          obtain ⟨c215, hm216⟩ := nameM eAt (eA .u8) m214
          obtain ⟨c218, hm219⟩ := nameM eAt (eA .u8) m217
          obtain ⟨c221, n222, hl223⟩ := nameL eDev_write l220
          try dsimp only at h
          refine callM_by hP (s21 hl13 hl176 hm179 hm182 hm185 hl189 hl210 hm213 hm216 hm219 hl223 h201) [(2, 0), (5, 1), (6, 2), (4, 3), (7, 4), (16, 5)] false hJ rfl rfl rfl rfl rfl (.inl rfl) ?_
          cbv
          refine JoinP.mk Unit (fun _ => ⟨[(3, .ptr 0 0), (7, .ptr 1 0), (8, .ptr 2 0), (10, .own 3 n198 2)], [(0, .box [.d (.int .i64 v1), .d (.int .i64 v2), .d (.int .i64 v3), .d (.int .i64 v4), .d (.int .i64 v5)]), (1, .box [.d (.int .i64 v202), .d (.int .i64 v203), .d (.int .i64 v204), .d (.int .i64 v205), .d (.int .i64 v206), .own 4 n209 2, .map 5, .map 6, .map 7, .own 8 0 66, .d (.int .i64 v224), .d (.bool b225), .d (.int .i64 v226)]), (2, .box [.d (.int .i64 v94), .d (.int .i64 v95), .d (.int .i64 v96), .d (.int .i64 v97), .d (.int .i64 v98), .d (.lst c100 n101), .d (.lst c104 n105), .d (.lst c108 n109), .d (.lst c112 n113), .d (.bool b115), .d (.int .i64 v116), .d (.bool b117), .d (.int .i64 v118)]), (3, .row c197 2 53), (4, .row c208 2 53), (5, .mp false false c212), (6, .mp true true c215), (7, .mp true true c218), (8, .row [] 66 109)], 9, 127⟩) (fun _ => True) [3, 7, 8, 10] ⟨(), [(0, 0), (2, 1), (3, 2), (20, 3), (25, 4), (5, 5), (6, 6), (26, 7)], 8, [.cell 1 9 8 66 109], rfl, trivial⟩ ?_
          intro _ _
          cbv
          obtain ⟨l229, h228, h⟩ := bnd h
          obtain ⟨c230, n231, hl232⟩ := nameL eZone l229
          refine callM_by hP (s20 hl210 hm213 hm216 hm219 (IsL.nil' (g := eDev_write)) hl232 h228) [(1, 0), (4, 1), (5, 2), (6, 3), (7, 4), (8, 5)] false hJ rfl rfl rfl rfl rfl (.inl rfl) ?_
          cbv
          obtain ⟨j234, hj235, h⟩ := jn h
          refine JoinP.mk ({x : Int × Int × Int × Int × Int × Int × Bool × Int × (List TZone) × (List D) × Nat × (List (Int × Bool)) × (List (List D × List D)) × (List (TAt × (Ar 64))) × (List (List D × List D)) × (List (TAt × (Ar 64))) × (List (List D × List D)) × (List TDev_write) × (List D) × Nat // IsL eZone x.2.2.2.2.2.2.2.2.2.1 x.2.2.2.2.2.2.2.2.2.2.1 x.2.2.2.2.2.2.2.2.1 ∧ x.2.2.2.2.2.2.2.2.2.2.2.2.1 = encM (eI .i64) eB x.2.2.2.2.2.2.2.2.2.2.2.1 ∧ x.2.2.2.2.2.2.2.2.2.2.2.2.2.2.1 = encM eAt (eA .u8) x.2.2.2.2.2.2.2.2.2.2.2.2.2.1 ∧ x.2.2.2.2.2.2.2.2.2.2.2.2.2.2.2.2.1 = encM eAt (eA .u8) x.2.2.2.2.2.2.2.2.2.2.2.2.2.2.2.1 ∧ IsL eDev_write x.2.2.2.2.2.2.2.2.2.2.2.2.2.2.2.2.2.2.1 x.2.2.2.2.2.2.2.2.2.2.2.2.2.2.2.2.2.2.2 x.2.2.2.2.2.2.2.2.2.2.2.2.2.2.2.2.2.1 ∧ j234 (x.1, x.2.1, x.2.2.1, x.2.2.2.1, x.2.2.2.2.1, x.2.2.2.2.2.1, x.2.2.2.2.2.2.1, x.2.2.2.2.2.2.2.1, x.2.2.2.2.2.2.2.2.1, x.2.2.2.2.2.2.2.2.2.2.2.1, x.2.2.2.2.2.2.2.2.2.2.2.2.2.1, x.2.2.2.2.2.2.2.2.2.2.2.2.2.2.2.1, x.2.2.2.2.2.2.2.2.2.2.2.2.2.2.2.2.2.1) = some b16}) (fun x => ⟨[(3, .ptr 0 0), (7, .ptr 1 0), (11, .own 2 n231 2)], [(0, .box [.d (.int .i64 v1), .d (.int .i64 v2), .d (.int .i64 v3), .d (.int .i64 v4), .d (.int .i64 v5)]), (1, .box [.d (.int .i64 x.1.1), .d (.int .i64 x.1.2.1), .d (.int .i64 x.1.2.2.1), .d (.int .i64 x.1.2.2.2.1), .d (.int .i64 x.1.2.2.2.2.1), .own 3 x.1.2.2.2.2.2.2.2.2.2.2.1 2, .map 4, .map 5, .map 6, .own 7 x.1.2.2.2.2.2.2.2.2.2.2.2.2.2.2.2.2.2.2.2 66, .d (.int .i64 x.1.2.2.2.2.2.1), .d (.bool x.1.2.2.2.2.2.2.1), .d (.int .i64 x.1.2.2.2.2.2.2.2.1)]), (2, .row c230 2 53), (3, .row x.1.2.2.2.2.2.2.2.2.2.1 2 53), (4, .mp false false x.1.2.2.2.2.2.2.2.2.2.2.2.2.1), (5, .mp true true x.1.2.2.2.2.2.2.2.2.2.2.2.2.2.2.1), (6, .mp true true x.1.2.2.2.2.2.2.2.2.2.2.2.2.2.2.2.2.1), (7, .row x.1.2.2.2.2.2.2.2.2.2.2.2.2.2.2.2.2.2.2.1 66 109)], 8, 127⟩) (fun _ => True) [3, 7, 11] ?_ ?_
          · cbv
            obtain ⟨p237, q236, hp238, hf239, hq240⟩ := bnd_loop h
            clear h
            refine LoopB.mk ({x : Nat × Int × Int × Int × Int × Int × Int × Int × Bool × Int × (List TZone) × (List D) × Nat × (List (Int × Bool)) × (List (List D × List D)) × (List (TAt × (Ar 64))) × (List (List D × List D)) × (List (TAt × (Ar 64))) × (List (List D × List D)) × (List TDev_write) × (List D) × Nat // IsL eZone x.2.2.2.2.2.2.2.2.2.2.2.1 x.2.2.2.2.2.2.2.2.2.2.2.2.1 x.2.2.2.2.2.2.2.2.2.2.1 ∧ x.2.2.2.2.2.2.2.2.2.2.2.2.2.2.1 = encM (eI .i64) eB x.2.2.2.2.2.2.2.2.2.2.2.2.2.1 ∧ x.2.2.2.2.2.2.2.2.2.2.2.2.2.2.2.2.1 = encM eAt (eA .u8) x.2.2.2.2.2.2.2.2.2.2.2.2.2.2.2.1 ∧ x.2.2.2.2.2.2.2.2.2.2.2.2.2.2.2.2.2.2.1 = encM eAt (eA .u8) x.2.2.2.2.2.2.2.2.2.2.2.2.2.2.2.2.2.1 ∧ IsL eDev_write x.2.2.2.2.2.2.2.2.2.2.2.2.2.2.2.2.2.2.2.2.1 x.2.2.2.2.2.2.2.2.2.2.2.2.2.2.2.2.2.2.2.2.2 x.2.2.2.2.2.2.2.2.2.2.2.2.2.2.2.2.2.2.2.1 ∧ loopN p237 x.1 (x.2.1, x.2.2.1, x.2.2.2.1, x.2.2.2.2.1, x.2.2.2.2.2.1, x.2.2.2.2.2.2.1, x.2.2.2.2.2.2.2.1, x.2.2.2.2.2.2.2.2.1, x.2.2.2.2.2.2.2.2.2.1, x.2.2.2.2.2.2.2.2.2.2.1, x.2.2.2.2.2.2.2.2.2.2.2.2.2.1, x.2.2.2.2.2.2.2.2.2.2.2.2.2.2.2.1, x.2.2.2.2.2.2.2.2.2.2.2.2.2.2.2.2.2.1, x.2.2.2.2.2.2.2.2.2.2.2.2.2.2.2.2.2.2.2.1) = some q236}) (fun x => ⟨[(3, .ptr 0 0), (7, .ptr 1 0), (8, .ptr 2 0), (10, .own 3 n198 2), (11, .own 4 n231 2), (12, .d (.int .i64 x.1.2.1))], [(0, .box [.d (.int .i64 v1), .d (.int .i64 v2), .d (.int .i64 v3), .d (.int .i64 v4), .d (.int .i64 v5)]), (1, .box [.d (.int .i64 x.1.2.2.1), .d (.int .i64 x.1.2.2.2.1), .d (.int .i64 x.1.2.2.2.2.1), .d (.int .i64 x.1.2.2.2.2.2.1), .d (.int .i64 x.1.2.2.2.2.2.2.1), .own 5 x.1.2.2.2.2.2.2.2.2.2.2.2.2.1 2, .map 6, .map 7, .map 8, .own 9 x.1.2.2.2.2.2.2.2.2.2.2.2.2.2.2.2.2.2.2.2.2.2 66, .d (.int .i64 x.1.2.2.2.2.2.2.2.1), .d (.bool x.1.2.2.2.2.2.2.2.2.1), .d (.int .i64 x.1.2.2.2.2.2.2.2.2.2.1)]), (2, .box [.d (.int .i64 v94), .d (.int .i64 v95), .d (.int .i64 v96), .d (.int .i64 v97), .d (.int .i64 v98), .d (.lst c100 n101), .d (.lst c104 n105), .d (.lst c108 n109), .d (.lst c112 n113), .d (.bool b115), .d (.int .i64 v116), .d (.bool b117), .d (.int .i64 v118)]), (3, .row c197 2 53), (4, .row c230 2 53), (5, .row x.1.2.2.2.2.2.2.2.2.2.2.2.1 2 53), (6, .mp false false x.1.2.2.2.2.2.2.2.2.2.2.2.2.2.2.1), (7, .mp true true x.1.2.2.2.2.2.2.2.2.2.2.2.2.2.2.2.2.1), (8, .mp true true x.1.2.2.2.2.2.2.2.2.2.2.2.2.2.2.2.2.2.2.1), (9, .row x.1.2.2.2.2.2.2.2.2.2.2.2.2.2.2.2.2.2.2.2.2.1 66 109)], 10, 127⟩) (fun x => x.1.1) [3, 7, 8, 10, 11, 12] 10 ⟨(FUEL, 0, v202, v203, v204, v205, v206, v224, b225, v226, l207, c208, n209, m211, c212, m214, c215, m217, c218, ([] : List TDev_write), [], 0), hl210, hm213, hm216, hm219, (IsL.nil' (g := eDev_write)), hf239⟩ ⟨[(0, 0), (1, 1), (2, 2), (3, 3), (10, 4), (4, 5), (5, 6), (6, 7), (7, 8), (8, 9)], [], ?_⟩ ?_
            · rfl
            · rintro ⟨⟨N243, v246, v247, v248, v249, v250, v251, v252, b253, v254, l255, c256, n257, m259, c260, m262, c263, m265, c266, l268, c269, n270⟩, hl258, hm261, hm264, hm267, hl271, hr242⟩
              obtain ⟨M244, o241, eN245, h, hr242⟩ := loopN_step hr242
              subst eN245
              rw [hp238] at h
              try dsimp only at h ⊢
              cbv
              obtain ⟨j273, hj274, h⟩ := jn h
              refine JoinP.mk ({x : Unit // j273 () = some o241}) (fun x => ⟨[(3, .ptr 0 0), (7, .ptr 1 0), (8, .ptr 2 0), (10, .own 3 n198 2), (11, .own 4 n231 2), (12, .d (.int .i64 v246))], [(0, .box [.d (.int .i64 v1), .d (.int .i64 v2), .d (.int .i64 v3), .d (.int .i64 v4), .d (.int .i64 v5)]), (1, .box [.d (.int .i64 v247), .d (.int .i64 v248), .d (.int .i64 v249), .d (.int .i64 v250), .d (.int .i64 v251), .own 5 n257 2, .map 6, .map 7, .map 8, .own 9 n270 66, .d (.int .i64 v252), .d (.bool b253), .d (.int .i64 v254)]), (2, .box [.d (.int .i64 v94), .d (.int .i64 v95), .d (.int .i64 v96), .d (.int .i64 v97), .d (.int .i64 v98), .d (.lst c100 n101), .d (.lst c104 n105), .d (.lst c108 n109), .d (.lst c112 n113), .d (.bool b115), .d (.int .i64 v116), .d (.bool b117), .d (.int .i64 v118)]), (3, .row c197 2 53), (4, .row c230 2 53), (5, .row c256 2 53), (6, .mp false false c260), (7, .mp true true c263), (8, .mp true true c266), (9, .row c269 66 109)], 10, 127⟩) (fun _ => True) [3, 7, 8, 10, 11, 12] ?_ ?_
              · cbv
                revert h
                refine st_len hJ hl199 fun v275 ev275 h => ?_
                cbv
                revert h
                refine st_cmp hJ fun b276 eb276 h => ?_
                cbv
                cases b276 with
                | true =>
                  replace h := cnd_t h
                  cbv
                  revert h
                  refine st_len hJ hl232 fun v277 ev277 h => ?_
                  cbv
                  revert h
                  refine st_cmp hJ fun b278 eb278 h => ?_
                  cbv
                  cases b278 with
                  | true =>
                    replace h := cnd_t h
                    cbv
                    exact ⟨⟨(), h⟩, [(0, 0), (1, 1), (2, 2), (3, 3), (4, 4), (5, 5), (6, 6), (7, 7), (8, 8), (9, 9)], 10, [], rfl, trivial⟩
                  | false =>
                    replace h := cnd_f h
                    cbv
                    cases h
                    have h := hq240
                    obtain rfl := hr242
                    try dsimp only at h
                    exact ⟨⟨(v247, v248, v249, v250, v251, v252, b253, v254, l255, c256, n257, m259, c260, m262, c263, m265, c266, l268, c269, n270), hl258, hm261, hm264, hm267, hl271, h⟩, [(0, 0), (1, 1), (4, 2), (5, 3), (6, 4), (7, 5), (8, 6), (9, 7)], 8, [], rfl, trivial⟩
                | false =>
                  replace h := cnd_f h
                  cbv
                  cases h
                  have h := hq240
                  obtain rfl := hr242
                  try dsimp only at h
                  exact ⟨⟨(v247, v248, v249, v250, v251, v252, b253, v254, l255, c256, n257, m259, c260, m262, c263, m265, c266, l268, c269, n270), hl258, hm261, hm264, hm267, hl271, h⟩, [(0, 0), (1, 1), (4, 2), (5, 3), (6, 4), (7, 5), (8, 6), (9, 7)], 8, [], rfl, trivial⟩
              · rintro ⟨_, h⟩ -
                rw [hj274] at h
                try dsimp only at h ⊢
                cbv
                revert h
                refine st_idx_pr hJ hl199 fun y275 k276 hy277 ho278 h => ?_
                obtain ⟨v279, v280⟩ := y275
                try dsimp only at h
                cbv
                refine st_ld hJ eZone_len hl199 hy277 ho278 1 (fun hJ => by subst hJ; rfl) ([.int .i64 v280]) (Nat.le_of_ble_eq_true rfl) rfl (.int .nil) rfl ?_
                cbv
                revert h
                refine st_idx_pr hJ hl232 fun y281 k282 hy283 ho284 h => ?_
                obtain ⟨v285, v286⟩ := y281
                try dsimp only at h
                cbv
                refine st_ld hJ eZone_len hl232 hy283 ho284 1 (fun hJ => by subst hJ; rfl) ([.int .i64 v286]) (Nat.le_of_ble_eq_true rfl) rfl (.int .nil) rfl ?_
                cbv
                revert h
                refine st_cmp hJ fun b287 eb287 h => ?_
                cbv
                refine ⟨fun _ => by kernel_rfl, ?_⟩
                cbv
                cases b287 with
                | true =>
                  replace h := cnd_t h
                  cbv
                  cases h
                  have h := hq240
                  obtain rfl := hr242
                  try dsimp only at h
                  cases h
                  exact ⟨_, .refl _, [], _, _, [], _, rfl, rfl, rfl, rfl, rfl, rfl⟩
                | false =>
                  replace h := cnd_f h
                  cbv
                  obtain ⟨p289, q288, hp290, hf291, hq292⟩ := bnd_loop h
                  clear h
                  refine LoopB.mk ({x : Nat × Int × Int × Int × Int × Int × Int × Int × Bool × Int × (List TZone) × (List D) × Nat × (List (Int × Bool)) × (List (List D × List D)) × (List (TAt × (Ar 64))) × (List (List D × List D)) × (List (TAt × (Ar 64))) × (List (List D × List D)) × (List TDev_write) × (List D) × Nat // IsL eZone x.2.2.2.2.2.2.2.2.2.2.2.1 x.2.2.2.2.2.2.2.2.2.2.2.2.1 x.2.2.2.2.2.2.2.2.2.2.1 ∧ x.2.2.2.2.2.2.2.2.2.2.2.2.2.2.1 = encM (eI .i64) eB x.2.2.2.2.2.2.2.2.2.2.2.2.2.1 ∧ x.2.2.2.2.2.2.2.2.2.2.2.2.2.2.2.2.1 = encM eAt (eA .u8) x.2.2.2.2.2.2.2.2.2.2.2.2.2.2.2.1 ∧ x.2.2.2.2.2.2.2.2.2.2.2.2.2.2.2.2.2.2.1 = encM eAt (eA .u8) x.2.2.2.2.2.2.2.2.2.2.2.2.2.2.2.2.2.1 ∧ IsL eDev_write x.2.2.2.2.2.2.2.2.2.2.2.2.2.2.2.2.2.2.2.2.1 x.2.2.2.2.2.2.2.2.2.2.2.2.2.2.2.2.2.2.2.2.2 x.2.2.2.2.2.2.2.2.2.2.2.2.2.2.2.2.2.2.2.1 ∧ loopN p289 x.1 (x.2.1, x.2.2.1, x.2.2.2.1, x.2.2.2.2.1, x.2.2.2.2.2.1, x.2.2.2.2.2.2.1, x.2.2.2.2.2.2.2.1, x.2.2.2.2.2.2.2.2.1, x.2.2.2.2.2.2.2.2.2.1, x.2.2.2.2.2.2.2.2.2.2.1, x.2.2.2.2.2.2.2.2.2.2.2.2.2.1, x.2.2.2.2.2.2.2.2.2.2.2.2.2.2.2.1, x.2.2.2.2.2.2.2.2.2.2.2.2.2.2.2.2.2.1, x.2.2.2.2.2.2.2.2.2.2.2.2.2.2.2.2.2.2.2.1) = some q288}) (fun x => ⟨[(3, .ptr 0 0), (7, .ptr 1 0), (8, .ptr 2 0), (10, .own 3 n198 2), (11, .own 4 n231 2), (12, .d (.int .i64 v246)), (13, .d (.int .i64 x.1.2.1))], [(0, .box [.d (.int .i64 v1), .d (.int .i64 v2), .d (.int .i64 v3), .d (.int .i64 v4), .d (.int .i64 v5)]), (1, .box [.d (.int .i64 x.1.2.2.1), .d (.int .i64 x.1.2.2.2.1), .d (.int .i64 x.1.2.2.2.2.1), .d (.int .i64 x.1.2.2.2.2.2.1), .d (.int .i64 x.1.2.2.2.2.2.2.1), .own 5 x.1.2.2.2.2.2.2.2.2.2.2.2.2.1 2, .map 6, .map 7, .map 8, .own 9 x.1.2.2.2.2.2.2.2.2.2.2.2.2.2.2.2.2.2.2.2.2.2 66, .d (.int .i64 x.1.2.2.2.2.2.2.2.1), .d (.bool x.1.2.2.2.2.2.2.2.2.1), .d (.int .i64 x.1.2.2.2.2.2.2.2.2.2.1)]), (2, .box [.d (.int .i64 v94), .d (.int .i64 v95), .d (.int .i64 v96), .d (.int .i64 v97), .d (.int .i64 v98), .d (.lst c100 n101), .d (.lst c104 n105), .d (.lst c108 n109), .d (.lst c112 n113), .d (.bool b115), .d (.int .i64 v116), .d (.bool b117), .d (.int .i64 v118)]), (3, .row c197 2 53), (4, .row c230 2 53), (5, .row x.1.2.2.2.2.2.2.2.2.2.2.2.1 2 53), (6, .mp false false x.1.2.2.2.2.2.2.2.2.2.2.2.2.2.2.1), (7, .mp true true x.1.2.2.2.2.2.2.2.2.2.2.2.2.2.2.2.2.1), (8, .mp true true x.1.2.2.2.2.2.2.2.2.2.2.2.2.2.2.2.2.2.2.1), (9, .row x.1.2.2.2.2.2.2.2.2.2.2.2.2.2.2.2.2.2.2.2.2.1 66 109)], 10, 127⟩) (fun x => x.1.1) [3, 7, 8, 10, 11, 12, 13] 10 ⟨(FUEL, 0, v247, v248, v249, v250, v251, v252, b253, v254, l255, c256, n257, m259, c260, m262, c263, m265, c266, l268, c269, n270), hl258, hm261, hm264, hm267, hl271, hf291⟩ ⟨[(0, 0), (1, 1), (2, 2), (3, 3), (4, 4), (5, 5), (6, 6), (7, 7), (8, 8), (9, 9)], [], ?_⟩ ?_
                  · rfl
                  · rintro ⟨⟨N295, v298, v299, v300, v301, v302, v303, v304, b305, v306, l307, c308, n309, m311, c312, m314, c315, m317, c318, l320, c321, n322⟩, hl310, hm313, hm316, hm319, hl323, hr294⟩
                    obtain ⟨M296, o293, eN297, h, hr294⟩ := loopN_step hr294
                    subst eN297
                    rw [hp290] at h
                    try dsimp only at h ⊢
                    cbv
                    revert h
                    refine st_idx_pr hJ hl199 fun y324 k325 hy326 ho327 h => ?_
                    obtain ⟨v328, v329⟩ := y324
                    try dsimp only at h
                    cbv
                    refine st_ld hJ eZone_len hl199 hy326 ho327 1 (fun hJ => by subst hJ; rfl) ([.int .i64 v329]) (Nat.le_of_ble_eq_true rfl) rfl (.int .nil) rfl ?_
                    cbv
                    revert h
                    refine st_cmp hJ fun b330 eb330 h => ?_
                    cbv
                    cases b330 with
                    | true =>
                      replace h := cnd_t h
                      cbv
                      obtain ⟨⟨a333, v336, ⟨⟨v337, v338, v339, v340, v341⟩, l342, m346, m349, m352, l355, v359, b360, v361⟩⟩, h332, h⟩ := bnd h
                      obtain ⟨d334, ha335⟩ := nameA .u8 a333
                      obtain ⟨c343, n344, hl345⟩ := nameL eZone l342
                      obtain ⟨c347, hm348⟩ := nameM (eI .i64) eB m346
                      obtain ⟨c350, hm351⟩ := nameM eAt (eA .u8) m349
                      obtain ⟨c353, hm354⟩ := nameM eAt (eA .u8) m352
                      obtain ⟨c356, n357, hl358⟩ := nameL eDev_write l355
                      try dsimp only at h
                      obtain ⟨_, h370, h⟩ := bnd h
                      obtain rfl := lenq_n h370 hl345 hl310
                      obtain ⟨_, h371, h⟩ := bnd h
                      obtain rfl := lenq_n h371 hl358 hl323
                      refine callM_by hP (s22 hl310 hm313 hm316 hm319 hl323 ha335 hl345 hm348 hm351 hm354 hl358 h332) [(1, 0), (5, 1), (6, 2), (7, 3), (8, 4), (9, 5)] false hJ rfl rfl rfl rfl rfl (.inl rfl) ?_
                      cbv
                      revert h
                      refine st_cmp hJ fun b362 eb362 h => ?_
                      cbv
                      cases b362 with
                      | true =>
                        replace h := cnd_t h
                        cbv
                        refine ⟨fun _ => by kernel_rfl, ?_⟩
                        cbv
                        cases h
                        have h := hq292
                        obtain rfl := hr294
                        try dsimp only at h
                        cases h
                        have h := hq240
                        obtain rfl := hr242
                        try dsimp only at h
                        cases h
                        exact ⟨_, .refl _, [], _, _, [], _, rfl, rfl, rfl, rfl, rfl, rfl⟩
                      | false =>
                        replace h := cnd_f h
                        cbv
                        obtain ⟨a365, h364, h⟩ := bnd h
                        obtain ⟨d366, ha367⟩ := nameA .u8 a365
                        refine call_by hP (s23 hl102 hl106 hl110 hl114 ha367 h364) hJ rfl rfl ?_
                        cbv
                        revert h
                        refine st_eqL hJ (neg := true) (e := !((a333.l == a365.l) && true)) (show eqLs [.big 64 .u8] [.big 64 d334] [.big 64 d366] _ from ⟨rfl, rfl, _, _, _, (ha335).trans (encI_map _ _), (ha367).trans (encI_map _ _), Ar.h _, Ar.h _, rfl, rfl⟩) rfl fun b368 eb368 h => ?_
                        cbv
                        refine ⟨fun _ => by kernel_rfl, ?_⟩
                        cbv
                        cases b368 with
                        | true =>
                          replace h := cnd_t h
                          cbv
                          cases h
                          have h := hq292
                          obtain rfl := hr294
                          try dsimp only at h
                          cases h
                          have h := hq240
                          obtain rfl := hr242
                          try dsimp only at h
                          cases h
                          exact ⟨_, .refl _, [], _, _, [], _, rfl, rfl, rfl, rfl, rfl, rfl⟩
                        | false =>
                          replace h := cnd_f h
                          cbv
                          revert h
                          refine st_bin hJ fun v369 ev369 h => ?_
                          cbv
                          cases h
                          exact ⟨⟨(M296, v369, v337, v338, v339, v340, v341, v359, b360, v361, l342, c343, n309, m346, c347, m349, c350, m352, c353, l355, c356, n322), hl345, hm348, hm351, hm354, hl358, hr294⟩, [(0, 0), (1, 1), (2, 2), (3, 3), (4, 4), (5, 5), (6, 6), (7, 7), (8, 8), (9, 9)], 10, [], rfl, Nat.lt_succ_self _⟩
                    | false =>
                      replace h := cnd_f h
                      cbv
                      cases h
                      have h := hq292
                      obtain rfl := hr294
                      try dsimp only at h
                      revert h
                      refine st_bin hJ fun v331 ev331 h => ?_
                      cbv
                      cases h
                      exact ⟨⟨(M244, v331, v299, v300, v301, v302, v303, v304, b305, v306, l307, c308, n309, m311, c312, m314, c315, m317, c318, l320, c321, n322), hl310, hm313, hm316, hm319, hl323, hr242⟩, [(0, 0), (1, 1), (2, 2), (3, 3), (4, 4), (5, 5), (6, 6), (7, 7), (8, 8), (9, 9)], 10, [], rfl, Nat.lt_succ_self _⟩
          · rintro ⟨⟨v236, v237, v238, v239, v240, v241, b242, v243, l244, c245, n246, m248, c249, m251, c252, m254, c255, l257, c258, n259⟩, hl247, hm250, hm253, hm256, hl260, h⟩ -
            rw [hj235] at h
            try dsimp only at h ⊢
            cbv
            obtain ⟨v263, h262, h⟩ := bnd h
            refine callM_by hP (s24 hl247 hm250 hm253 hm256 hl260 h262) [(1, 0), (3, 1), (4, 2), (5, 3), (6, 4), (7, 5)] false hJ rfl rfl rfl rfl rfl (.inl rfl) ?_
            cbv
            revert h
            refine st_cmp hJ fun b264 eb264 h => ?_
            cbv
            cases b264 with
            | true =>
              replace h := cnd_t h
              cbv
              obtain ⟨b267, h266, h⟩ := bnd h
              refine snap_by hP (s25 hl232 h266) hJ (by cbv) rfl ⟨trivial, trivial⟩ ?_
              cbv
              cases h
              exact ⟨_, .refl _, [], _, _, [], _, rfl, rfl, rfl, rfl, rfl, rfl⟩
            | false =>
              replace h := cnd_f h
              cbv
              cases h
              exact ⟨_, .refl _, [], _, _, [], _, rfl, rfl, rfl, rfl, rfl, rfl⟩
end Go.AX
