/- What functions of the program compute: each is what its Lean function says. -/
import Derived.Test.YtegcfbmleimcfaaTS1
import Derived.Test.YtegcfbmleimcfaaTS10
import Derived.Test.YtegcfbmleimcfaaTS13
import Derived.Test.YtegcfbmleimcfaaTS14
import Derived.Test.YtegcfbmleimcfaaTS15
import Derived.Test.YtegcfbmleimcfaaTS2
import Derived.Test.YtegcfbmleimcfaaTS4
import Derived.Test.YtegcfbmleimcfaaTS5
import Derived.Test.YtegcfbmleimcfaaTS7
import Derived.Test.YtegcfbmleimcfaaTS8
namespace Go.AX
open Go.Proofs
set_option autoImplicit false
set_option linter.unusedVariables false
set_option maxRecDepth 100000
set_option maxHeartbeats 100000000
set_option linter.unusedSimpArgs false

theorem s4 {v1 : Int} {l2 : List TTrans} {c3 : List D} {n4 : Nat} {v6 : Int} {v7 : Int} {v8 : Int} {v9 : Int} {l10 : List TWrite} {c11 : List D} {n12 : Nat} (hl5 : IsL eTrans c3 n4 l2) (hl13 : IsL eWrite c11 n12 l10) {b14 : Bool}  (h : m_law18_TransLedgers (TLedger.mk v1 l2) v6 v7 (TTrans.mk v8 v9 l10) = some b14) : Spec Try.prog 4 [.agg [.d (.int .i64 v1), .d (.lst c3 n4)], .d (.int .i64 v6), .d (.int .i64 v7), .agg [.d (.int .i64 v8), .d (.int .i64 v9), .d (.lst c11 n12)]] ⟨.d (.bool b14), [], 0, True⟩ := by
  refine spec_b [6, 4, 20] Try.func4 rfl rfl rfl fun J P hJ hP => ?_
  dsimp only [m_law18_TransLedgers] at h
  cbv
  obtain ⟨j17, hj18, h⟩ := jn h
  refine JoinP.mk ({x : Unit // j17 () = some b14}) (fun x => ⟨[(1, .d (.int .i64 v6)), (2, .d (.int .i64 v7)), (4, .ptr 0 0), (7, .ptr 1 0)], [(0, .box [.d (.int .i64 v1), .d (.lst c3 n4)]), (1, .box [.d (.int .i64 v8), .d (.int .i64 v9), .d (.lst c11 n12)])], 2, 147⟩) (fun _ => True) [1, 2, 4, 7] ?_ ?_
  · cbv
    obtain ⟨j20, hj21, h⟩ := jn h
    refine JoinP.mk ({x : Bool // j20 (x) = some b14}) (fun x => ⟨[(1, .d (.int .i64 v6)), (2, .d (.int .i64 v7)), (4, .ptr 0 0), (7, .ptr 1 0), (30, .d (.bool x.1))], [(0, .box [.d (.int .i64 v1), .d (.lst c3 n4)]), (1, .box [.d (.int .i64 v8), .d (.int .i64 v9), .d (.lst c11 n12)])], 2, 147⟩) (fun _ => True) [1, 2, 4, 7, 30] ?_ ?_
    · cbv
      obtain ⟨b24, h23, h⟩ := bnd h
      refine call_by hP (s9 h23) hJ rfl rfl ?_
      cbv
      revert h
      refine st_not hJ fun b25 eb25 h => ?_
      cbv
      cases b25 with
      | true =>
        replace h := cnd_t h
        cbv
        exact ⟨⟨(true), h⟩, [(0, 0), (2, 1)], 2, [], rfl, trivial⟩
      | false =>
        replace h := cnd_f h
        cbv
        obtain ⟨b28, h27, h⟩ := bnd h
        refine call_by hP (s17 hl5 h27) hJ rfl rfl ?_
        cbv
        revert h
        refine st_not hJ fun b29 eb29 h => ?_
        cbv
        cases b29 with
        | true =>
          replace h := cnd_t h
          cbv
          exact ⟨⟨(true), h⟩, [(0, 0), (2, 1)], 2, [], rfl, trivial⟩
        | false =>
          replace h := cnd_f h
          cbv
          obtain ⟨b32, h31, h⟩ := bnd h
          refine call_by hP (s10 hl13 h31) hJ rfl rfl ?_
          cbv
          revert h
          refine st_not hJ fun b33 eb33 h => ?_
          cbv
          exact ⟨⟨(b33), h⟩, [(0, 0), (2, 1)], 2, [], rfl, trivial⟩
    · rintro ⟨b22, h⟩ -
      rw [hj21] at h
      try dsimp only at h ⊢
      cbv
      cases b22 with
      | true =>
        replace h := cnd_t h
        cbv
        obtain ⟨b25, h24, h⟩ := bnd h
        refine call_by hP (s9 h24) hJ rfl rfl ?_
        cbv
        cases h
        exact ⟨_, .refl _, [], _, _, [], _, rfl, rfl, rfl, rfl, rfl, rfl⟩
      | false =>
        replace h := cnd_f h
        cbv
        exact ⟨⟨(), h⟩, [(0, 0), (1, 1)], 2, [], rfl, trivial⟩
  · rintro ⟨_, h⟩ -
    rw [hj18] at h
    try dsimp only at h ⊢
    cbv
    obtain ⟨⟨⟨v21, l22⟩, v26, v27⟩, h20, h⟩ := bnd h
    obtain ⟨c23, n24, hl25⟩ := nameL eTrans l22
    try dsimp only at h
    refine call_by hP (s18 hl5 hl25 h20) hJ rfl rfl ?_
    cbv
    obtain ⟨j29, hj30, h⟩ := jn h
    refine JoinP.mk ({x : Unit // j29 () = some b14}) (fun x => ⟨[(1, .d (.int .i64 v6)), (2, .d (.int .i64 v7)), (4, .ptr 0 0), (7, .ptr 1 0)], [(0, .box [.d (.int .i64 v1), .d (.lst c3 n4)]), (1, .box [.d (.int .i64 v8), .d (.int .i64 v9), .d (.lst c11 n12)])], 2, 147⟩) (fun _ => True) [1, 2, 4, 7] ?_ ?_
    · cbv
      revert h
      refine st_len hJ hl5 fun v31 ev31 h => ?_
      cbv
      revert h
      refine st_cmp hJ fun b32 eb32 h => ?_
      cbv
      cases b32 with
      | true =>
        replace h := cnd_t h
        cbv
        revert h
        refine st_cmp hJ fun b33 eb33 h => ?_
        cbv
        cases b33 with
        | true =>
          replace h := cnd_t h
          cbv
          cases h
          exact ⟨_, .refl _, [], _, _, [], _, rfl, rfl, rfl, rfl, rfl, rfl⟩
        | false =>
          replace h := cnd_f h
          cbv
          revert h
          refine st_cmp hJ fun b34 eb34 h => ?_
          cbv
          cases b34 with
          | true =>
            replace h := cnd_t h
            cbv
            cases h
            exact ⟨_, .refl _, [], _, _, [], _, rfl, rfl, rfl, rfl, rfl, rfl⟩
          | false =>
            replace h := cnd_f h
            cbv
            obtain ⟨b37, h36, h⟩ := bnd h
            refine snap_by hP (s19 hl25 hl5 h36) hJ (by cbv) rfl ⟨trivial, trivial⟩ ?_
            cbv
            revert h
            refine st_not hJ fun b38 eb38 h => ?_
            cbv
            cases b38 with
            | true =>
              replace h := cnd_t h
              cbv
              cases h
              exact ⟨_, .refl _, [], _, _, [], _, rfl, rfl, rfl, rfl, rfl, rfl⟩
            | false =>
              replace h := cnd_f h
              cbv
              exact ⟨⟨(), h⟩, [(0, 0), (1, 1)], 2, [], rfl, trivial⟩
      | false =>
        replace h := cnd_f h
        cbv
        revert h
        refine st_bin hJ fun v33 ev33 h => ?_
        cbv
        have hl34 : IsL eTrans [] 0 [] := ⟨rfl, rfl⟩
        refine st_any hJ rfl rfl (by subst hJ; exact (by decide : 0 ≤ 16777216)) ?_
        cbv
        revert h
        refine st_app hJ eTrans_len hl34 hl5 fun c36 n37 l35 hl38 h => ?_
        cbv
        have hl39 : IsL eTrans [.int .i64 v1, .int .i64 v6, .lst [] 0] 1 [(TTrans.mk v1 v6 ([] : List TWrite))] := ⟨rfl, rfl⟩
        refine st_any hJ rfl rfl (by subst hJ; exact (by decide : 3 ≤ 16777216)) ?_
        cbv
        revert h
        refine st_app hJ eTrans_len hl38 hl39 fun c41 n42 l40 hl43 h => ?_
        cbv
        refine ⟨fun _ => by kernel_rfl, ?_⟩
        cbv
        revert h
        refine st_cmp hJ fun b44 eb44 h => ?_
        cbv
        cases b44 with
        | true =>
          replace h := cnd_t h
          cbv
          cases h
          exact ⟨_, .refl _, [], _, _, [], _, rfl, rfl, rfl, rfl, rfl, rfl⟩
        | false =>
          replace h := cnd_f h
          cbv
          revert h
          refine st_cmp hJ fun b45 eb45 h => ?_
          cbv
          cases b45 with
          | true =>
            replace h := cnd_t h
            cbv
            cases h
            exact ⟨_, .refl _, [], _, _, [], _, rfl, rfl, rfl, rfl, rfl, rfl⟩
          | false =>
            replace h := cnd_f h
            cbv
            obtain ⟨b48, h47, h⟩ := bnd h
            refine snap_by hP (s19 hl25 hl43 h47) hJ (by cbv) rfl ⟨trivial, trivial⟩ ?_
            cbv
            revert h
            refine st_not hJ fun b49 eb49 h => ?_
            cbv
            cases b49 with
            | true =>
              replace h := cnd_t h
              cbv
              cases h
              exact ⟨_, .refl _, [], _, _, [], _, rfl, rfl, rfl, rfl, rfl, rfl⟩
            | false =>
              replace h := cnd_f h
              cbv
              exact ⟨⟨(), h⟩, [(0, 0), (1, 1)], 2, [], rfl, trivial⟩
    · rintro ⟨_, h⟩ -
      rw [hj30] at h
      try dsimp only at h ⊢
      cbv
      obtain ⟨⟨⟨v33, v34, l35⟩, v39⟩, h32, h⟩ := bnd h
      obtain ⟨c36, n37, hl38⟩ := nameL eWrite l35
      try dsimp only at h
      refine call_by hP (s20 hl5 hl38 h32) hJ rfl rfl ?_
      cbv
      obtain ⟨⟨⟨v42, v43, l44⟩, b48⟩, h41, h⟩ := bnd h
      obtain ⟨c45, n46, hl47⟩ := nameL eWrite l44
      try dsimp only at h
      refine call_by hP (s21 hl5 hl47 h41) hJ rfl rfl ?_
      cbv
      obtain ⟨⟨⟨v51, l52⟩, v56⟩, h50, h⟩ := bnd h
      obtain ⟨c53, n54, hl55⟩ := nameL eTrans l52
      try dsimp only at h
      refine call_by hP (s22 hl5 hl55 h50) hJ rfl rfl ?_
      cbv
      obtain ⟨b59, h58, h⟩ := bnd h
      refine snap_by hP (s13 hl38 hl47 h58) hJ (by cbv) rfl ⟨trivial, trivial⟩ ?_
      cbv
      cases b59 with
      | true =>
        replace h := cnd_t h
        cbv
        revert h
        refine st_cmp hJ fun b60 eb60 h => ?_
        cbv
        revert h
        refine st_eqb hJ fun b61 eb61 h => ?_
        cbv
        cases b61 with
        | true =>
          replace h := cnd_t h
          cbv
          cases b48 with
          | true =>
            replace h := cnd_t h
            cbv
            revert h
            refine st_cmp hJ fun b62 eb62 h => ?_
            cbv
            cases b62 with
            | true =>
              replace h := cnd_t h
              cbv
              obtain ⟨⟨v65, l66⟩, h64, h⟩ := bnd h
              obtain ⟨c67, n68, hl69⟩ := nameL eTrans l66
              try dsimp only at h
              refine call_by hP (s23 hl5 hl69 h64) hJ rfl rfl ?_
              cbv
              obtain ⟨b72, h71, h⟩ := bnd h
              refine snap_by hP (s19 hl55 hl69 h71) hJ (by cbv) rfl ⟨trivial, trivial⟩ ?_
              cbv
              cases b72 with
              | true =>
                replace h := cnd_t h
                cbv
                obtain ⟨⟨v75, l76⟩, h74, h⟩ := bnd h
                obtain ⟨c77, n78, hl79⟩ := nameL eTrans l76
                try dsimp only at h
                refine call_by hP (s24 hl5 hl13 hl79 h74) hJ rfl rfl ?_
                cbv
                obtain ⟨⟨v82, l83⟩, h81, h⟩ := bnd h
                obtain ⟨c84, n85, hl86⟩ := nameL eTrans l83
                try dsimp only at h
                refine call_by hP (s25 hl5 hl13 hl86 h81) hJ rfl rfl ?_
                cbv
                obtain ⟨b89, h88, h⟩ := bnd h
                refine snap_by hP (s19 hl79 hl86 h88) hJ (by cbv) rfl ⟨trivial, trivial⟩ ?_
                cbv
                cases b89 with
                | true =>
                  replace h := cnd_t h
                  cbv
                  obtain ⟨v92, h91, h⟩ := bnd h
                  refine call_by hP (s26 hl5 h91) hJ rfl rfl ?_
                  cbv
                  obtain ⟨v95, h94, h⟩ := bnd h
                  refine call_by hP (s27 hl5 h94) hJ rfl rfl ?_
                  cbv
                  revert h
                  refine st_cmp hJ fun b96 eb96 h => ?_
                  cbv
                  refine ⟨fun _ => by kernel_rfl, ?_⟩
                  cbv
                  cases h
                  exact ⟨_, .refl _, [], _, _, [], _, rfl, rfl, rfl, rfl, rfl, rfl⟩
                | false =>
                  replace h := cnd_f h
                  cbv
                  refine ⟨fun _ => by kernel_rfl, ?_⟩
                  cbv
                  cases h
                  exact ⟨_, .refl _, [], _, _, [], _, rfl, rfl, rfl, rfl, rfl, rfl⟩
              | false =>
                replace h := cnd_f h
                cbv
                refine ⟨fun _ => by kernel_rfl, ?_⟩
                cbv
                cases h
                exact ⟨_, .refl _, [], _, _, [], _, rfl, rfl, rfl, rfl, rfl, rfl⟩
            | false =>
              replace h := cnd_f h
              cbv
              refine ⟨fun _ => by kernel_rfl, ?_⟩
              cbv
              cases h
              exact ⟨_, .refl _, [], _, _, [], _, rfl, rfl, rfl, rfl, rfl, rfl⟩
          | false =>
            replace h := cnd_f h
            cbv
            revert h
            refine st_cmp hJ fun b62 eb62 h => ?_
            cbv
            cases b62 with
            | true =>
              replace h := cnd_t h
              cbv
              revert h
              refine st_cmp hJ fun b63 eb63 h => ?_
              cbv
              cases b63 with
              | true =>
                replace h := cnd_t h
                cbv
                obtain ⟨⟨v66, l67⟩, h65, h⟩ := bnd h
                obtain ⟨c68, n69, hl70⟩ := nameL eTrans l67
                try dsimp only at h
                refine call_by hP (s23 hl5 hl70 h65) hJ rfl rfl ?_
                cbv
                obtain ⟨b73, h72, h⟩ := bnd h
                refine snap_by hP (s19 hl55 hl70 h72) hJ (by cbv) rfl ⟨trivial, trivial⟩ ?_
                cbv
                cases b73 with
                | true =>
                  replace h := cnd_t h
                  cbv
                  obtain ⟨⟨v76, l77⟩, h75, h⟩ := bnd h
                  obtain ⟨c78, n79, hl80⟩ := nameL eTrans l77
                  try dsimp only at h
                  refine call_by hP (s24 hl5 hl13 hl80 h75) hJ rfl rfl ?_
                  cbv
                  obtain ⟨⟨v83, l84⟩, h82, h⟩ := bnd h
                  obtain ⟨c85, n86, hl87⟩ := nameL eTrans l84
                  try dsimp only at h
                  refine call_by hP (s25 hl5 hl13 hl87 h82) hJ rfl rfl ?_
                  cbv
                  obtain ⟨b90, h89, h⟩ := bnd h
                  refine snap_by hP (s19 hl80 hl87 h89) hJ (by cbv) rfl ⟨trivial, trivial⟩ ?_
                  cbv
                  cases b90 with
                  | true =>
                    replace h := cnd_t h
                    cbv
                    obtain ⟨v93, h92, h⟩ := bnd h
                    refine call_by hP (s26 hl5 h92) hJ rfl rfl ?_
                    cbv
                    obtain ⟨v96, h95, h⟩ := bnd h
                    refine call_by hP (s27 hl5 h95) hJ rfl rfl ?_
                    cbv
                    revert h
                    refine st_cmp hJ fun b97 eb97 h => ?_
                    cbv
                    refine ⟨fun _ => by kernel_rfl, ?_⟩
                    cbv
                    cases h
                    exact ⟨_, .refl _, [], _, _, [], _, rfl, rfl, rfl, rfl, rfl, rfl⟩
                  | false =>
                    replace h := cnd_f h
                    cbv
                    refine ⟨fun _ => by kernel_rfl, ?_⟩
                    cbv
                    cases h
                    exact ⟨_, .refl _, [], _, _, [], _, rfl, rfl, rfl, rfl, rfl, rfl⟩
                | false =>
                  replace h := cnd_f h
                  cbv
                  refine ⟨fun _ => by kernel_rfl, ?_⟩
                  cbv
                  cases h
                  exact ⟨_, .refl _, [], _, _, [], _, rfl, rfl, rfl, rfl, rfl, rfl⟩
              | false =>
                replace h := cnd_f h
                cbv
                refine ⟨fun _ => by kernel_rfl, ?_⟩
                cbv
                cases h
                exact ⟨_, .refl _, [], _, _, [], _, rfl, rfl, rfl, rfl, rfl, rfl⟩
            | false =>
              replace h := cnd_f h
              cbv
              refine ⟨fun _ => by kernel_rfl, ?_⟩
              cbv
              cases h
              exact ⟨_, .refl _, [], _, _, [], _, rfl, rfl, rfl, rfl, rfl, rfl⟩
        | false =>
          replace h := cnd_f h
          cbv
          refine ⟨fun _ => by kernel_rfl, ?_⟩
          cbv
          cases h
          exact ⟨_, .refl _, [], _, _, [], _, rfl, rfl, rfl, rfl, rfl, rfl⟩
      | false =>
        replace h := cnd_f h
        cbv
        refine ⟨fun _ => by kernel_rfl, ?_⟩
        cbv
        cases h
        exact ⟨_, .refl _, [], _, _, [], _, rfl, rfl, rfl, rfl, rfl, rfl⟩
end Go.AX
