/- What functions of the program compute: each is what its Lean function says. -/
import Derived.Test.YtegcfbmleimcfaaTS1
import Derived.Test.YtegcfbmleimcfaaTS13
import Derived.Test.YtegcfbmleimcfaaTS15
import Derived.Test.YtegcfbmleimcfaaTS2
import Derived.Test.YtegcfbmleimcfaaTS3
import Derived.Test.YtegcfbmleimcfaaTS4
namespace Go.AX
open Go.Proofs
set_option autoImplicit false
set_option linter.unusedVariables false
set_option maxRecDepth 100000
set_option maxHeartbeats 100000000
set_option linter.unusedSimpArgs false

theorem s3 {v1 : Int} {v2 : Int} {l3 : List TWrite} {c4 : List D} {n5 : Nat} {v7 : Int} {b8 : Bool} {a9 : Ar 32} {d10 : List D} {v12 : Int} (hl6 : IsL eWrite c4 n5 l3) (ha11 : d10 = encL (eI .u8) a9.l) {b13 : Bool}  (h : m_law18_TransWrites (TTrans.mk v1 v2 l3) (TWrite.mk v7 b8 a9) v12 = some b13) : Spec Try.prog 3 [.agg [.d (.int .i64 v1), .d (.int .i64 v2), .d (.lst c4 n5)], .agg [.d (.int .i64 v7), .d (.bool b8), .big 32 d10], .d (.int .i64 v12)] ⟨.d (.bool b13), [], 0, True⟩ := by
  refine spec_b [6, 4] Try.func3 rfl rfl rfl fun J P hJ hP => ?_
  dsimp only [m_law18_TransWrites] at h
  cbv
  obtain ⟨j16, hj17, h⟩ := jn h
  refine JoinP.mk ({x : Unit // j16 () = some b13}) (fun x => ⟨[(2, .d (.int .i64 v12)), (3, .ptr 0 0), (4, .ptr 1 0)], [(0, .box [.d (.int .i64 v1), .d (.int .i64 v2), .d (.lst c4 n5)]), (1, .box [.d (.int .i64 v7), .d (.bool b8), .big 32 d10])], 2, 72⟩) (fun _ => True) [2, 3, 4] ?_ ?_
  · cbv
    obtain ⟨j19, hj20, h⟩ := jn h
    refine JoinP.mk ({x : Bool // j19 (x) = some b13}) (fun x => ⟨[(2, .d (.int .i64 v12)), (3, .ptr 0 0), (4, .ptr 1 0), (19, .d (.bool x.1))], [(0, .box [.d (.int .i64 v1), .d (.int .i64 v2), .d (.lst c4 n5)]), (1, .box [.d (.int .i64 v7), .d (.bool b8), .big 32 d10])], 2, 72⟩) (fun _ => True) [2, 3, 4, 19] ?_ ?_
    · cbv
      obtain ⟨b23, h22, h⟩ := bnd h
      refine call_by hP (s9 h22) hJ rfl rfl ?_
      cbv
      revert h
      refine st_not hJ fun b24 eb24 h => ?_
      cbv
      cases b24 with
      | true =>
        replace h := cnd_t h
        cbv
        exact ⟨⟨(true), h⟩, [(0, 0), (2, 1)], 2, [], rfl, trivial⟩
      | false =>
        replace h := cnd_f h
        cbv
        obtain ⟨b27, h26, h⟩ := bnd h
        refine call_by hP (s10 hl6 h26) hJ rfl rfl ?_
        cbv
        revert h
        refine st_not hJ fun b28 eb28 h => ?_
        cbv
        exact ⟨⟨(b28), h⟩, [(0, 0), (2, 1)], 2, [], rfl, trivial⟩
    · rintro ⟨b21, h⟩ -
      rw [hj20] at h
      try dsimp only at h ⊢
      cbv
      cases b21 with
      | true =>
        replace h := cnd_t h
        cbv
        obtain ⟨b24, h23, h⟩ := bnd h
        refine call_by hP (s9 h23) hJ rfl rfl ?_
        cbv
        cases h
        exact ⟨_, .refl _, [], _, _, [], _, rfl, rfl, rfl, rfl, rfl, rfl⟩
      | false =>
        replace h := cnd_f h
        cbv
        exact ⟨⟨(), h⟩, [(0, 0), (1, 1)], 2, [], rfl, trivial⟩
  · rintro ⟨_, h⟩ -
    rw [hj17] at h
    try dsimp only at h ⊢
    cbv
    obtain ⟨p19, q18, hp20, hf21, hq22⟩ := bnd_loop h
    clear h
    refine LoopB.mk ({x : Nat × Int × Int // loopN p19 x.1 (x.2.1, x.2.2) = some q18}) (fun x => ⟨[(2, .d (.int .i64 v12)), (3, .ptr 0 0), (4, .ptr 1 0), (7, .d (.int .i64 x.1.2.1)), (8, .d (.int .i64 x.1.2.2))], [(0, .box [.d (.int .i64 v1), .d (.int .i64 v2), .d (.lst c4 n5)]), (1, .box [.d (.int .i64 v7), .d (.bool b8), .big 32 d10])], 2, 72⟩) (fun x => x.1.1) [2, 3, 4, 7, 8] 2 ⟨(FUEL, 0, 0), hf21⟩ ⟨[(0, 0), (1, 1)], [], ?_⟩ ?_
    · rfl
    · rintro ⟨⟨N25, v28, v29⟩, hr24⟩
      obtain ⟨M26, o23, eN27, h, hr24⟩ := loopN_step hr24
      subst eN27
      rw [hp20] at h
      try dsimp only at h ⊢
      cbv
      revert h
      refine st_len hJ hl6 fun v30 ev30 h => ?_
      cbv
      revert h
      refine st_cmp hJ fun b31 eb31 h => ?_
      cbv
      cases b31 with
      | true =>
        replace h := cnd_t h
        cbv
        revert h
        refine st_idx_lp hJ hl6 fun y32 k33 hy34 ho35 h => ?_
        obtain ⟨v36, b37, a38⟩ := y32
        obtain ⟨d39, ha40⟩ := nameA .u8 a38
        try dsimp only at h
        cbv
        refine st_ld hJ eWrite_len hl6 hy34 ho35 1 (fun hJ => by subst hJ; rfl) ([.bool b37]) (by simp [encL_len (k := 1) (eI_len _), Ar.h]) (by first | done | rfl | simp [eWrite, encL_len (k := 1) (eI_len _), Ar.h, takeA]) (.bool .nil) rfl ?_
        cbv
        revert h
        refine st_not hJ fun b41 eb41 h => ?_
        cbv
        cases b41 with
        | true =>
          replace h := cnd_t h
          cbv
          revert h
          refine st_bin hJ fun v42 ev42 h => ?_
          cbv
          revert h
          refine st_bin hJ fun v43 ev43 h => ?_
          cbv
          cases h
          exact ⟨⟨(M26, v42, v43), hr24⟩, [(0, 0), (1, 1)], 2, [], rfl, Nat.lt_succ_self _⟩
        | false =>
          replace h := cnd_f h
          cbv
          revert h
          refine st_bin hJ fun v42 ev42 h => ?_
          cbv
          cases h
          exact ⟨⟨(M26, v28, v42), hr24⟩, [(0, 0), (1, 1)], 2, [], rfl, Nat.lt_succ_self _⟩
      | false =>
        replace h := cnd_f h
        cbv
        cases h
        have h := hq22
        obtain rfl := hr24
        try dsimp only at h
        obtain ⟨⟨⟨v34, b35, a36⟩, b39⟩, h33, h⟩ := bnd h
        obtain ⟨d37, ha38⟩ := nameA .u8 a36
        try dsimp only at h
        refine call_by hP (s11 hl6 ha38 h33) hJ rfl rfl ?_
        cbv
        obtain ⟨⟨⟨v42, b43, a44⟩, b47⟩, h41, h⟩ := bnd h
        obtain ⟨d45, ha46⟩ := nameA .u8 a44
        try dsimp only at h
        refine call_by hP (s12 hl6 ha46 h41) hJ rfl rfl ?_
        cbv
        obtain ⟨⟨v50, v51, l52⟩, h49, h⟩ := bnd h
        obtain ⟨c53, n54, hl55⟩ := nameL eWrite l52
        try dsimp only at h
        refine call_by hP (s14 hl6 ha11 hl55 h49) hJ rfl rfl ?_
        cbv
        obtain ⟨⟨v58, v59, l60⟩, h57, h⟩ := bnd h
        obtain ⟨c61, n62, hl63⟩ := nameL eWrite l60
        try dsimp only at h
        refine call_by hP (s15 hl6 ha11 hl63 h57) hJ rfl rfl ?_
        cbv
        obtain ⟨b66, h65, h⟩ := bnd h
        refine snap_by hP (s13 hl55 hl63 h65) hJ (by cbv) rfl ⟨trivial, trivial⟩ ?_
        cbv
        cases b66 with
        | true =>
          replace h := cnd_t h
          cbv
          revert h
          refine st_eqL hJ (neg := false) (e := ((v34 == v42) && ((b35 == b43) && ((a36.l == a44.l) && true)))) (show eqLs [.int .i64, .bool, .big 32 .u8] [.d (.int .i64 v34), .d (.bool b35), .big 32 d37] [.d (.int .i64 v42), .d (.bool b43), .big 32 d45] _ from ⟨rfl, rfl, _, ⟨_, ⟨rfl, rfl, _, _, _, (ha38).trans (encI_map _ _), (ha46).trans (encI_map _ _), Ar.h _, Ar.h _, rfl, rfl⟩, rfl⟩, rfl⟩) rfl fun b67 eb67 h => ?_
          cbv
          cases b67 with
          | true =>
            replace h := cnd_t h
            cbv
            revert h
            refine st_eqb hJ fun b68 eb68 h => ?_
            cbv
            cases b68 with
            | true =>
              replace h := cnd_t h
              cbv
              obtain ⟨v71, h70, h⟩ := bnd h
              refine call_by hP (s16 hl6 h70) hJ rfl rfl ?_
              cbv
              revert h
              refine st_cmp hJ fun b72 eb72 h => ?_
              cbv
              refine ⟨fun _ => by kernel_rfl, ?_⟩
              cbv
              cases h
              exact ⟨_, .refl _, [], _, _, [], _, rfl, rfl, rfl, rfl, rfl, rfl⟩
            | false =>
              replace h := cnd_f h
              cbv
              refine ⟨fun _ => by kernel_rfl, ?_⟩
              cbv
              cases h
              exact ⟨_, .refl _, [], _, _, [], _, rfl, rfl, rfl, rfl, rfl, rfl⟩
          | false =>
            replace h := cnd_f h
            cbv
            refine ⟨fun _ => by kernel_rfl, ?_⟩
            cbv
            cases h
            exact ⟨_, .refl _, [], _, _, [], _, rfl, rfl, rfl, rfl, rfl, rfl⟩
        | false =>
          replace h := cnd_f h
          cbv
          refine ⟨fun _ => by kernel_rfl, ?_⟩
          cbv
          cases h
          exact ⟨_, .refl _, [], _, _, [], _, rfl, rfl, rfl, rfl, rfl, rfl⟩
end Go.AX
