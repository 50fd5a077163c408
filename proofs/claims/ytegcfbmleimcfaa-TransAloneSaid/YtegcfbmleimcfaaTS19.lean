/- What functions of the program compute: each is what its Lean function says. -/
import Derived.Test.YtegcfbmleimcfaaTS13
import Derived.Test.YtegcfbmleimcfaaTS14
import Derived.Test.YtegcfbmleimcfaaTS15
import Derived.Test.YtegcfbmleimcfaaTS4
import Derived.Test.YtegcfbmleimcfaaTS7
namespace Go.AX
open Go.Proofs
set_option autoImplicit false
set_option linter.unusedVariables false
set_option maxRecDepth 100000
set_option maxHeartbeats 100000000
set_option linter.unusedSimpArgs false

theorem s8 {v1 : Int} {l2 : List TTrans} {c3 : List D} {n4 : Nat} {v6 : Int} {v7 : Int} {b8 : Bool} {a9 : Ar 32} {d10 : List D} (hl5 : IsL eTrans c3 n4 l2) (ha11 : d10 = encL (eI .u8) a9.l) {b12 : Bool}  (h : m_law18_TransAlone (TLedger.mk v1 l2) v6 (TWrite.mk v7 b8 a9) = some b12) : Spec Try.prog 8 [.agg [.d (.int .i64 v1), .d (.lst c3 n4)], .d (.int .i64 v6), .agg [.d (.int .i64 v7), .d (.bool b8), .big 32 d10]] ⟨.d (.bool b12), [], 0, True⟩ := by
  refine spec_b [6, 4, 14] Try.func8 rfl rfl rfl fun J P hJ hP => ?_
  dsimp only [m_law18_TransAlone] at h
  cbv
  obtain ⟨j15, hj16, h⟩ := jn h
  refine JoinP.mk ({x : Unit // j15 () = some b12}) (fun x => ⟨[(1, .d (.int .i64 v6)), (3, .ptr 0 0), (5, .ptr 1 0)], [(0, .box [.d (.int .i64 v1), .d (.lst c3 n4)]), (1, .box [.d (.int .i64 v7), .d (.bool b8), .big 32 d10])], 2, 118⟩) (fun _ => True) [1, 3, 5] ?_ ?_
  · cbv
    obtain ⟨j18, hj19, h⟩ := jn h
    refine JoinP.mk ({x : Bool // j18 (x) = some b12}) (fun x => ⟨[(1, .d (.int .i64 v6)), (3, .ptr 0 0), (5, .ptr 1 0), (26, .d (.bool x.1))], [(0, .box [.d (.int .i64 v1), .d (.lst c3 n4)]), (1, .box [.d (.int .i64 v7), .d (.bool b8), .big 32 d10])], 2, 118⟩) (fun _ => True) [1, 3, 5, 26] ?_ ?_
    · cbv
      obtain ⟨b22, h21, h⟩ := bnd h
      refine call_by hP (s9 h21) hJ rfl rfl ?_
      cbv
      revert h
      refine st_not hJ fun b23 eb23 h => ?_
      cbv
      cases b23 with
      | true =>
        replace h := cnd_t h
        cbv
        exact ⟨⟨(true), h⟩, [(0, 0), (2, 1)], 2, [], rfl, trivial⟩
      | false =>
        replace h := cnd_f h
        cbv
        obtain ⟨b26, h25, h⟩ := bnd h
        refine call_by hP (s17 hl5 h25) hJ rfl rfl ?_
        cbv
        revert h
        refine st_not hJ fun b27 eb27 h => ?_
        cbv
        exact ⟨⟨(b27), h⟩, [(0, 0), (2, 1)], 2, [], rfl, trivial⟩
    · rintro ⟨b20, h⟩ -
      rw [hj19] at h
      try dsimp only at h ⊢
      cbv
      cases b20 with
      | true =>
        replace h := cnd_t h
        cbv
        obtain ⟨b23, h22, h⟩ := bnd h
        refine call_by hP (s9 h22) hJ rfl rfl ?_
        cbv
        cases h
        exact ⟨_, .refl _, [], _, _, [], _, rfl, rfl, rfl, rfl, rfl, rfl⟩
      | false =>
        replace h := cnd_f h
        cbv
        exact ⟨⟨(), h⟩, [(0, 0), (1, 1)], 2, [], rfl, trivial⟩
  · rintro ⟨_, h⟩ -
    rw [hj16] at h
    try dsimp only at h ⊢
    cbv
    obtain ⟨⟨⟨v19, v20, l21⟩, v25⟩, h18, h⟩ := bnd h
    obtain ⟨c22, n23, hl24⟩ := nameL eWrite l21
    try dsimp only at h
    refine call_by hP (Spec.frozen (s20 hl5 hl24 h18) rfl) hJ rfl rfl ?_
    cbv
    obtain ⟨j27, hj28, h⟩ := jn h
    refine JoinP.mk ({x : Int × (List TTrans) × (List D) × Nat // IsL eTrans x.2.2.1 x.2.2.2 x.2.1 ∧ j27 (x.1, x.2.1) = some b12}) (fun x => ⟨[(1, .d (.int .i64 v6)), (3, .ptr 0 0), (9, .ptr 1 0)], [(0, .box [.d (.int .i64 v1), .d (.lst c3 n4)]), (1, .box [.d (.int .i64 x.1.1), .d (.lst x.1.2.2.1 x.1.2.2.2)])], 2, 118⟩) (fun _ => True) [1, 3, 9] ?_ ?_
    · cbv
      revert h
      refine st_cmp hJ fun b29 eb29 h => ?_
      cbv
      cases b29 with
      | true =>
        replace h := cnd_t h
        cbv
        obtain ⟨⟨v32, v33, l34⟩, h31, h⟩ := bnd h
        obtain ⟨c35, n36, hl37⟩ := nameL eWrite l34
        try dsimp only at h
        refine call_by hP (Spec.frozen (s14 hl24 ha11 hl37 h31) rfl) hJ rfl rfl ?_
        cbv
        obtain ⟨⟨v40, l41⟩, h39, h⟩ := bnd h
        obtain ⟨c42, n43, hl44⟩ := nameL eTrans l41
        try dsimp only at h
        refine call_by hP (s24 hl5 hl37 hl44 h39) hJ rfl rfl ?_
        cbv
        refine ⟨fun _ => by kernel_rfl, ?_⟩
        cbv
        exact ⟨⟨(v40, l41, c42, n43), hl44, h⟩, [(0, 0), (13, 1)], 2, [], rfl, trivial⟩
      | false =>
        replace h := cnd_f h
        cbv
        exact ⟨⟨(v1, l2, c3, n4), hl5, h⟩, [(0, 0), (13, 1)], 2, [], rfl, trivial⟩
    · rintro ⟨⟨v29, l30, c31, n32⟩, hl33, h⟩ -
      rw [hj28] at h
      try dsimp only at h ⊢
      cbv
      obtain ⟨⟨⟨v36, l37⟩, v41⟩, h35, h⟩ := bnd h
      obtain ⟨c38, n39, hl40⟩ := nameL eTrans l37
      try dsimp only at h
      refine call_by hP (s22 hl5 hl40 h35) hJ rfl rfl ?_
      cbv
      obtain ⟨p43, q42, hp44, hf45, hq46⟩ := bnd_loop h
      clear h
      refine LoopB.mk ({x : Nat × Int // loopN p43 x.1 (x.2) = some q42}) (fun x => ⟨[(1, .d (.int .i64 v6)), (3, .ptr 0 0), (9, .ptr 1 0), (10, .ptr 2 0), (12, .d (.int .i64 x.1.2))], [(0, .box [.d (.int .i64 v1), .d (.lst c3 n4)]), (1, .box [.d (.int .i64 v29), .d (.lst c31 n32)]), (2, .box [.d (.int .i64 v36), .own 3 n39 3]), (3, .row c38 3 24)], 4, 118⟩) (fun x => x.1.1) [1, 3, 9, 10, 12] 4 ⟨(FUEL, 0), hf45⟩ ⟨[(0, 0), (1, 1), (9, 2), (4, 3)], [], ?_⟩ ?_
      · rfl
      · rintro ⟨⟨N49, v52⟩, hr48⟩
        obtain ⟨M50, o47, eN51, h, hr48⟩ := loopN_step hr48
        subst eN51
        rw [hp44] at h
        try dsimp only at h ⊢
        cbv
        revert h
        refine st_len hJ hl5 fun v53 ev53 h => ?_
        cbv
        revert h
        refine st_cmp hJ fun b54 eb54 h => ?_
        cbv
        cases b54 with
        | true =>
          replace h := cnd_t h
          cbv
          revert h
          refine st_idx_lp hJ hl5 fun y55 k56 hy57 ho58 h => ?_
          obtain ⟨v59, v60, l61⟩ := y55
          obtain ⟨c62, n63, hl64⟩ := nameL eWrite l61
          try dsimp only at h
          cbv
          refine st_ld hJ eTrans_len hl5 hy57 ho58 0 (fun hJ => by subst hJ; rfl) ([.int .i64 v59, .int .i64 v60, .lst c62 n63]) (Nat.le_of_ble_eq_true rfl) (by rw [hl64.cs, hl64.n]; rfl) (.int (.int (.slc .nil))) rfl ?_
          cbv
          revert h
          refine st_cmp hJ fun b65 eb65 h => ?_
          cbv
          cases b65 with
          | true =>
            replace h := cnd_t h
            cbv
            revert h
            refine st_bin hJ fun v66 ev66 h => ?_
            cbv
            cases h
            exact ⟨⟨(M50, v66), hr48⟩, [(0, 0), (1, 1), (2, 2), (3, 3)], 4, [], rfl, Nat.lt_succ_self _⟩
          | false =>
            replace h := cnd_f h
            cbv
            obtain ⟨⟨⟨v68, v69, l70⟩, v74⟩, h67, h⟩ := bnd h
            obtain ⟨c71, n72, hl73⟩ := nameL eWrite l70
            try dsimp only at h
            refine call_by hP (s20 hl33 hl73 h67) hJ rfl rfl ?_
            cbv
            obtain ⟨⟨⟨v77, v78, l79⟩, v83⟩, h76, h⟩ := bnd h
            obtain ⟨c80, n81, hl82⟩ := nameL eWrite l79
            try dsimp only at h
            refine snap_by hP (s20 hl40 hl82 h76) hJ (by cbv) rfl ⟨⟨⟨trivial, ⟨trivial, ⟨trivial, trivial⟩⟩⟩, ⟨trivial, trivial⟩⟩, ⟨noL_enc hl82 eWrite_noL, trivial⟩⟩ ?_
            cbv
            revert h
            refine st_cmp hJ fun b84 eb84 h => ?_
            cbv
            cases b84 with
            | true =>
              replace h := cnd_t h
              cbv
              cases h
              have h := hq46
              obtain rfl := hr48
              try dsimp only at h
              cases h
              exact ⟨_, .refl _, [], _, _, [], _, rfl, rfl, rfl, rfl, rfl, rfl⟩
            | false =>
              replace h := cnd_f h
              cbv
              revert h
              refine st_cmp hJ fun b85 eb85 h => ?_
              cbv
              cases b85 with
              | true =>
                replace h := cnd_t h
                cbv
                cases h
                have h := hq46
                obtain rfl := hr48
                try dsimp only at h
                cases h
                exact ⟨_, .refl _, [], _, _, [], _, rfl, rfl, rfl, rfl, rfl, rfl⟩
              | false =>
                replace h := cnd_f h
                cbv
                obtain ⟨b88, h87, h⟩ := bnd h
                refine snap_by hP (s13 hl73 hl64 h87) hJ (by cbv) rfl ⟨trivial, trivial⟩ ?_
                cbv
                revert h
                refine st_not hJ fun b89 eb89 h => ?_
                cbv
                cases b89 with
                | true =>
                  replace h := cnd_t h
                  cbv
                  cases h
                  have h := hq46
                  obtain rfl := hr48
                  try dsimp only at h
                  cases h
                  exact ⟨_, .refl _, [], _, _, [], _, rfl, rfl, rfl, rfl, rfl, rfl⟩
                | false =>
                  replace h := cnd_f h
                  cbv
                  obtain ⟨b92, h91, h⟩ := bnd h
                  refine snap_by hP (s13 hl82 hl64 h91) hJ (by cbv) rfl ⟨trivial, trivial⟩ ?_
                  cbv
                  revert h
                  refine st_not hJ fun b93 eb93 h => ?_
                  cbv
                  cases b93 with
                  | true =>
                    replace h := cnd_t h
                    cbv
                    cases h
                    have h := hq46
                    obtain rfl := hr48
                    try dsimp only at h
                    cases h
                    exact ⟨_, .refl _, [], _, _, [], _, rfl, rfl, rfl, rfl, rfl, rfl⟩
                  | false =>
                    replace h := cnd_f h
                    cbv
                    revert h
                    refine st_bin hJ fun v94 ev94 h => ?_
                    cbv
                    cases h
                    exact ⟨⟨(M50, v94), hr48⟩, [(0, 0), (1, 1), (2, 2), (3, 3)], 4, [], rfl, Nat.lt_succ_self _⟩
        | false =>
          replace h := cnd_f h
          cbv
          cases h
          have h := hq46
          obtain rfl := hr48
          try dsimp only at h
          obtain ⟨⟨⟨v57, v58, l59⟩, v63⟩, h56, h⟩ := bnd h
          obtain ⟨c60, n61, hl62⟩ := nameL eWrite l59
          try dsimp only at h
          refine snap_by hP (s20 hl40 hl62 h56) hJ (by cbv) rfl ⟨⟨⟨trivial, ⟨trivial, ⟨trivial, trivial⟩⟩⟩, ⟨trivial, trivial⟩⟩, ⟨noL_enc hl62 eWrite_noL, trivial⟩⟩ ?_
          cbv
          revert h
          refine st_cmp hJ fun b64 eb64 h => ?_
          cbv
          cases b64 with
          | true =>
            replace h := cnd_t h
            cbv
            revert h
            refine st_cmp hJ fun b65 eb65 h => ?_
            cbv
            cases b65 with
            | true =>
              replace h := cnd_t h
              cbv
              revert h
              refine st_cmp hJ fun b66 eb66 h => ?_
              cbv
              cases h
              exact ⟨_, .refl _, [], _, _, [], _, rfl, rfl, rfl, rfl, rfl, rfl⟩
            | false =>
              replace h := cnd_f h
              cbv
              cases h
              exact ⟨_, .refl _, [], _, _, [], _, rfl, rfl, rfl, rfl, rfl, rfl⟩
          | false =>
            replace h := cnd_f h
            cbv
            cases h
            exact ⟨_, .refl _, [], _, _, [], _, rfl, rfl, rfl, rfl, rfl, rfl⟩
end Go.AX
