/- What functions of the program compute: each is what its Lean function says. -/
import Derived.Test.YtegcfbmleimcfaaTS10
import Derived.Test.YtegcfbmleimcfaaTS14
import Derived.Test.YtegcfbmleimcfaaTS15
import Derived.Test.YtegcfbmleimcfaaTS7
namespace Go.AX
open Go.Proofs
set_option autoImplicit false
set_option linter.unusedVariables false
set_option maxRecDepth 100000
set_option maxHeartbeats 100000000
set_option linter.unusedSimpArgs false

theorem s6 {l1 : List Int} {c2 : List D} {n3 : Nat} (hl4 : IsL (eI .u8) c2 n3 l1) {b5 : Bool}  (h : m_law18_TransHandles l1 = some b5) : Spec Try.prog 6 [.d (.lst c2 n3)] ⟨.d (.bool b5), [], 0, True⟩ := by
  refine spec_b [6, 4, 22, 32, 23, 19] Try.func6 rfl rfl rfl fun J P hJ hP => ?_
  dsimp only [m_law18_TransHandles] at h
  cbv
  obtain ⟨j8, hj9, h⟩ := jn h
  refine JoinP.mk ({x : Unit // j8 () = some b5}) (fun x => ⟨[(0, .d (.lst c2 n3))], [], 0, 67⟩) (fun _ => True) [0] ?_ ?_
  · cbv
    obtain ⟨j11, hj12, h⟩ := jn h
    refine JoinP.mk ({x : Bool // j11 (x) = some b5}) (fun x => ⟨[(0, .d (.lst c2 n3)), (17, .d (.bool x.1))], [], 0, 67⟩) (fun _ => True) [0, 17] ?_ ?_
    · cbv
      obtain ⟨b15, h14, h⟩ := bnd h
      refine call_by hP (s9 h14) hJ rfl rfl ?_
      cbv
      revert h
      refine st_not hJ fun b16 eb16 h => ?_
      cbv
      cases b16 with
      | true =>
        replace h := cnd_t h
        cbv
        exact ⟨⟨(true), h⟩, [], 0, [], rfl, trivial⟩
      | false =>
        replace h := cnd_f h
        cbv
        revert h
        refine st_len hJ hl4 fun v17 ev17 h => ?_
        cbv
        revert h
        refine st_cmp hJ fun b18 eb18 h => ?_
        cbv
        exact ⟨⟨(b18), h⟩, [], 0, [], rfl, trivial⟩
    · rintro ⟨b13, h⟩ -
      rw [hj12] at h
      try dsimp only at h ⊢
      cbv
      cases b13 with
      | true =>
        replace h := cnd_t h
        cbv
        obtain ⟨b16, h15, h⟩ := bnd h
        refine call_by hP (s9 h15) hJ rfl rfl ?_
        cbv
        cases h
        exact ⟨_, .refl _, [], _, _, [], _, rfl, rfl, rfl, rfl, rfl, rfl⟩
      | false =>
        replace h := cnd_f h
        cbv
        exact ⟨⟨(), h⟩, [], 0, [], rfl, trivial⟩
  · rintro ⟨_, h⟩ -
    rw [hj9] at h
    try dsimp only at h ⊢
    cbv
    obtain ⟨p11, q10, hp12, hf13, hq14⟩ := bnd_loop h
    clear h
    refine LoopB.mk ({x : Nat × Int × Int × Int × (List TTrans) × (List D) × Nat // IsL eTrans x.2.2.2.2.2.1 x.2.2.2.2.2.2 x.2.2.2.2.1 ∧ loopN p11 x.1 (x.2.1, x.2.2.1, x.2.2.2.1, x.2.2.2.2.1) = some q10}) (fun x => ⟨[(0, .d (.lst c2 n3)), (3, .ptr 0 0), (4, .d (.int .i64 x.1.2.1)), (5, .d (.int .i64 x.1.2.2.1))], [(0, .box [.d (.int .i64 x.1.2.2.2.1), .own 1 x.1.2.2.2.2.2.2 3]), (1, .row x.1.2.2.2.2.2.1 3 24)], 2, 67⟩) (fun x => x.1.1) [0, 3, 4, 5] 1 ⟨(FUEL, (-1), 0, 0, ([] : List TTrans), [], 0), (IsL.nil' (g := eTrans)), hf13⟩ ⟨[(1, 0)], [.cell 0 1 1 3 24], ?_⟩ ?_
    · rfl
    · rintro ⟨⟨N17, v20, v21, v22, l23, c24, n25⟩, hl26, hr16⟩
      obtain ⟨M18, o15, eN19, h, hr16⟩ := loopN_step hr16
      subst eN19
      rw [hp12] at h
      try dsimp only at h ⊢
      cbv
      revert h
      refine st_len hJ hl4 fun v27 ev27 h => ?_
      cbv
      revert h
      refine st_cmp hJ fun b28 eb28 h => ?_
      cbv
      cases b28 with
      | true =>
        replace h := cnd_t h
        cbv
        obtain ⟨j30, hj31, h⟩ := jn h
        refine JoinP.mk ({x : Int × (List TTrans) × (List D) × Nat // IsL eTrans x.2.2.1 x.2.2.2 x.2.1 ∧ j30 (x.1, x.2.1) = some o15}) (fun x => ⟨[(0, .d (.lst c2 n3)), (3, .ptr 0 0), (4, .d (.int .i64 v20)), (5, .d (.int .i64 v21))], [(0, .box [.d (.int .i64 x.1.1), .own 1 x.1.2.2.2 3]), (1, .row x.1.2.2.1 3 24)], 2, 67⟩) (fun _ => True) [0, 3, 4, 5] ?_ ?_
        · cbv
          revert h
          refine st_idx_lp hJ hl4 fun y32 k33 hy34 ho35 h => ?_
          cbv
          refine st_ld hJ (eI_len .u8) hl4 hy34 ho35 0 (fun hJ => by subst hJ; rfl) ([.int .u8 y32]) (Nat.le_of_ble_eq_true rfl) rfl (.int .nil) rfl ?_
          cbv
          revert h
          refine st_div hJ fun v37 zv37 ev37 h => ?_
          cbv
          revert h
          refine st_cmp hJ fun b38 eb38 h => ?_
          cbv
          cases b38 with
          | true =>
            replace h := cnd_t h
            cbv
            refine JoinP.mk Unit (fun _ => ⟨[(0, .d (.lst c2 n3)), (3, .ptr 0 0), (4, .d (.int .i64 v20)), (5, .d (.int .i64 v21))], [(0, .box [.d (.int .i64 v22), .d (.lst c24 n25)])], 1, 67⟩) (fun _ => True) [0, 3, 4, 5] ⟨(), [(0, 0)], 1, [], rfl, trivial⟩ ?_
            intro _ _
            cbv
            revert h
            refine st_idx_lp hJ hl4 fun y39 k40 hy41 ho42 h => ?_
            cbv
            refine st_ld hJ (eI_len .u8) hl4 hy41 ho42 0 (fun hJ => by subst hJ; rfl) ([.int .u8 y39]) (Nat.le_of_ble_eq_true rfl) rfl (.int .nil) rfl ?_
            cbv
            revert h
            refine st_div hJ fun v44 zv44 ev44 h => ?_
            cbv
            revert h
            refine st_conv hJ fun v45 ev45 h => ?_
            cbv
            obtain ⟨⟨⟨v48, l49⟩, v53⟩, h47, h⟩ := bnd h
            obtain ⟨c50, n51, hl52⟩ := nameL eTrans l49
            try dsimp only at h
            refine call_by hP (s22 hl26 hl52 h47) hJ rfl rfl ?_
            cbv
            refine ⟨fun _ => by kernel_rfl, ?_⟩
            cbv
            exact ⟨⟨(v48, l49, c50, n51), hl52, h⟩, [(0, 0), (8, 1)], 2, [], rfl, trivial⟩
          | false =>
            replace h := cnd_f h
            cbv
            exact ⟨⟨(v22, l23, c24, n25), hl26, h⟩, [(0, 0), (1, 1)], 2, [], rfl, trivial⟩
        · rintro ⟨⟨v32, l33, c34, n35⟩, hl36, h⟩ -
          rw [hj31] at h
          try dsimp only at h ⊢
          cbv
          refine JoinP.mk Unit (fun _ => ⟨[(0, .d (.lst c2 n3)), (3, .ptr 0 0), (4, .d (.int .i64 v20)), (5, .d (.int .i64 v21))], [(0, .box [.d (.int .i64 v32), .d (.lst c34 n35)])], 1, 67⟩) (fun _ => True) [0, 3, 4, 5] ⟨(), [(0, 0)], 1, [], rfl, trivial⟩ ?_
          intro _ _
          cbv
          obtain ⟨⟨⟨v39, l40⟩, v44, v45⟩, h38, h⟩ := bnd h
          obtain ⟨c41, n42, hl43⟩ := nameL eTrans l40
          try dsimp only at h
          refine call_by hP (s18 hl36 hl43 h38) hJ rfl rfl ?_
          cbv
          obtain ⟨j47, hj48, h⟩ := jn h
          refine JoinP.mk ({x : Int // j47 (x) = some o15}) (fun x => ⟨[(0, .d (.lst c2 n3)), (3, .ptr 0 0), (4, .d (.int .i64 x.1)), (5, .d (.int .i64 v21)), (8, .ptr 1 0)], [(0, .box [.d (.int .i64 v32), .d (.lst c34 n35)]), (1, .box [.d (.int .i64 v39), .own 2 n42 3]), (2, .row c41 3 24)], 3, 67⟩) (fun _ => True) [0, 3, 4, 5, 8] ?_ ?_
          · cbv
            revert h
            refine st_cmp hJ fun b49 eb49 h => ?_
            cbv
            cases b49 with
            | true =>
              replace h := cnd_t h
              cbv
              revert h
              refine st_cmp hJ fun b50 eb50 h => ?_
              cbv
              cases b50 with
              | true =>
                replace h := cnd_t h
                cbv
                cases h
                have h := hq14
                obtain rfl := hr16
                try dsimp only at h
                cases h
                exact ⟨_, .refl _, [], _, _, [], _, rfl, rfl, rfl, rfl, rfl, rfl⟩
              | false =>
                replace h := cnd_f h
                cbv
                exact ⟨⟨(v44), h⟩, [(0, 0), (9, 1), (3, 2)], 3, [], rfl, trivial⟩
            | false =>
              replace h := cnd_f h
              cbv
              exact ⟨⟨(v20), h⟩, [(0, 0), (9, 1), (3, 2)], 3, [], rfl, trivial⟩
          · rintro ⟨v49, h⟩ -
            rw [hj48] at h
            try dsimp only at h ⊢
            cbv
            revert h
            refine st_len hJ hl43 fun v50 ev50 h => ?_
            cbv
            revert h
            refine st_cmp hJ fun b51 eb51 h => ?_
            cbv
            cases b51 with
            | true =>
              replace h := cnd_t h
              cbv
              cases h
              have h := hq14
              obtain rfl := hr16
              try dsimp only at h
              cases h
              exact ⟨_, .refl _, [], _, _, [], _, rfl, rfl, rfl, rfl, rfl, rfl⟩
            | false =>
              replace h := cnd_f h
              cbv
              obtain ⟨b54, h53, h⟩ := bnd h
              refine snap_by hP (s17 hl43 h53) hJ (by cbv) rfl ⟨trivial, trivial⟩ ?_
              cbv
              revert h
              refine st_not hJ fun b55 eb55 h => ?_
              cbv
              cases b55 with
              | true =>
                replace h := cnd_t h
                cbv
                cases h
                have h := hq14
                obtain rfl := hr16
                try dsimp only at h
                cases h
                exact ⟨_, .refl _, [], _, _, [], _, rfl, rfl, rfl, rfl, rfl, rfl⟩
              | false =>
                replace h := cnd_f h
                cbv
                revert h
                refine st_bin hJ fun v56 ev56 h => ?_
                cbv
                cases h
                exact ⟨⟨(M18, v49, v56, v39, l40, c41, n42), hl43, hr16⟩, [(0, 0), (2, 1)], 2, [], rfl, Nat.lt_succ_self _⟩
      | false =>
        replace h := cnd_f h
        cbv
        cases h
        have h := hq14
        obtain rfl := hr16
        try dsimp only at h
        cases h
        exact ⟨_, .refl _, [], _, _, [], _, rfl, rfl, rfl, rfl, rfl, rfl⟩
end Go.AX
