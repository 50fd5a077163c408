/- What functions of the program compute: each is what its Lean function says. -/
import Derived.Test.YtegcfbmleimcfaaTS2
namespace Go.AX
open Go.Proofs
set_option autoImplicit false
set_option linter.unusedVariables false
set_option maxRecDepth 100000
set_option maxHeartbeats 100000000
set_option linter.unusedSimpArgs false

theorem s17 {v1 : Int} {l2 : List TTrans} {c3 : List D} {n4 : Nat} (hl5 : IsL eTrans c3 n4 l2) {b6 : Bool}  (h : m_ref18_RightAll (TLedger.mk v1 l2) = some b6) : Spec Try.prog 17 [.agg [.d (.int .i64 v1), .d (.lst c3 n4)]] ⟨.d (.bool b6), [], 0, True⟩ := by
  refine spec_b [6] Try.func17 rfl rfl rfl fun J P hJ hP => ?_
  dsimp only [m_ref18_RightAll] at h
  cbv
  obtain ⟨j9, hj10, h⟩ := jn h
  refine JoinP.mk ({x : Unit // j9 () = some b6}) (fun x => ⟨[(1, .ptr 0 0)], [(0, .box [.d (.int .i64 v1), .d (.lst c3 n4)])], 1, 72⟩) (fun _ => True) [1] ?_ ?_
  · cbv
    revert h
    refine st_len hJ hl5 fun v11 ev11 h => ?_
    cbv
    revert h
    refine st_cmp hJ fun b12 eb12 h => ?_
    cbv
    cases b12 with
    | true =>
      replace h := cnd_t h
      cbv
      cases h
      exact ⟨_, .refl _, [], _, _, [], _, rfl, rfl, rfl, rfl, rfl, rfl⟩
    | false =>
      replace h := cnd_f h
      cbv
      revert h
      refine st_cmp hJ fun b13 eb13 h => ?_
      cbv
      cases b13 with
      | true =>
        replace h := cnd_t h
        cbv
        cases h
        exact ⟨_, .refl _, [], _, _, [], _, rfl, rfl, rfl, rfl, rfl, rfl⟩
      | false =>
        replace h := cnd_f h
        cbv
        revert h
        refine st_cmp hJ fun b14 eb14 h => ?_
        cbv
        cases b14 with
        | true =>
          replace h := cnd_t h
          cbv
          cases h
          exact ⟨_, .refl _, [], _, _, [], _, rfl, rfl, rfl, rfl, rfl, rfl⟩
        | false =>
          replace h := cnd_f h
          cbv
          exact ⟨⟨(), h⟩, [(0, 0)], 1, [], rfl, trivial⟩
  · rintro ⟨_, h⟩ -
    rw [hj10] at h
    try dsimp only at h ⊢
    cbv
    obtain ⟨p12, q11, hp13, hf14, hq15⟩ := bnd_loop h
    clear h
    refine LoopB.mk ({x : Nat × Int // loopN p12 x.1 (x.2) = some q11}) (fun x => ⟨[(1, .ptr 0 0), (3, .d (.int .i64 x.1.2))], [(0, .box [.d (.int .i64 v1), .d (.lst c3 n4)])], 1, 72⟩) (fun x => x.1.1) [1, 3] 1 ⟨(FUEL, 0), hf14⟩ ⟨[(0, 0)], [], ?_⟩ ?_
    · rfl
    · rintro ⟨⟨N18, v21⟩, hr17⟩
      obtain ⟨M19, o16, eN20, h, hr17⟩ := loopN_step hr17
      subst eN20
      rw [hp13] at h
      try dsimp only at h ⊢
      cbv
      revert h
      refine st_len hJ hl5 fun v22 ev22 h => ?_
      cbv
      revert h
      refine st_cmp hJ fun b23 eb23 h => ?_
      cbv
      cases b23 with
      | true =>
        replace h := cnd_t h
        cbv
        revert h
        refine st_idx_lp hJ hl5 fun y24 k25 hy26 ho27 h => ?_
        obtain ⟨v28, v29, l30⟩ := y24
        obtain ⟨c31, n32, hl33⟩ := nameL eWrite l30
        try dsimp only at h
        cbv
        refine st_ld hJ eTrans_len hl5 hy26 ho27 0 (fun hJ => by subst hJ; rfl) ([.int .i64 v28, .int .i64 v29, .lst c31 n32]) (Nat.le_of_ble_eq_true rfl) (by rw [hl33.cs, hl33.n]; rfl) (.int (.int (.slc .nil))) rfl ?_
        cbv
        obtain ⟨b36, h35, h⟩ := bnd h
        refine call_by hP (s10 hl33 h35) hJ rfl rfl ?_
        cbv
        revert h
        refine st_not hJ fun b37 eb37 h => ?_
        cbv
        cases b37 with
        | true =>
          replace h := cnd_t h
          cbv
          refine ⟨fun _ => by kernel_rfl, ?_⟩
          cbv
          cases h
          have h := hq15
          obtain rfl := hr17
          try dsimp only at h
          cases h
          exact ⟨_, .refl _, [], _, _, [], _, rfl, rfl, rfl, rfl, rfl, rfl⟩
        | false =>
          replace h := cnd_f h
          cbv
          revert h
          refine st_idx_lp hJ hl5 fun y38 k39 hy40 ho41 h => ?_
          obtain ⟨v42, v43, l44⟩ := y38
          obtain ⟨c45, n46, hl47⟩ := nameL eWrite l44
          try dsimp only at h
          cbv
          refine st_ld hJ eTrans_len hl5 hy40 ho41 0 (fun hJ => by subst hJ; rfl) ([.int .i64 v42]) (Nat.le_of_ble_eq_true rfl) rfl (.int .nil) rfl ?_
          cbv
          revert h
          refine st_cmp hJ fun b48 eb48 h => ?_
          cbv
          cases b48 with
          | true =>
            replace h := cnd_t h
            cbv
            refine ⟨fun _ => by kernel_rfl, ?_⟩
            cbv
            cases h
            have h := hq15
            obtain rfl := hr17
            try dsimp only at h
            cases h
            exact ⟨_, .refl _, [], _, _, [], _, rfl, rfl, rfl, rfl, rfl, rfl⟩
          | false =>
            replace h := cnd_f h
            cbv
            revert h
            refine st_idx_lp hJ hl5 fun y49 k50 hy51 ho52 h => ?_
            obtain ⟨v53, v54, l55⟩ := y49
            obtain ⟨c56, n57, hl58⟩ := nameL eWrite l55
            try dsimp only at h
            cbv
            refine st_ld hJ eTrans_len hl5 hy51 ho52 0 (fun hJ => by subst hJ; rfl) ([.int .i64 v53]) (Nat.le_of_ble_eq_true rfl) rfl (.int .nil) rfl ?_
            cbv
            revert h
            refine st_cmp hJ fun b59 eb59 h => ?_
            cbv
            cases b59 with
            | true =>
              replace h := cnd_t h
              cbv
              refine ⟨fun _ => by kernel_rfl, ?_⟩
              cbv
              cases h
              have h := hq15
              obtain rfl := hr17
              try dsimp only at h
              cases h
              exact ⟨_, .refl _, [], _, _, [], _, rfl, rfl, rfl, rfl, rfl, rfl⟩
            | false =>
              replace h := cnd_f h
              cbv
              revert h
              refine st_cmp hJ fun b60 eb60 h => ?_
              cbv
              cases b60 with
              | true =>
                replace h := cnd_t h
                cbv
                revert h
                refine st_bin hJ fun v61 ev61 h => ?_
                cbv
                revert h
                refine st_idx_lp hJ hl5 fun y62 k63 hy64 ho65 h => ?_
                obtain ⟨v66, v67, l68⟩ := y62
                obtain ⟨c69, n70, hl71⟩ := nameL eWrite l68
                try dsimp only at h
                cbv
                refine st_ld hJ eTrans_len hl5 hy64 ho65 0 (fun hJ => by subst hJ; rfl) ([.int .i64 v66]) (Nat.le_of_ble_eq_true rfl) rfl (.int .nil) rfl ?_
                cbv
                revert h
                refine st_idx_lp hJ hl5 fun y72 k73 hy74 ho75 h => ?_
                obtain ⟨v76, v77, l78⟩ := y72
                obtain ⟨c79, n80, hl81⟩ := nameL eWrite l78
                try dsimp only at h
                cbv
                refine st_ld hJ eTrans_len hl5 hy74 ho75 0 (fun hJ => by subst hJ; rfl) ([.int .i64 v76]) (Nat.le_of_ble_eq_true rfl) rfl (.int .nil) rfl ?_
                cbv
                revert h
                refine st_cmp hJ fun b82 eb82 h => ?_
                cbv
                refine ⟨fun _ => by kernel_rfl, ?_⟩
                cbv
                cases b82 with
                | true =>
                  replace h := cnd_t h
                  cbv
                  cases h
                  have h := hq15
                  obtain rfl := hr17
                  try dsimp only at h
                  cases h
                  exact ⟨_, .refl _, [], _, _, [], _, rfl, rfl, rfl, rfl, rfl, rfl⟩
                | false =>
                  replace h := cnd_f h
                  cbv
                  revert h
                  refine st_bin hJ fun v83 ev83 h => ?_
                  cbv
                  cases h
                  exact ⟨⟨(M19, v83), hr17⟩, [(0, 0)], 1, [], rfl, Nat.lt_succ_self _⟩
              | false =>
                replace h := cnd_f h
                cbv
                refine ⟨fun _ => by kernel_rfl, ?_⟩
                cbv
                revert h
                refine st_bin hJ fun v61 ev61 h => ?_
                cbv
                cases h
                exact ⟨⟨(M19, v61), hr17⟩, [(0, 0)], 1, [], rfl, Nat.lt_succ_self _⟩
      | false =>
        replace h := cnd_f h
        cbv
        cases h
        have h := hq15
        obtain rfl := hr17
        try dsimp only at h
        cases h
        exact ⟨_, .refl _, [], _, _, [], _, rfl, rfl, rfl, rfl, rfl, rfl⟩
end Go.AX
