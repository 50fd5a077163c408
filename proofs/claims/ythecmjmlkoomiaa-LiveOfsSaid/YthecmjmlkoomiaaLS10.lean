/- What functions of the program compute: each is what its Lean function says. -/
import Derived.Test.YthecmjmlkoomiaaLS1
import Derived.Test.YthecmjmlkoomiaaLS3
import Derived.Test.YthecmjmlkoomiaaLS4
import Derived.Test.YthecmjmlkoomiaaLS5
import Derived.Test.YthecmjmlkoomiaaLS7
namespace Go.AX
open Go.Proofs
set_option autoImplicit false
set_option linter.unusedVariables false
set_option maxRecDepth 100000
set_option maxHeartbeats 100000000
set_option linter.unusedSimpArgs false

theorem s34 {v1 : Int} {v2 : Int} {v3 : Int} {v4 : Int} {v5 : Int} {l6 : List TRef10_Cell} {c7 : List D} {n8 : Nat} {v10 : Int} {v11 : Int} {v12 : Int} {v13 : Int} {v14 : Int} {m15 : List (TAt × Int)} {c16 : List (List D × List D)} {m18 : List (Int × Int)} {c19 : List (List D × List D)} (hl9 : IsL eRef10_Cell c7 n8 l6) (hm17 : c16 = encM eAt (eI .i64) m15) (hm20 : c19 = encM (eI .i64) (eI .i64) m18) {b21 : Bool}  (h : m_law10_shows (TGeom.mk v1 v2 v3 v4 v5) l6 (TLive_Live.mk (TGeom.mk v10 v11 v12 v13 v14) m15 m18) = some b21) : SpecM Try.prog 34 3 [(0, .box [.d (.int .i64 v10), .d (.int .i64 v11), .d (.int .i64 v12), .d (.int .i64 v13), .d (.int .i64 v14), .map 1, .map 2]), (1, .mp true false c16), (2, .mp false false c19)] [.agg [.d (.int .i64 v1), .d (.int .i64 v2), .d (.int .i64 v3), .d (.int .i64 v4), .d (.int .i64 v5)], .ptr 0 0, .d (.lst c7 n8)] ⟨.d (.bool b21), [(0, .box [.d (.int .i64 v10), .d (.int .i64 v11), .d (.int .i64 v12), .d (.int .i64 v13), .d (.int .i64 v14), .map 1, .map 2]), (1, .mp true false c16), (2, .mp false false c19)], 0, True⟩ := by
  refine specM_b [] 3 3 Try.func34 rfl rfl rfl rfl rfl rfl fun J P hJ hP => ?_
  dsimp only [m_law10_shows] at h
  cbv
  obtain ⟨p24, q23, hp25, hf26, hq27⟩ := bnd_loop h
  clear h
  refine LoopB.mk ({x : Nat × Int // loopN p24 x.1 (x.2) = some q23}) (fun x => ⟨[(1, .ptr 0 0), (2, .d (.lst c7 n8)), (3, .ptr 3 0), (7, .d (.int .i64 x.1.2))], [(0, .box [.d (.int .i64 v10), .d (.int .i64 v11), .d (.int .i64 v12), .d (.int .i64 v13), .d (.int .i64 v14), .map 1, .map 2]), (1, .mp true false c16), (2, .mp false false c19), (3, .box [.d (.int .i64 v1), .d (.int .i64 v2), .d (.int .i64 v3), .d (.int .i64 v4), .d (.int .i64 v5)])], 4, 74⟩) (fun x => x.1.1) [1, 2, 3, 7] 4 ⟨(FUEL, (-1)), hf26⟩ ⟨[(0, 0), (1, 1), (2, 2), (3, 3)], [], ?_⟩ ?_
  · rfl
  · rintro ⟨⟨N30, v33⟩, hr29⟩
    obtain ⟨M31, o28, eN32, h, hr29⟩ := loopN_step hr29
    subst eN32
    rw [hp25] at h
    try dsimp only at h ⊢
    cbv
    revert h
    refine st_bin hJ fun v34 ev34 h => ?_
    cbv
    revert h
    refine st_cmp hJ fun b35 eb35 h => ?_
    cbv
    cases b35 with
    | true =>
      replace h := cnd_t h
      cbv
      obtain ⟨l38, h37, h⟩ := bnd h
      obtain ⟨c39, n40, hl41⟩ := nameL eAt l38
      refine call_by hP (s72 hl9 hl41 h37) hJ rfl rfl ?_
      cbv
      obtain ⟨v44, h43, h⟩ := bnd h
      refine callM_by hP (s35 hm17 hm20 h43) [(0, 0), (1, 1), (2, 2)] false hJ rfl rfl rfl rfl rfl (.inl rfl) ?_
      cbv
      revert h
      refine st_len hJ hl41 fun v45 ev45 h => ?_
      cbv
      revert h
      refine st_cmp hJ fun b46 eb46 h => ?_
      cbv
      cases b46 with
      | true =>
        replace h := cnd_t h
        cbv
        cases h
        have h := hq27
        obtain rfl := hr29
        try dsimp only at h
        cases h
        exact ⟨_, .refl _, [], _, _, [(0, 0), (1, 1), (2, 2)], _, rfl, rfl, rfl, rfl, rfl, rfl⟩
      | false =>
        replace h := cnd_f h
        cbv
        obtain ⟨l49, h48, h⟩ := bnd h
        obtain ⟨c50, n51, hl52⟩ := nameL eAt l49
        refine callM_by hP (s36 hm17 hm20 hl52 h48) [(0, 0), (1, 1), (2, 2)] false hJ rfl rfl rfl rfl rfl (.inl rfl) ?_
        cbv
        obtain ⟨b55, h54, h⟩ := bnd h
        refine snap_by hP (s40 hl52 hl41 h54) hJ (by cbv) rfl ⟨trivial, trivial⟩ ?_
        cbv
        revert h
        refine st_not hJ fun b56 eb56 h => ?_
        cbv
        cases b56 with
        | true =>
          replace h := cnd_t h
          cbv
          cases h
          have h := hq27
          obtain rfl := hr29
          try dsimp only at h
          cases h
          exact ⟨_, .refl _, [], _, _, [(0, 0), (1, 1), (2, 2)], _, rfl, rfl, rfl, rfl, rfl, rfl⟩
        | false =>
          replace h := cnd_f h
          cbv
          revert h
          refine st_bin hJ fun v57 ev57 h => ?_
          cbv
          cases h
          exact ⟨⟨(M31, v57), hr29⟩, [(0, 0), (1, 1), (2, 2), (3, 3)], 4, [], rfl, Nat.lt_succ_self _⟩
    | false =>
      replace h := cnd_f h
      cbv
      cases h
      have h := hq27
      obtain rfl := hr29
      try dsimp only at h
      obtain ⟨p37, q36, hp38, hf39, hq40⟩ := bnd_loop h
      clear h
      refine LoopB.mk ({x : Nat × Int // loopN p37 x.1 (x.2) = some q36}) (fun x => ⟨[(1, .ptr 0 0), (2, .d (.lst c7 n8)), (3, .ptr 3 0), (9, .d (.int .i64 x.1.2))], [(0, .box [.d (.int .i64 v10), .d (.int .i64 v11), .d (.int .i64 v12), .d (.int .i64 v13), .d (.int .i64 v14), .map 1, .map 2]), (1, .mp true false c16), (2, .mp false false c19), (3, .box [.d (.int .i64 v1), .d (.int .i64 v2), .d (.int .i64 v3), .d (.int .i64 v4), .d (.int .i64 v5)])], 4, 74⟩) (fun x => x.1.1) [1, 2, 3, 9] 4 ⟨(FUEL, 0), hf39⟩ ⟨[(0, 0), (1, 1), (2, 2), (3, 3)], [], ?_⟩ ?_
      · rfl
      · rintro ⟨⟨N43, v46⟩, hr42⟩
        obtain ⟨M44, o41, eN45, h, hr42⟩ := loopN_step hr42
        subst eN45
        rw [hp38] at h
        try dsimp only at h ⊢
        cbv
        revert h
        refine st_len hJ hl9 fun v47 ev47 h => ?_
        cbv
        revert h
        refine st_cmp hJ fun b48 eb48 h => ?_
        cbv
        cases b48 with
        | true =>
          replace h := cnd_t h
          cbv
          revert h
          refine st_idx_lp hJ hl9 fun y49 k50 hy51 ho52 h => ?_
          obtain ⟨v53, v54⟩ := y49
          try dsimp only at h
          cbv
          refine st_ld hJ eRef10_Cell_len hl9 hy51 ho52 0 (fun hJ => by subst hJ; rfl) ([.int .i64 v53]) (Nat.le_of_ble_eq_true rfl) rfl (.int .nil) rfl ?_
          cbv
          obtain ⟨⟨⟨v57, v58⟩, b59⟩, h56, h⟩ := bnd h
          try dsimp only at h
          refine call_by hP (s39 h56) hJ rfl rfl ?_
          cbv
          refine ⟨fun _ => by kernel_rfl, ?_⟩
          cbv
          obtain ⟨⟨v62, b63⟩, h61, h⟩ := bnd h
          try dsimp only at h
          refine callM_by hP (s37 hm17 hm20 h61) [(0, 0), (1, 1), (2, 2)] false hJ rfl rfl rfl rfl rfl (.inl rfl) ?_
          cbv
          revert h
          refine st_not hJ fun b64 eb64 h => ?_
          cbv
          cases b64 with
          | true =>
            replace h := cnd_t h
            cbv
            cases h
            have h := hq40
            obtain rfl := hr42
            try dsimp only at h
            cases h
            exact ⟨_, .refl _, [], _, _, [(0, 0), (1, 1), (2, 2)], _, rfl, rfl, rfl, rfl, rfl, rfl⟩
          | false =>
            replace h := cnd_f h
            cbv
            revert h
            refine st_idx_lp hJ hl9 fun y65 k66 hy67 ho68 h => ?_
            obtain ⟨v69, v70⟩ := y65
            try dsimp only at h
            cbv
            refine st_ld hJ eRef10_Cell_len hl9 hy67 ho68 1 (fun hJ => by subst hJ; rfl) ([.int .i64 v70]) (Nat.le_of_ble_eq_true rfl) rfl (.int .nil) rfl ?_
            cbv
            revert h
            refine st_cmp hJ fun b71 eb71 h => ?_
            cbv
            cases b71 with
            | true =>
              replace h := cnd_t h
              cbv
              cases h
              have h := hq40
              obtain rfl := hr42
              try dsimp only at h
              cases h
              exact ⟨_, .refl _, [], _, _, [(0, 0), (1, 1), (2, 2)], _, rfl, rfl, rfl, rfl, rfl, rfl⟩
            | false =>
              replace h := cnd_f h
              cbv
              revert h
              refine st_bin hJ fun v72 ev72 h => ?_
              cbv
              cases h
              exact ⟨⟨(M44, v72), hr42⟩, [(0, 0), (1, 1), (2, 2), (3, 3)], 4, [], rfl, Nat.lt_succ_self _⟩
        | false =>
          replace h := cnd_f h
          cbv
          cases h
          have h := hq40
          obtain rfl := hr42
          try dsimp only at h
          cases h
          exact ⟨_, .refl _, [], _, _, [(0, 0), (1, 1), (2, 2)], _, rfl, rfl, rfl, rfl, rfl, rfl⟩
end Go.AX
