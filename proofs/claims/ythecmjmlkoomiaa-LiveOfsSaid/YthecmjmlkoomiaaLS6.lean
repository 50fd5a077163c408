/- What functions of the program compute: each is what its Lean function says. -/
import Derived.Test.YthecmjmlkoomiaaLS1
import Derived.Test.YthecmjmlkoomiaaLS2
import Derived.Test.YthecmjmlkoomiaaLS3
namespace Go.AX
open Go.Proofs
set_option autoImplicit false
set_option linter.unusedVariables false
set_option maxRecDepth 100000
set_option maxHeartbeats 100000000
set_option linter.unusedSimpArgs false

theorem s32 {v1 : Int} {v2 : Int} {v3 : Int} {v4 : Int} {v5 : Int} {v6 : Int} {m7 : List (TAt × Int)} {c8 : List (List D × List D)} {m10 : List (Int × Int)} {c11 : List (List D × List D)} (hm9 : c8 = encM eAt (eI .i64) m7) (hm12 : c11 = encM (eI .i64) (eI .i64) m10) {b13 : Bool} {v14 : Int} {v15 : Int} {v16 : Int} {v17 : Int} {v18 : Int} {m19 : List (TAt × Int)} {c20 : List (List D × List D)} {m22 : List (Int × Int)} {c23 : List (List D × List D)} (hm21 : c20 = encM eAt (eI .i64) m19) (hm24 : c23 = encM (eI .i64) (eI .i64) m22) (h : m___live_Live__Drop v1 (TLive_Live.mk (TGeom.mk v2 v3 v4 v5 v6) m7 m10) = some (b13, (TLive_Live.mk (TGeom.mk v14 v15 v16 v17 v18) m19 m22))) : SpecM Try.prog 32 3 [(0, .box [.d (.int .i64 v2), .d (.int .i64 v3), .d (.int .i64 v4), .d (.int .i64 v5), .d (.int .i64 v6), .map 1, .map 2]), (1, .mp true false c8), (2, .mp false false c11)] [.ptr 0 0, .d (.int .i64 v1)] ⟨.d (.bool b13), [(0, .box [.d (.int .i64 v14), .d (.int .i64 v15), .d (.int .i64 v16), .d (.int .i64 v17), .d (.int .i64 v18), .map 1, .map 2]), (1, .mp true false c20), (2, .mp false false c23)], 0, True⟩ := by
  refine specM_b [] 3 3 Try.func32 rfl rfl rfl rfl rfl rfl fun J P hJ hP => ?_
  dsimp only [m___live_Live__Drop] at h
  cbv
  obtain ⟨⟨⟨v28, v29⟩, b30⟩, h27, h⟩ := bnd h
  try dsimp only at h
  refine call_by hP (s71 h27) hJ rfl rfl ?_
  cbv
  revert h
  refine st_not hJ fun b31 eb31 h => ?_
  cbv
  cases b31 with
  | true =>
    replace h := cnd_t h
    cbv
    cases h
    obtain rfl := hm21.trans (hm9).symm
    obtain rfl := hm24.trans (hm12).symm
    exact ⟨_, .refl _, [], _, _, [(0, 0), (1, 1), (2, 2)], _, rfl, rfl, rfl, rfl, rfl, rfl⟩
  | false =>
    replace h := cnd_f h
    cbv
    obtain ⟨o32, ho32, h⟩ := letv h
    obtain ⟨y33, hy33, h⟩ := letv h
    obtain ⟨b34, hb34, h⟩ := letv h
    refine st_lk hJ eAt_kinds hm9 (k := (TAt.mk v28 v29)) rfl (z := 0) (by rfl) (eI_len .i64) ho32 hy33 hb34 (ds := [.int .i64 y33]) (by rfl) (.int .nil) rfl ?_
    cbv
    refine ⟨fun _ => by kernel_rfl, ?_⟩
    cbv
    revert h
    refine st_not hJ fun b36 eb36 h => ?_
    cbv
    cases b36 with
    | true =>
      replace h := cnd_t h
      cbv
      cases h
      obtain rfl := hm21.trans (hm9).symm
      obtain rfl := hm24.trans (hm12).symm
      exact ⟨_, .refl _, [], _, _, [(0, 0), (1, 1), (2, 2)], _, rfl, rfl, rfl, rfl, rfl, rfl⟩
    | false =>
      replace h := cnd_f h
      cbv
      revert h
      refine st_del hJ eAt_kinds hm9 (k := (TAt.mk v28 v29)) rfl fun c38 m37 hm39 h => ?_
      cbv
      refine ⟨fun _ => by kernel_rfl, ?_⟩
      cbv
      obtain ⟨o40, ho40, h⟩ := letv h
      obtain ⟨y41, hy41, h⟩ := letv h
      obtain ⟨b42, hb42, h⟩ := letv h
      refine st_lk hJ (eI_kinds .i64) hm12 (k := v28) rfl (z := 0) (by rfl) (eI_len .i64) ho40 hy41 hb42 (ds := [.int .i64 y41]) (by rfl) (.int .nil) rfl ?_
      cbv
      revert h
      refine st_bin hJ fun v44 ev44 h => ?_
      cbv
      revert h
      refine st_up hJ (eI_kinds .i64) hm12 (k := v28) rfl (v := v44) (fun hJ => by rfl) fun c46 m45 hm47 h => ?_
      cbv
      refine ⟨fun _ => by kernel_rfl, ?_⟩
      cbv
      cases h
      obtain rfl := hm21.trans (hm39).symm
      obtain rfl := hm24.trans (hm47).symm
      exact ⟨_, .refl _, [], _, _, [(0, 0), (1, 1), (2, 2)], _, rfl, rfl, rfl, rfl, rfl, rfl⟩
theorem s76 {v1 : Int} {v2 : Int} {v3 : Int} {v4 : Int} {v5 : Int}  {v6 : Int}  (h : m_ref03_Pages (TGeom.mk v1 v2 v3 v4 v5) = some v6) : Spec Try.prog 76 [.agg [.d (.int .i64 v1), .d (.int .i64 v2), .d (.int .i64 v3), .d (.int .i64 v4), .d (.int .i64 v5)]] ⟨.d (.int .i64 v6), [], 0, True⟩ := by
  refine spec_b [] Try.func76 rfl rfl rfl fun J P hJ hP => ?_
  dsimp only [m_ref03_Pages] at h
  cbv
  obtain ⟨p9, q8, hp10, hf11, hq12⟩ := bnd_loop h
  clear h
  refine LoopB.mk ({x : Nat × Int // loopN p9 x.1 (x.2) = some q8}) (fun x => ⟨[(1, .ptr 0 0), (3, .d (.int .i64 x.1.2))], [(0, .box [.d (.int .i64 v1), .d (.int .i64 v2), .d (.int .i64 v3), .d (.int .i64 v4), .d (.int .i64 v5)])], 1, 12⟩) (fun x => x.1.1) [1, 3] 1 ⟨(FUEL, 0), hf11⟩ ⟨[(0, 0)], [], ?_⟩ ?_
  · rfl
  · rintro ⟨⟨N15, v18⟩, hr14⟩
    obtain ⟨M16, o13, eN17, h, hr14⟩ := loopN_step hr14
    subst eN17
    rw [hp10] at h
    try dsimp only at h ⊢
    cbv
    revert h
    refine st_bin hJ fun v19 ev19 h => ?_
    cbv
    obtain ⟨v22, h21, h⟩ := bnd h
    refine call_by hP (s97 h21) hJ rfl rfl ?_
    cbv
    revert h
    refine st_cmp hJ fun b23 eb23 h => ?_
    cbv
    cases b23 with
    | true =>
      replace h := cnd_t h
      cbv
      revert h
      refine st_bin hJ fun v24 ev24 h => ?_
      cbv
      cases h
      exact ⟨⟨(M16, v24), hr14⟩, [(0, 0)], 1, [], rfl, Nat.lt_succ_self _⟩
    | false =>
      replace h := cnd_f h
      cbv
      cases h
      have h := hq12
      obtain rfl := hr14
      try dsimp only at h
      cases h
      exact ⟨_, .refl _, [], _, _, [], _, rfl, rfl, rfl, rfl, rfl, rfl⟩
theorem s31 {v1 : Int} {v2 : Int} {v3 : Int} {v4 : Int} {v5 : Int} {l6 : List TRef10_Cell} {c7 : List D} {n8 : Nat} {v10 : Int} {v11 : Int} {b12 : Bool} (hl9 : IsL eRef10_Cell c7 n8 l6) {l13 : List TRef10_Cell} {c14 : List D} {n15 : Nat} {b17 : Bool} (hl16 : IsL eRef10_Cell c14 n15 l13) (h : m_ref10_Do (TGeom.mk v1 v2 v3 v4 v5) l6 (TRef10_Cell.mk v10 v11) b12 = some (l13, b17)) : Spec Try.prog 31 [.agg [.d (.int .i64 v1), .d (.int .i64 v2), .d (.int .i64 v3), .d (.int .i64 v4), .d (.int .i64 v5)], .d (.lst c7 n8), .agg [.d (.int .i64 v10), .d (.int .i64 v11)], .d (.bool b12)] ⟨.tup [.d (.lst c14 n15), .d (.bool b17)], [], 0, True⟩ := by
  refine spec_b [10] Try.func31 rfl rfl rfl fun J P hJ hP => ?_
  dsimp only [m_ref10_Do] at h
  cbv
  obtain ⟨⟨⟨v21, v22⟩, b23⟩, h20, h⟩ := bnd h
  try dsimp only at h
  refine call_by hP (s39 h20) hJ rfl rfl ?_
  cbv
  obtain ⟨v26, h25, h⟩ := bnd h
  refine call_by hP (s70 hl9 h25) hJ rfl rfl ?_
  cbv
  obtain ⟨j28, hj29, h⟩ := jn h
  refine JoinP.mk ({x : Unit // j28 () = some (l13, b17)}) (fun x => ⟨[(1, .d (.lst c7 n8)), (3, .d (.bool b12)), (6, .ptr 0 0), (12, .d (.int .i64 v26))], [(0, .box [.d (.int .i64 v10), .d (.int .i64 v11)])], 1, 51⟩) (fun _ => True) [1, 3, 6, 12] ?_ ?_
  · cbv
    revert h
    refine st_not hJ fun b30 eb30 h => ?_
    cbv
    cases b30 with
    | true =>
      replace h := cnd_t h
      cbv
      cases h
      obtain ⟨rfl, rfl⟩ := IsL.uniq hl16 hl9
      exact ⟨_, .refl _, [], _, _, [], _, rfl, rfl, rfl, rfl, rfl, rfl⟩
    | false =>
      replace h := cnd_f h
      cbv
      revert h
      refine st_cmp hJ fun b31 eb31 h => ?_
      cbv
      revert h
      refine st_neb hJ fun b32 eb32 h => ?_
      cbv
      cases b32 with
      | true =>
        replace h := cnd_t h
        cbv
        cases h
        obtain ⟨rfl, rfl⟩ := IsL.uniq hl16 hl9
        exact ⟨_, .refl _, [], _, _, [], _, rfl, rfl, rfl, rfl, rfl, rfl⟩
      | false =>
        replace h := cnd_f h
        cbv
        exact ⟨⟨(), h⟩, [(2, 0)], 1, [], rfl, trivial⟩
  · rintro ⟨_, h⟩ -
    rw [hj29] at h
    try dsimp only at h ⊢
    cbv
    revert h
    refine st_not hJ fun b30 eb30 h => ?_
    cbv
    cases b30 with
    | true =>
      replace h := cnd_t h
      cbv
      have hl31 : IsL eRef10_Cell [] 0 [] := ⟨rfl, rfl⟩
      refine st_any hJ rfl rfl (by subst hJ; exact (by decide : 0 ≤ 16777216)) ?_
      cbv
      revert h
      refine st_app hJ eRef10_Cell_len hl31 hl9 fun c33 n34 l32 hl35 h => ?_
      cbv
      have hl36 : IsL eRef10_Cell [.int .i64 v10, .int .i64 v11] 1 [(TRef10_Cell.mk v10 v11)] := ⟨rfl, rfl⟩
      refine st_any hJ rfl rfl (by subst hJ; exact (by decide : 2 ≤ 16777216)) ?_
      cbv
      revert h
      refine st_app hJ eRef10_Cell_len hl35 hl36 fun c38 n39 l37 hl40 h => ?_
      cbv
      refine ⟨fun _ => by kernel_rfl, ?_⟩
      cbv
      cases h
      obtain ⟨rfl, rfl⟩ := IsL.uniq hl16 hl40
      exact ⟨_, .refl _, [], _, _, [], _, rfl, rfl, rfl, rfl, rfl, rfl⟩
    | false =>
      replace h := cnd_f h
      cbv
      have hl31 : IsL eRef10_Cell [] 0 [] := ⟨rfl, rfl⟩
      refine st_any hJ rfl rfl (by subst hJ; exact (by decide : 0 ≤ 16777216)) ?_
      cbv
      revert h
      refine st_upto hJ eRef10_Cell_len hl9 fun c33 n34 l32 hl35 h => ?_
      cbv
      revert h
      refine st_app hJ eRef10_Cell_len hl31 hl35 fun c37 n38 l36 hl39 h => ?_
      cbv
      revert h
      refine st_bin hJ fun v40 ev40 h => ?_
      cbv
      revert h
      refine st_from hJ eRef10_Cell_len hl9 fun c42 n43 l41 hl44 h => ?_
      cbv
      revert h
      refine st_app hJ eRef10_Cell_len hl39 hl44 fun c46 n47 l45 hl48 h => ?_
      cbv
      refine ⟨fun _ => by kernel_rfl, ?_⟩
      cbv
      cases h
      obtain ⟨rfl, rfl⟩ := IsL.uniq hl16 hl48
      exact ⟨_, .refl _, [], _, _, [], _, rfl, rfl, rfl, rfl, rfl, rfl⟩
end Go.AX
