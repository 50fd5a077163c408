/- What functions of the program compute: each is what its Lean function says. -/
import Derived.Test.YthecmjmlkoomiaaLM
namespace Go.AX
open Go.Proofs
set_option autoImplicit false
set_option linter.unusedVariables false
set_option maxRecDepth 100000
set_option maxHeartbeats 100000000
set_option linter.unusedSimpArgs false

theorem s30 {v1 : Int} {v2 : Int} {v3 : Int} {v4 : Int} {v5 : Int}  {v6 : Int} {v7 : Int} {v8 : Int} {v9 : Int} {v10 : Int} {m11 : List (TAt × Int)} {c12 : List (List D × List D)} {m14 : List (Int × Int)} {c15 : List (List D × List D)} (hm13 : c12 = encM eAt (eI .i64) m11) (hm16 : c15 = encM (eI .i64) (eI .i64) m14) (h : m_live_New (TGeom.mk v1 v2 v3 v4 v5) = some (TLive_Live.mk (TGeom.mk v6 v7 v8 v9 v10) m11 m14)) : SpecM Try.prog 30 0 [] [.agg [.d (.int .i64 v1), .d (.int .i64 v2), .d (.int .i64 v3), .d (.int .i64 v4), .d (.int .i64 v5)]] ⟨.ptr 0 0, [(0, .box [.d (.int .i64 v6), .d (.int .i64 v7), .d (.int .i64 v8), .d (.int .i64 v9), .d (.int .i64 v10), .map 1, .map 2]), (1, .mp true false c12), (2, .mp false false c15)], 3, True⟩ := by
  refine specM_b [] 0 0 Try.func30 rfl rfl rfl rfl rfl rfl fun J P hJ hP => ?_
  dsimp only [m_live_New] at h
  cbv
  refine st_mkm hJ ?_
  cbv
  refine st_mkm hJ ?_
  cbv
  cases h
  obtain rfl := hm13.trans ((rfl : [] = encM eAt (eI .i64) [])).symm
  obtain rfl := hm16.trans ((rfl : [] = encM (eI .i64) (eI .i64) [])).symm
  exact ⟨_, .refl _, [], _, _, [(9, 0), (4, 1), (6, 2)], _, rfl, rfl, rfl, rfl, rfl, rfl⟩
theorem s71 {v1 : Int} {v2 : Int} {v3 : Int} {v4 : Int} {v5 : Int} {v6 : Int}  {v7 : Int} {v8 : Int} {b9 : Bool}  (h : m_geom_At (TGeom.mk v1 v2 v3 v4 v5) v6 = some ((TAt.mk v7 v8), b9)) : Spec Try.prog 71 [.agg [.d (.int .i64 v1), .d (.int .i64 v2), .d (.int .i64 v3), .d (.int .i64 v4), .d (.int .i64 v5)], .d (.int .i64 v6)] ⟨.tup [.agg [.d (.int .i64 v7), .d (.int .i64 v8)], .d (.bool b9)], [], 0, True⟩ := by
  refine spec_b [6] Try.func71 rfl rfl rfl fun J P hJ hP => ?_
  dsimp only [m_geom_At] at h
  cbv
  obtain ⟨j12, hj13, h⟩ := jn h
  refine JoinP.mk ({x : Unit // j12 () = some ((TAt.mk v7 v8), b9)}) (fun x => ⟨[(1, .d (.int .i64 v6)), (2, .ptr 0 0), (4, .ptr 1 0)], [(0, .box [.d (.int .i64 v1), .d (.int .i64 v2), .d (.int .i64 v3), .d (.int .i64 v4), .d (.int .i64 v5)]), (1, .box [.d (.int .i64 0), .d (.int .i64 0)])], 2, 32⟩) (fun _ => True) [1, 2, 4] ?_ ?_
  · cbv
    revert h
    refine st_cmp hJ fun b14 eb14 h => ?_
    cbv
    cases b14 with
    | true =>
      replace h := cnd_t h
      cbv
      cases h
      exact ⟨_, .refl _, [], _, _, [], _, rfl, rfl, rfl, rfl, rfl, rfl⟩
    | false =>
      replace h := cnd_f h
      cbv
      revert h
      refine st_bin hJ fun v15 ev15 h => ?_
      cbv
      revert h
      refine st_cmp hJ fun b16 eb16 h => ?_
      cbv
      cases b16 with
      | true =>
        replace h := cnd_t h
        cbv
        cases h
        exact ⟨_, .refl _, [], _, _, [], _, rfl, rfl, rfl, rfl, rfl, rfl⟩
      | false =>
        replace h := cnd_f h
        cbv
        exact ⟨⟨(), h⟩, [(0, 0), (2, 1)], 2, [], rfl, trivial⟩
  · rintro ⟨_, h⟩ -
    rw [hj13] at h
    try dsimp only at h ⊢
    cbv
    revert h
    refine st_bin hJ fun v14 ev14 h => ?_
    cbv
    revert h
    refine st_div hJ fun v15 zv15 ev15 h => ?_
    cbv
    revert h
    refine st_bin hJ fun v16 ev16 h => ?_
    cbv
    revert h
    refine st_bin hJ fun v17 ev17 h => ?_
    cbv
    revert h
    refine st_div hJ fun v18 zv18 ev18 h => ?_
    cbv
    refine ⟨fun _ => by kernel_rfl, ?_⟩
    cbv
    cases h
    exact ⟨_, .refl _, [], _, _, [], _, rfl, rfl, rfl, rfl, rfl, rfl⟩
theorem s37 {v1 : Int} {v2 : Int} {v3 : Int} {v4 : Int} {v5 : Int} {v6 : Int} {v7 : Int} {m8 : List (TAt × Int)} {c9 : List (List D × List D)} {m11 : List (Int × Int)} {c12 : List (List D × List D)} (hm10 : c9 = encM eAt (eI .i64) m8) (hm13 : c12 = encM (eI .i64) (eI .i64) m11) {v14 : Int} {b15 : Bool}  (h : m___live_Live__Block (TAt.mk v1 v2) (TLive_Live.mk (TGeom.mk v3 v4 v5 v6 v7) m8 m11) = some (v14, b15)) : SpecM Try.prog 37 3 [(0, .box [.d (.int .i64 v3), .d (.int .i64 v4), .d (.int .i64 v5), .d (.int .i64 v6), .d (.int .i64 v7), .map 1, .map 2]), (1, .mp true false c9), (2, .mp false false c12)] [.ptr 0 0, .agg [.d (.int .i64 v1), .d (.int .i64 v2)]] ⟨.tup [.d (.int .i64 v14), .d (.bool b15)], [(0, .box [.d (.int .i64 v3), .d (.int .i64 v4), .d (.int .i64 v5), .d (.int .i64 v6), .d (.int .i64 v7), .map 1, .map 2]), (1, .mp true false c9), (2, .mp false false c12)], 0, True⟩ := by
  refine specM_b [] 3 3 Try.func37 rfl rfl rfl rfl rfl rfl fun J P hJ hP => ?_
  dsimp only [m___live_Live__Block] at h
  cbv
  obtain ⟨o17, ho17, h⟩ := letv h
  obtain ⟨y18, hy18, h⟩ := letv h
  obtain ⟨b19, hb19, h⟩ := letv h
  refine st_lk hJ eAt_kinds hm10 (k := (TAt.mk v1 v2)) rfl (z := 0) (by rfl) (eI_len .i64) ho17 hy18 hb19 (ds := [.int .i64 y18]) (by rfl) (.int .nil) rfl ?_
  cbv
  refine ⟨fun _ => by kernel_rfl, ?_⟩
  cbv
  cases h
  exact ⟨_, .refl _, [], _, _, [(0, 0), (1, 1), (2, 2)], _, rfl, rfl, rfl, rfl, rfl, rfl⟩
theorem s35 {v1 : Int} {v2 : Int} {v3 : Int} {v4 : Int} {v5 : Int} {v6 : Int} {m7 : List (TAt × Int)} {c8 : List (List D × List D)} {m10 : List (Int × Int)} {c11 : List (List D × List D)} (hm9 : c8 = encM eAt (eI .i64) m7) (hm12 : c11 = encM (eI .i64) (eI .i64) m10) {v13 : Int}  (h : m___live_Live__Count v1 (TLive_Live.mk (TGeom.mk v2 v3 v4 v5 v6) m7 m10) = some v13) : SpecM Try.prog 35 3 [(0, .box [.d (.int .i64 v2), .d (.int .i64 v3), .d (.int .i64 v4), .d (.int .i64 v5), .d (.int .i64 v6), .map 1, .map 2]), (1, .mp true false c8), (2, .mp false false c11)] [.ptr 0 0, .d (.int .i64 v1)] ⟨.d (.int .i64 v13), [(0, .box [.d (.int .i64 v2), .d (.int .i64 v3), .d (.int .i64 v4), .d (.int .i64 v5), .d (.int .i64 v6), .map 1, .map 2]), (1, .mp true false c8), (2, .mp false false c11)], 0, True⟩ := by
  refine specM_b [] 3 3 Try.func35 rfl rfl rfl rfl rfl rfl fun J P hJ hP => ?_
  dsimp only [m___live_Live__Count] at h
  cbv
  obtain ⟨o15, ho15, h⟩ := letv h
  obtain ⟨y16, hy16, h⟩ := letv h
  obtain ⟨b17, hb17, h⟩ := letv h
  refine st_lk hJ (eI_kinds .i64) hm12 (k := v1) rfl (z := 0) (by rfl) (eI_len .i64) ho15 hy16 hb17 (ds := [.int .i64 y16]) (by rfl) (.int .nil) rfl ?_
  cbv
  cases h
  exact ⟨_, .refl _, [], _, _, [(0, 0), (1, 1), (2, 2)], _, rfl, rfl, rfl, rfl, rfl, rfl⟩
end Go.AX
