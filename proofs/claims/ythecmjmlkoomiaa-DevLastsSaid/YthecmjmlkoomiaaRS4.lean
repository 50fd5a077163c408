/- What functions of the program compute: each is what its Lean function says. -/
import Derived.Test.YthecmjmlkoomiaaRM
namespace Go.AX
open Go.Proofs
set_option autoImplicit false
set_option linter.unusedVariables false
set_option maxRecDepth 100000
set_option maxHeartbeats 100000000
set_option linter.unusedSimpArgs false

theorem s103 {l1 : List TZone} {c2 : List D} {n3 : Nat} {i5 : Int} {k8 : Nat} {v6 : Int} {v7 : Int} (hl4 : IsL eZone c2 n3 l1) (hy9 : at? l1 i5 = some (TZone.mk v6 v7)) (ho10 : k8 = i5.toNat * 2) {l11 : List TZone} {c12 : List D} {n13 : Nat} (hl14 : IsL eZone c12 n13 l11) (h : m_zone_shut l1 i5 (TZone.mk v6 v7) = some l11) : SpecM Try.prog 103 1 [(0, .row c2 2 53)] [.pr 0 k8] ⟨.tup [], [(0, .row c12 2 53)], 0, True⟩ := by
  refine specM_b [] 1 1 Try.func103 rfl rfl rfl rfl rfl rfl fun J P hJ hP => ?_
  dsimp only [m_zone_shut] at h
  cbv
  revert h
  refine st_st hJ eZone_len hl4 hy9 ho10 0 (fun hJ => by subst hJ; rfl) rfl (Nat.le_of_ble_eq_true rfl) (TZone.mk 2 v7) rfl fun c17 l16 hl18 h => ?_
  cbv
  obtain ⟨y19, hy20, h⟩ := bnd h
  obtain ⟨v21, v22⟩ := y19
  try dsimp only at h
  refine st_ld hJ eZone_len hl18 hy20 ho10 1 (fun hJ => by subst hJ; rfl) ([.int .i64 v22]) (Nat.le_of_ble_eq_true rfl) rfl (.int .nil) rfl ?_
  cbv
  revert h
  refine st_cmp hJ fun b23 eb23 h => ?_
  cbv
  cases b23 with
  | true =>
    replace h := cnd_t h
    cbv
    obtain ⟨y24, hy25, h⟩ := bnd h
    obtain ⟨v26, v27⟩ := y24
    try dsimp only at h
    revert h
    refine st_st hJ eZone_len hl18 hy25 ho10 0 (fun hJ => by subst hJ; rfl) rfl (Nat.le_of_ble_eq_true rfl) (TZone.mk 0 v27) rfl fun c29 l28 hl30 h => ?_
    cbv
    cases h
    obtain ⟨rfl, rfl⟩ := IsL.uniq hl14 hl30
    exact ⟨_, .refl _, [], _, _, [(0, 0)], _, rfl, rfl, rfl, rfl, rfl, rfl⟩
  | false =>
    replace h := cnd_f h
    cbv
    cases h
    obtain ⟨rfl, rfl⟩ := IsL.uniq hl14 hl18
    exact ⟨_, .refl _, [], _, _, [(0, 0)], _, rfl, rfl, rfl, rfl, rfl, rfl⟩
set_option maxHeartbeats 2000000 in
theorem cw69 (b : Nat) (es : Array MapEntry) (clock : Nat) (w : World) (hb : w.heap[b]? = some (.map es clock)) :
    Calls Try.prog 69 #[.map (some b)] w fun e w' => e = .returned (.map (some w.heap.size)) ∧ w' = w.alloc (.map es clock) := by
  have hq := fun w => run_eql_mapnil (P := Try.prog) w 94 _ _ (some b) Try.underlying94
  go_enter Try.func69, Try.ntmps69
  go_wp2
  rw [run_callFunc_extern Try.func92 (by kernel_rfl) (by kernel_rfl) (by kernel_rfl) (e := Extern.MapsClone.clone) (by kernel_rfl), run_clone_map w 94 hb]
  simp only [Result.andThen]
  rw [Oper.upon_value]
  go_wp2
  rw [run_assert_map _ 94 20 _ _ _ Try.underlying94]
  simp only [Result.andThen]
  rw [Oper.upon_value]
  go_wp2
  go_ret
  exact ⟨rfl, rfl⟩
theorem s69 (ka va : Bool) (l : List (List D × List D)) : SpecM Try.prog 69 1 [(0, .mp ka va l)] [.map 0] ⟨.map 1, [(0, .mp ka va l), (1, .mp ka va l)], 1, True⟩ :=
  specM_clone ⟨_, Try.func69, rfl, rfl⟩ cw69 ka va l
theorem s42 {v1 : Int} {v2 : Int} {v3 : Int} {v4 : Int} {v5 : Int} {l6 : List TZone} {c7 : List D} {n8 : Nat} {m10 : List (Int × Bool)} {c11 : List (List D × List D)} {m13 : List (TAt × (Ar 64))} {c14 : List (List D × List D)} {m16 : List (TAt × (Ar 64))} {c17 : List (List D × List D)} {l19 : List TDev_write} {c20 : List D} {n21 : Nat} {v23 : Int} {b24 : Bool} {v25 : Int} (hl9 : IsL eZone c7 n8 l6) (hm12 : c11 = encM (eI .i64) eB m10) (hm15 : c14 = encM eAt (eA .u8) m13) (hm18 : c17 = encM eAt (eA .u8) m16) (hl22 : IsL eDev_write c20 n21 l19) {v26 : Int}  (h : m___dev_Device__Illegal (TDev_Device.mk (TGeom.mk v1 v2 v3 v4 v5) l6 m10 m13 m16 l19 v23 b24 v25) = some v26) : SpecM Try.prog 42 6 [(0, .box [.d (.int .i64 v1), .d (.int .i64 v2), .d (.int .i64 v3), .d (.int .i64 v4), .d (.int .i64 v5), .own 1 n8 2, .map 2, .map 3, .map 4, .own 5 n21 66, .d (.int .i64 v23), .d (.bool b24), .d (.int .i64 v25)]), (1, .row c7 2 53), (2, .mp false false c11), (3, .mp true true c14), (4, .mp true true c17), (5, .row c20 66 109)] [.ptr 0 0] ⟨.d (.int .i64 v26), [(0, .box [.d (.int .i64 v1), .d (.int .i64 v2), .d (.int .i64 v3), .d (.int .i64 v4), .d (.int .i64 v5), .own 1 n8 2, .map 2, .map 3, .map 4, .own 5 n21 66, .d (.int .i64 v23), .d (.bool b24), .d (.int .i64 v25)]), (1, .row c7 2 53), (2, .mp false false c11), (3, .mp true true c14), (4, .mp true true c17), (5, .row c20 66 109)], 0, True⟩ := by
  refine specM_b [] 6 6 Try.func42 rfl rfl rfl rfl rfl rfl fun J P hJ hP => ?_
  dsimp only [m___dev_Device__Illegal] at h
  cbv
  cases h
  exact ⟨_, .refl _, [], _, _, [(0, 0), (1, 1), (2, 2), (3, 3), (4, 4), (5, 5)], _, rfl, rfl, rfl, rfl, rfl, rfl⟩
theorem s97 {v1 : Int} {v2 : Int} {v3 : Int} {v4 : Int} {v5 : Int}  {v6 : Int}  (h : m_ref03_Blocks (TGeom.mk v1 v2 v3 v4 v5) = some v6) : Spec Try.prog 97 [.agg [.d (.int .i64 v1), .d (.int .i64 v2), .d (.int .i64 v3), .d (.int .i64 v4), .d (.int .i64 v5)]] ⟨.d (.int .i64 v6), [], 0, True⟩ := by
  refine spec_b [] Try.func97 rfl rfl rfl fun J P hJ hP => ?_
  dsimp only [m_ref03_Blocks] at h
  cbv
  obtain ⟨p9, q8, hp10, hf11, hq12⟩ := bnd_loop h
  clear h
  refine LoopB.mk ({x : Nat × Int × Int // loopN p9 x.1 (x.2.1, x.2.2) = some q8}) (fun x => ⟨[(1, .ptr 0 0), (3, .d (.int .i64 x.1.2.1)), (4, .d (.int .i64 x.1.2.2))], [(0, .box [.d (.int .i64 v1), .d (.int .i64 v2), .d (.int .i64 v3), .d (.int .i64 v4), .d (.int .i64 v5)])], 1, 19⟩) (fun x => x.1.1) [1, 3, 4] 1 ⟨(FUEL, 0, 5), hf11⟩ ⟨[(0, 0)], [], ?_⟩ ?_
  · rfl
  · rintro ⟨⟨N15, v18, v19⟩, hr14⟩
    obtain ⟨M16, o13, eN17, h, hr14⟩ := loopN_step hr14
    subst eN17
    rw [hp10] at h
    try dsimp only at h ⊢
    cbv
    revert h
    refine st_cmp hJ fun b20 eb20 h => ?_
    cbv
    cases b20 with
    | true =>
      replace h := cnd_t h
      cbv
      revert h
      refine st_div hJ fun v21 zv21 ev21 h => ?_
      cbv
      revert h
      refine st_bin hJ fun v22 ev22 h => ?_
      cbv
      revert h
      refine st_bin hJ fun v23 ev23 h => ?_
      cbv
      cases h
      exact ⟨⟨(M16, v22, v23), hr14⟩, [(0, 0)], 1, [], rfl, Nat.lt_succ_self _⟩
    | false =>
      replace h := cnd_f h
      cbv
      cases h
      have h := hq12
      obtain rfl := hr14
      try dsimp only at h
      revert h
      refine st_cmp hJ fun b21 eb21 h => ?_
      cbv
      cases b21 with
      | true =>
        replace h := cnd_t h
        cbv
        cases h
        exact ⟨_, .refl _, [], _, _, [], _, rfl, rfl, rfl, rfl, rfl, rfl⟩
      | false =>
        replace h := cnd_f h
        cbv
        cases h
        exact ⟨_, .refl _, [], _, _, [], _, rfl, rfl, rfl, rfl, rfl, rfl⟩
end Go.AX
