/- What functions of the program compute: each is what its Lean function says. -/
import Derived.Test.YthecmjmlkoomiaaRM
namespace Go.AX
open Go.Proofs
set_option autoImplicit false
set_option linter.unusedVariables false
set_option maxRecDepth 100000
set_option maxHeartbeats 100000000
set_option linter.unusedSimpArgs false

theorem s77 {v1 : Int} {v2 : Int} {v3 : Int} {v4 : Int} {v5 : Int}  {v6 : Int}  (h : m_geom_Zones (TGeom.mk v1 v2 v3 v4 v5) = some v6) : Spec Try.prog 77 [.agg [.d (.int .i64 v1), .d (.int .i64 v2), .d (.int .i64 v3), .d (.int .i64 v4), .d (.int .i64 v5)]] ⟨.d (.int .i64 v6), [], 0, True⟩ := by
  refine spec_b [] Try.func77 rfl rfl rfl fun J P hJ hP => ?_
  dsimp only [m_geom_Zones] at h
  cbv
  revert h
  refine st_bin hJ fun v8 ev8 h => ?_
  cbv
  cases h
  exact ⟨_, .refl _, [], _, _, [], _, rfl, rfl, rfl, rfl, rfl, rfl⟩
theorem s41 {v1 : Int}  {a2 : Ar 64} {d3 : List D} (ha4 : d3 = encL (eI .u8) a2.l) (h : m_law05_page v1 = some a2) : Spec Try.prog 41 [.d (.int .u8 v1)] ⟨.agg [.big 64 d3], [], 0, True⟩ := by
  refine spec_b [] Try.func41 rfl rfl rfl fun J P hJ hP => ?_
  dsimp only [m_law05_page] at h
  cbv
  revert h
  refine st_idx_px hJ (Ar.h (Ar.zero 64)) fun v6 k7 hy8 ho9 h => ?_
  cbv
  obtain ⟨a10, ha10, h⟩ := letv h
  obtain ⟨d11, ha12⟩ := nameA .u8 a10
  refine st_any hJ rfl (wr' := [(2, .box [.big 64 d11])]) (by rw [set_put hJ (rep_z hJ 64 .u8) ho9 ha10 ha12]) (px_leA hJ ho9 hy8) ?_
  cbv
  revert h
  refine st_idx_px hJ (Ar.h a10) fun v13 k14 hy15 ho16 h => ?_
  cbv
  obtain ⟨a17, ha17, h⟩ := letv h
  obtain ⟨d18, ha19⟩ := nameA .u8 a17
  refine st_any hJ rfl (wr' := [(2, .box [.big 64 d18])]) (by rw [set_put hJ ha12 ho16 ha17 ha19]) (px_leA hJ ho16 hy15) ?_
  cbv
  cases h
  obtain rfl := ha4.trans (ha19).symm
  exact ⟨_, .refl _, [], _, _, [], _, rfl, rfl, rfl, rfl, rfl, rfl⟩
theorem s57 {l1 : List TZone} {c2 : List D} {n3 : Nat} (hl4 : IsL eZone c2 n3 l1) {l5 : List TZone} {c6 : List D} {n7 : Nat} (hl8 : IsL eZone c6 n7 l5) (h : m_slices_Clone l1 = some l5) : Spec Try.prog 57 [.d (.lst c2 n3)] ⟨.own 0 n7 2, [(0, .row c6 2 53)], 1, True⟩ := by
  refine spec_b [] Try.func57 rfl rfl rfl fun J P hJ hP => ?_
  dsimp only [m_slices_Clone] at h
  cbv
  intro b hb
  cases b with
  | true =>
    cbv
    have hn : n3 = 0 := hb rfl
    have h0 : l1 = [] := List.eq_nil_of_length_eq_zero (by rw [← hl4.n]; exact hn)
    subst h0
    have h1 : l5 = [] := (Option.some.inj h).symm
    subst h1
    obtain ⟨rfl, rfl⟩ := IsL.nil hl8
    exact ⟨_, .refl _, [.slot 2 1000000 2 53], _, _, [(1000000, 0)], _, rfl, rfl, rfl, rfl, rfl, rfl⟩
  | false =>
    cbv
    refine st_any hJ rfl rfl (by subst hJ; exact (by decide : 0 ≤ 16777216)) ?_
    cbv
    revert h
    refine st_app hJ eZone_len IsL.nil' hl4 fun c'' n'' l'' hl'' h => ?_
    cbv
    cases h
    obtain ⟨rfl, rfl⟩ := IsL.uniq hl8 hl''
    exact ⟨_, .refl _, [], _, _, [(6, 0)], _, rfl, rfl, rfl, rfl, rfl, rfl⟩
theorem s91 {l1 : List TZone} {c2 : List D} {n3 : Nat} (hl4 : IsL eZone c2 n3 l1) {v5 : Int}  (h : m_zone_open l1 = some v5) : Spec Try.prog 91 [.d (.lst c2 n3)] ⟨.d (.int .i64 v5), [], 0, True⟩ := by
  refine spec_b [] Try.func91 rfl rfl rfl fun J P hJ hP => ?_
  dsimp only [m_zone_open] at h
  cbv
  revert h
  refine st_len hJ hl4 fun v7 ev7 h => ?_
  cbv
  obtain ⟨p9, q8, hp10, hf11, hq12⟩ := bnd_loop h
  clear h
  refine LoopB.mk ({x : Nat × Int × Int // loopN p9 x.1 (x.2.1, x.2.2) = some q8}) (fun x => ⟨[(3, .d (.int .i64 x.1.2.1)), (6, .d (.lst c2 n3)), (7, .d (.int .i64 v7)), (8, .d (.int .i64 x.1.2.2))], [], 0, 19⟩) (fun x => x.1.1) [3, 6, 7, 8] 0 ⟨(FUEL, 0, 0), hf11⟩ ⟨[], [], ?_⟩ ?_
  · rfl
  · rintro ⟨⟨N15, v18, v19⟩, hr14⟩
    obtain ⟨M16, o13, eN17, h, hr14⟩ := loopN_step hr14
    subst eN17
    rw [hp10] at h
    try dsimp only at h ⊢
    cbv
    revert h
    refine st_cmp hJ fun b20 eb20 h => ?_
    cbv
    cases b20 with
    | true =>
      replace h := cnd_t h
      cbv
      revert h
      refine st_idx_lp hJ hl4 fun y21 k22 hy23 ho24 h => ?_
      obtain ⟨v25, v26⟩ := y21
      try dsimp only at h
      cbv
      refine st_ld hJ eZone_len hl4 hy23 ho24 0 (fun hJ => by subst hJ; rfl) ([.int .i64 v25, .int .i64 v26]) (Nat.le_of_ble_eq_true rfl) rfl (.int (.int .nil)) rfl ?_
      cbv
      revert h
      refine st_cmp hJ fun b27 eb27 h => ?_
      cbv
      cases b27 with
      | true =>
        replace h := cnd_t h
        cbv
        revert h
        refine st_bin hJ fun v28 ev28 h => ?_
        cbv
        revert h
        refine st_bin hJ fun v29 ev29 h => ?_
        cbv
        cases h
        exact ⟨⟨(M16, v28, v29), hr14⟩, [], 0, [], rfl, Nat.lt_succ_self _⟩
      | false =>
        replace h := cnd_f h
        cbv
        revert h
        refine st_bin hJ fun v28 ev28 h => ?_
        cbv
        cases h
        exact ⟨⟨(M16, v18, v28), hr14⟩, [], 0, [], rfl, Nat.lt_succ_self _⟩
    | false =>
      replace h := cnd_f h
      cbv
      cases h
      have h := hq12
      obtain rfl := hr14
      try dsimp only at h
      cases h
      exact ⟨_, .refl _, [], _, _, [], _, rfl, rfl, rfl, rfl, rfl, rfl⟩
theorem s61 {v1 : Int} {v2 : Int} {v3 : Int} {v4 : Int} {v5 : Int} {v6 : Int} {l7 : List TZone} {c8 : List D} {n9 : Nat} {m11 : List (Int × Bool)} {c12 : List (List D × List D)} {m14 : List (TAt × (Ar 64))} {c15 : List (List D × List D)} {m17 : List (TAt × (Ar 64))} {c18 : List (List D × List D)} {l20 : List TDev_write} {c21 : List D} {n22 : Nat} {v24 : Int} {b25 : Bool} {v26 : Int} (hl10 : IsL eZone c8 n9 l7) (hm13 : c12 = encM (eI .i64) eB m11) (hm16 : c15 = encM eAt (eA .u8) m14) (hm19 : c18 = encM eAt (eA .u8) m17) (hl23 : IsL eDev_write c21 n22 l20) {v27 : Int} {v28 : Int} {v29 : Int} {v30 : Int} {v31 : Int} {v32 : Int} {l33 : List TZone} {c34 : List D} {n35 : Nat} {m37 : List (Int × Bool)} {c38 : List (List D × List D)} {m40 : List (TAt × (Ar 64))} {c41 : List (List D × List D)} {m43 : List (TAt × (Ar 64))} {c44 : List (List D × List D)} {l46 : List TDev_write} {c47 : List D} {n48 : Nat} {v50 : Int} {b51 : Bool} {v52 : Int} (hl36 : IsL eZone c34 n35 l33) (hm39 : c38 = encM (eI .i64) eB m37) (hm42 : c41 = encM eAt (eA .u8) m40) (hm45 : c44 = encM eAt (eA .u8) m43) (hl49 : IsL eDev_write c47 n48 l46) (h : m___dev_Device__check v1 (TDev_Device.mk (TGeom.mk v2 v3 v4 v5 v6) l7 m11 m14 m17 l20 v24 b25 v26) = some (v27, (TDev_Device.mk (TGeom.mk v28 v29 v30 v31 v32) l33 m37 m40 m43 l46 v50 b51 v52))) : SpecM Try.prog 61 6 [(0, .box [.d (.int .i64 v2), .d (.int .i64 v3), .d (.int .i64 v4), .d (.int .i64 v5), .d (.int .i64 v6), .own 1 n9 2, .map 2, .map 3, .map 4, .own 5 n22 66, .d (.int .i64 v24), .d (.bool b25), .d (.int .i64 v26)]), (1, .row c8 2 53), (2, .mp false false c12), (3, .mp true true c15), (4, .mp true true c18), (5, .row c21 66 109)] [.ptr 0 0, .d (.int .i64 v1)] ⟨.d (.int .i64 v27), [(0, .box [.d (.int .i64 v28), .d (.int .i64 v29), .d (.int .i64 v30), .d (.int .i64 v31), .d (.int .i64 v32), .own 1 n35 2, .map 2, .map 3, .map 4, .own 5 n48 66, .d (.int .i64 v50), .d (.bool b51), .d (.int .i64 v52)]), (1, .row c34 2 53), (2, .mp false false c38), (3, .mp true true c41), (4, .mp true true c44), (5, .row c47 66 109)], 0, True⟩ := by
  refine specM_b [] 6 6 Try.func61 rfl rfl rfl rfl rfl rfl fun J P hJ hP => ?_
  dsimp only [m___dev_Device__check] at h
  cbv
  revert h
  refine st_cmp hJ fun b54 eb54 h => ?_
  cbv
  cases b54 with
  | true =>
    replace h := cnd_t h
    cbv
    revert h
    refine st_bin hJ fun v55 ev55 h => ?_
    cbv
    cases h
    obtain ⟨rfl, rfl⟩ := IsL.uniq hl36 hl10
    obtain rfl := hm39.trans (hm13).symm
    obtain rfl := hm42.trans (hm16).symm
    obtain rfl := hm45.trans (hm19).symm
    obtain ⟨rfl, rfl⟩ := IsL.uniq hl49 hl23
    exact ⟨_, .refl _, [], _, _, [(0, 0), (1, 1), (2, 2), (3, 3), (4, 4), (5, 5)], _, rfl, rfl, rfl, rfl, rfl, rfl⟩
  | false =>
    replace h := cnd_f h
    cbv
    cases h
    obtain ⟨rfl, rfl⟩ := IsL.uniq hl36 hl10
    obtain rfl := hm39.trans (hm13).symm
    obtain rfl := hm42.trans (hm16).symm
    obtain rfl := hm45.trans (hm19).symm
    obtain ⟨rfl, rfl⟩ := IsL.uniq hl49 hl23
    exact ⟨_, .refl _, [], _, _, [(0, 0), (1, 1), (2, 2), (3, 3), (4, 4), (5, 5)], _, rfl, rfl, rfl, rfl, rfl, rfl⟩
end Go.AX
