/- What functions of the program compute: each is what its Lean function says. -/
import Derived.Test.YthecmjmlkoomiaaRM
namespace Go.AX
open Go.Proofs
set_option autoImplicit false
set_option linter.unusedVariables false
set_option maxRecDepth 100000
set_option maxHeartbeats 100000000
set_option linter.unusedSimpArgs false

theorem s52 {l1 : List TRef05_Cell} {c2 : List D} {n3 : Nat} {v5 : Int} (hl4 : IsL eRef05_Cell c2 n3 l1) {l6 : List TRef05_Cell} {c7 : List D} {n8 : Nat} (hl9 : IsL eRef05_Cell c7 n8 l6) (h : m_ref05_only l1 v5 = some l6) : Spec Try.prog 52 [.d (.lst c2 n3), .d (.int .i64 v5)] ⟨.own 0 n8 66, [(0, .row c7 66 104)], 1, True⟩ := by
  refine spec_b [] Try.func52 rfl rfl rfl fun J P hJ hP => ?_
  dsimp only [m_ref05_only] at h
  cbv
  obtain ⟨p12, q11, hp13, hf14, hq15⟩ := bnd_loop h
  clear h
  refine LoopB.mk ({x : Nat × Int × (List TRef05_Cell) × (List D) × Nat // IsL eRef05_Cell x.2.2.2.1 x.2.2.2.2 x.2.2.1 ∧ loopN p12 x.1 (x.2.1, x.2.2.1) = some q11}) (fun x => ⟨[(0, .d (.lst c2 n3)), (1, .d (.int .i64 v5)), (5, .own 0 x.1.2.2.2.2 66), (6, .d (.int .i64 x.1.2.1))], [(0, .row x.1.2.2.2.1 66 104)], 1, 29⟩) (fun x => x.1.1) [0, 1, 5, 6] 0 ⟨(FUEL, 0, ([] : List TRef05_Cell), [], 0), (IsL.nil' (g := eRef05_Cell)), hf14⟩ ⟨[], [.slot 5 0 66 104], ?_⟩ ?_
  · rfl
  · rintro ⟨⟨N18, v21, l22, c23, n24⟩, hl25, hr17⟩
    obtain ⟨M19, o16, eN20, h, hr17⟩ := loopN_step hr17
    subst eN20
    rw [hp13] at h
    try dsimp only at h ⊢
    cbv
    revert h
    refine st_len hJ hl4 fun v26 ev26 h => ?_
    cbv
    revert h
    refine st_cmp hJ fun b27 eb27 h => ?_
    cbv
    cases b27 with
    | true =>
      replace h := cnd_t h
      cbv
      revert h
      refine st_idx_lp hJ hl4 fun y28 k29 hy30 ho31 h => ?_
      obtain ⟨⟨v32, v33⟩, a34⟩ := y28
      obtain ⟨d35, ha36⟩ := nameA .u8 a34
      try dsimp only at h
      cbv
      refine st_ld hJ eRef05_Cell_len hl4 hy30 ho31 0 (fun hJ => by subst hJ; rfl) ([.int .i64 v32]) (by simp [encL_len (k := 1) (eI_len _), Ar.h]) (by first | done | rfl | simp [eRef05_Cell, encL_len (k := 1) (eI_len _), Ar.h, takeA]) (.int .nil) rfl ?_
      cbv
      revert h
      refine st_cmp hJ fun b37 eb37 h => ?_
      cbv
      cases b37 with
      | true =>
        replace h := cnd_t h
        cbv
        revert h
        refine st_idx_lp hJ hl4 fun y38 k39 hy40 ho41 h => ?_
        obtain ⟨⟨v42, v43⟩, a44⟩ := y38
        obtain ⟨d45, ha46⟩ := nameA .u8 a44
        try dsimp only at h
        cbv
        refine st_ldW hJ eRef05_Cell_len hl4 hy40 ho41 (fun hJ => by subst hJ; rfl) ([.int .i64 v42, .int .i64 v43] ++ (d45 ++ [])) (by rw [(show d45 = encL (eI .u8) a44.l from ha46)]; first | done | rfl | simp [eRef05_Cell, encL_len (k := 1) (eI_len _), Ar.h]) (.int (.int (.big ⟨by rw [(show d45 = encL (eI .u8) a44.l from ha46)]; exact eA_len _ _, by decide⟩ .nil))) rfl ?_
        cbv
        have hl47 : IsL eRef05_Cell ((D.int .i64 v42) :: ((D.int .i64 v43) :: (J .app d45 []))) 1 [(TRef05_Cell.mk (TAt.mk v42 v43) a44)] := ⟨by rw [(show d45 = encL (eI .u8) a44.l from ha46)]; subst hJ; simp [stdJ, std, encL, eRef05_Cell, eI], rfl⟩
        refine st_any hJ rfl rfl (by subst hJ; exact (by decide : 66 ≤ 16777216)) ?_
        cbv
        revert h
        refine st_app hJ eRef05_Cell_len hl25 hl47 fun c49 n50 l48 hl51 h => ?_
        cbv
        revert h
        refine st_bin hJ fun v52 ev52 h => ?_
        cbv
        cases h
        exact ⟨⟨(M19, v52, l48, c49, n50), hl51, hr17⟩, [(20, 0)], 1, [], rfl, Nat.lt_succ_self _⟩
      | false =>
        replace h := cnd_f h
        cbv
        revert h
        refine st_bin hJ fun v38 ev38 h => ?_
        cbv
        cases h
        exact ⟨⟨(M19, v38, l22, c23, n24), hl25, hr17⟩, [(0, 0)], 1, [], rfl, Nat.lt_succ_self _⟩
    | false =>
      replace h := cnd_f h
      cbv
      cases h
      have h := hq15
      obtain rfl := hr17
      try dsimp only at h
      cases h
      obtain ⟨rfl, rfl⟩ := IsL.uniq hl9 hl25
      exact ⟨_, .refl _, [], _, _, [(0, 0)], _, rfl, rfl, rfl, rfl, rfl, rfl⟩
theorem s19 {v1 : Int} {v2 : Int} {v3 : Int} {v4 : Int} {v5 : Int} {l6 : List TZone} {c7 : List D} {n8 : Nat} {m10 : List (Int × Bool)} {c11 : List (List D × List D)} {m13 : List (TAt × (Ar 64))} {c14 : List (List D × List D)} {m16 : List (TAt × (Ar 64))} {c17 : List (List D × List D)} {l19 : List TDev_write} {c20 : List D} {n21 : Nat} {v23 : Int} {b24 : Bool} {v25 : Int} (hl9 : IsL eZone c7 n8 l6) (hm12 : c11 = encM (eI .i64) eB m10) (hm15 : c14 = encM eAt (eA .u8) m13) (hm18 : c17 = encM eAt (eA .u8) m16) (hl22 : IsL eDev_write c20 n21 l19) {b26 : Bool}  (h : m___dev_Device__Down (TDev_Device.mk (TGeom.mk v1 v2 v3 v4 v5) l6 m10 m13 m16 l19 v23 b24 v25) = some b26) : SpecM Try.prog 19 6 [(0, .box [.d (.int .i64 v1), .d (.int .i64 v2), .d (.int .i64 v3), .d (.int .i64 v4), .d (.int .i64 v5), .own 1 n8 2, .map 2, .map 3, .map 4, .own 5 n21 66, .d (.int .i64 v23), .d (.bool b24), .d (.int .i64 v25)]), (1, .row c7 2 53), (2, .mp false false c11), (3, .mp true true c14), (4, .mp true true c17), (5, .row c20 66 109)] [.ptr 0 0] ⟨.d (.bool b26), [(0, .box [.d (.int .i64 v1), .d (.int .i64 v2), .d (.int .i64 v3), .d (.int .i64 v4), .d (.int .i64 v5), .own 1 n8 2, .map 2, .map 3, .map 4, .own 5 n21 66, .d (.int .i64 v23), .d (.bool b24), .d (.int .i64 v25)]), (1, .row c7 2 53), (2, .mp false false c11), (3, .mp true true c14), (4, .mp true true c17), (5, .row c20 66 109)], 0, True⟩ := by
  refine specM_b [] 6 6 Try.func19 rfl rfl rfl rfl rfl rfl fun J P hJ hP => ?_
  dsimp only [m___dev_Device__Down] at h
  cbv
  cases h
  exact ⟨_, .refl _, [], _, _, [(0, 0), (1, 1), (2, 2), (3, 3), (4, 4), (5, 5)], _, rfl, rfl, rfl, rfl, rfl, rfl⟩
theorem s24 {v1 : Int} {v2 : Int} {v3 : Int} {v4 : Int} {v5 : Int} {l6 : List TZone} {c7 : List D} {n8 : Nat} {m10 : List (Int × Bool)} {c11 : List (List D × List D)} {m13 : List (TAt × (Ar 64))} {c14 : List (List D × List D)} {m16 : List (TAt × (Ar 64))} {c17 : List (List D × List D)} {l19 : List TDev_write} {c20 : List D} {n21 : Nat} {v23 : Int} {b24 : Bool} {v25 : Int} (hl9 : IsL eZone c7 n8 l6) (hm12 : c11 = encM (eI .i64) eB m10) (hm15 : c14 = encM eAt (eA .u8) m13) (hm18 : c17 = encM eAt (eA .u8) m16) (hl22 : IsL eDev_write c20 n21 l19) {v26 : Int}  (h : m___dev_Device__Cached (TDev_Device.mk (TGeom.mk v1 v2 v3 v4 v5) l6 m10 m13 m16 l19 v23 b24 v25) = some v26) : SpecM Try.prog 24 6 [(0, .box [.d (.int .i64 v1), .d (.int .i64 v2), .d (.int .i64 v3), .d (.int .i64 v4), .d (.int .i64 v5), .own 1 n8 2, .map 2, .map 3, .map 4, .own 5 n21 66, .d (.int .i64 v23), .d (.bool b24), .d (.int .i64 v25)]), (1, .row c7 2 53), (2, .mp false false c11), (3, .mp true true c14), (4, .mp true true c17), (5, .row c20 66 109)] [.ptr 0 0] ⟨.d (.int .i64 v26), [(0, .box [.d (.int .i64 v1), .d (.int .i64 v2), .d (.int .i64 v3), .d (.int .i64 v4), .d (.int .i64 v5), .own 1 n8 2, .map 2, .map 3, .map 4, .own 5 n21 66, .d (.int .i64 v23), .d (.bool b24), .d (.int .i64 v25)]), (1, .row c7 2 53), (2, .mp false false c11), (3, .mp true true c14), (4, .mp true true c17), (5, .row c20 66 109)], 0, True⟩ := by
  refine specM_b [] 6 6 Try.func24 rfl rfl rfl rfl rfl rfl fun J P hJ hP => ?_
  dsimp only [m___dev_Device__Cached] at h
  cbv
  revert h
  refine st_len hJ hl22 fun v28 ev28 h => ?_
  cbv
  cases h
  exact ⟨_, .refl _, [], _, _, [(0, 0), (1, 1), (2, 2), (3, 3), (4, 4), (5, 5)], _, rfl, rfl, rfl, rfl, rfl, rfl⟩
theorem s67 {l1 : List TDev_write} {c2 : List D} {n3 : Nat} (hl4 : IsL eDev_write c2 n3 l1) {l5 : List TDev_write} {c6 : List D} {n7 : Nat} (hl8 : IsL eDev_write c6 n7 l5) (h : m_slices_Clone_ l1 = some l5) : Spec Try.prog 67 [.d (.lst c2 n3)] ⟨.own 0 n7 66, [(0, .row c6 66 109)], 1, True⟩ := by
  refine spec_b [] Try.func67 rfl rfl rfl fun J P hJ hP => ?_
  dsimp only [m_slices_Clone_] at h
  cbv
  intro b hb
  cases b with
  | true =>
    cbv
    have hn : n3 = 0 := hb rfl
    have h0 : l1 = [] := List.eq_nil_of_length_eq_zero (by rw [← hl4.n]; exact hn)
    subst h0
    have h1 : l5 = [] := (Option.some.inj h).symm
    subst h1
    obtain ⟨rfl, rfl⟩ := IsL.nil hl8
    exact ⟨_, .refl _, [.slot 2 1000000 66 109], _, _, [(1000000, 0)], _, rfl, rfl, rfl, rfl, rfl, rfl⟩
  | false =>
    cbv
    refine st_any hJ rfl rfl (by subst hJ; exact (by decide : 0 ≤ 16777216)) ?_
    cbv
    revert h
    refine st_app hJ eDev_write_len IsL.nil' hl4 fun c'' n'' l'' hl'' h => ?_
    cbv
    cases h
    obtain ⟨rfl, rfl⟩ := IsL.uniq hl8 hl''
    exact ⟨_, .refl _, [], _, _, [(6, 0)], _, rfl, rfl, rfl, rfl, rfl, rfl⟩
end Go.AX
