/- What functions of the program compute: each is what its Lean function says. -/
import Derived.Test.YtlebjdkabepmkaaFS1
import Derived.Test.YtlebjdkabepmkaaFS3
namespace Go.AX
open Go.Proofs
set_option autoImplicit false
set_option linter.unusedVariables false
set_option maxRecDepth 100000
set_option maxHeartbeats 4000000
set_option linter.unusedSimpArgs false

theorem s20 {l1 : List TZone} {c2 : List D} {n3 : Nat} (hl4 : IsL eZone c2 n3 l1) {l5 : List TZone} {c6 : List D} {n7 : Nat} (hl8 : IsL eZone c6 n7 l5) (h : m_zone_Power l1 = some l5) : Spec Try.prog 20 [.d (.lst c2 n3)] ⟨.own 0 n7 2, [(0, .row c6 2 36)], 1, True⟩ := by
  refine spec_b [] Try.func20 rfl rfl rfl fun J P hJ hP => ?_
  dsimp only [m_zone_Power] at h
  cbv
  obtain ⟨l12, h11, h⟩ := bnd h
  obtain ⟨c13, n14, hl15⟩ := nameL eZone l12
  refine call_by hP (s24 hl4 hl15 h11) hJ rfl rfl ?_
  cbv
  revert h
  refine st_len hJ hl15 fun v16 ev16 h => ?_
  cbv
  obtain ⟨p18, q17, hp19, hf20, hq21⟩ := bnd_loop h
  clear h
  refine LoopB.mk ({x : Nat × Int × (List TZone) × (List D) × Nat // IsL eZone x.2.2.2.1 x.2.2.2.2 x.2.2.1 ∧ loopN p18 x.1 (x.2.1, x.2.2.1) = some q17}) (fun x => ⟨[(3, .own 0 x.1.2.2.2.2 2), (8, .d (.int .i64 v16)), (9, .d (.int .i64 x.1.2.1))], [(0, .row x.1.2.2.2.1 2 36)], 1, 24⟩) (fun x => x.1.1) [3, 8, 9] 1 ⟨(FUEL, 0, l12, c13, n14), hl15, hf20⟩ ⟨[(2, 0)], [], ?_⟩ ?_
  · rfl
  · rintro ⟨⟨N24, v27, l28, c29, n30⟩, hl31, hr23⟩
    obtain ⟨M25, o22, eN26, h, hr23⟩ := loopN_step hr23
    subst eN26
    rw [hp19] at h
    try dsimp only at h ⊢
    cbv
    revert h
    refine st_cmp hJ fun b32 eb32 h => ?_
    cbv
    cases b32 with
    | true =>
      replace h := cnd_t h
      cbv
      revert h
      refine st_idx_pr hJ hl31 fun y33 k34 hy35 ho36 h => ?_
      obtain ⟨v37, v38⟩ := y33
      try dsimp only at h
      cbv
      refine st_ld hJ eZone_len hl31 hy35 ho36 0 (fun hJ => by subst hJ; rfl) ([.int .i64 v37]) (Nat.le_of_ble_eq_true rfl) rfl (.int .nil) rfl ?_
      cbv
      revert h
      refine st_cmp hJ fun b39 eb39 h => ?_
      cbv
      cases b39 with
      | true =>
        replace h := cnd_t h
        cbv
        revert h
        refine st_idx_pr hJ hl31 fun y40 k41 hy42 ho43 h => ?_
        obtain ⟨v44, v45⟩ := y40
        try dsimp only at h
        cbv
        obtain ⟨l48, h47, h⟩ := bnd h
        obtain ⟨c49, n50, hl51⟩ := nameL eZone l48
        obtain ⟨_, h53, h⟩ := bnd h
        obtain rfl := lenq_n h53 hl51 hl31
        refine callM_by hP (s35 hl31 hy42 ho43 hl51 h47) [(0, 0)] false hJ rfl rfl rfl rfl rfl (.inl rfl) ?_
        cbv
        revert h
        refine st_bin hJ fun v52 ev52 h => ?_
        cbv
        cases h
        exact ⟨⟨(M25, v52, l48, c49, n30), hl51, hr23⟩, [(0, 0)], 1, [], rfl, Nat.lt_succ_self _⟩
      | false =>
        replace h := cnd_f h
        cbv
        revert h
        refine st_bin hJ fun v40 ev40 h => ?_
        cbv
        cases h
        exact ⟨⟨(M25, v40, l28, c29, n30), hl31, hr23⟩, [(0, 0)], 1, [], rfl, Nat.lt_succ_self _⟩
    | false =>
      replace h := cnd_f h
      cbv
      cases h
      have h := hq21
      obtain rfl := hr23
      try dsimp only at h
      cases h
      obtain ⟨rfl, rfl⟩ := IsL.uniq hl8 hl31
      exact ⟨_, .refl _, [], _, _, [(0, 0)], _, rfl, rfl, rfl, rfl, rfl, rfl⟩
end Go.AX
