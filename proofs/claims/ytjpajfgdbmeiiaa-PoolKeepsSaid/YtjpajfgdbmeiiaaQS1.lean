/- What functions of the program compute: each is what its Lean function says. -/
import Derived.Test.YtjpajfgdbmeiiaaQM
namespace Go.AX
open Go.Proofs
set_option autoImplicit false
set_option linter.unusedVariables false
set_option maxRecDepth 100000
set_option maxHeartbeats 4000000
set_option linter.unusedSimpArgs false

theorem s32 {v1 : Int} {v2 : Int} {v3 : Int} {v4 : Int} {v5 : Int}  {l6 : List TZone} {c7 : List D} {n8 : Nat} (hl9 : IsL eZone c7 n8 l6) (h : m_ref04_New (TGeom.mk v1 v2 v3 v4 v5) = some l6) : Spec Try.prog 32 [.agg [.d (.int .i64 v1), .d (.int .i64 v2), .d (.int .i64 v3), .d (.int .i64 v4), .d (.int .i64 v5)]] ⟨.own 0 n8 2, [(0, .row c7 2 75)], 1, True⟩ := by
  refine spec_b [] Try.func32 rfl rfl rfl fun J P hJ hP => ?_
  dsimp only [m_ref04_New] at h
  cbv
  obtain ⟨p12, q11, hp13, hf14, hq15⟩ := bnd_loop h
  clear h
  refine LoopB.mk ({x : Nat × Int × (List TZone) × (List D) × Nat // IsL eZone x.2.2.2.1 x.2.2.2.2 x.2.2.1 ∧ loopN p12 x.1 (x.2.1, x.2.2.1) = some q11}) (fun x => ⟨[(1, .ptr 0 0), (3, .own 1 x.1.2.2.2.2 2), (4, .d (.int .i64 x.1.2.1))], [(0, .box [.d (.int .i64 v1), .d (.int .i64 v2), .d (.int .i64 v3), .d (.int .i64 v4), .d (.int .i64 v5)]), (1, .row x.1.2.2.2.1 2 75)], 2, 27⟩) (fun x => x.1.1) [1, 3, 4] 1 ⟨(FUEL, 0, ([] : List TZone), [], 0), IsL.nil', hf14⟩ ⟨[(0, 0)], [.slot 3 1 2 75], ?_⟩ ?_
  · rfl
  · rintro ⟨⟨N18, v21, l22, c23, n24⟩, hl25, hr17⟩
    obtain ⟨M19, o16, eN20, h, hr17⟩ := loopN_step hr17
    subst eN20
    rw [hp13] at h
    try dsimp only at h ⊢
    cbv
    revert h
    refine st_bin hJ fun v26 ev26 h => ?_
    cbv
    revert h
    refine st_cmp hJ fun b27 eb27 h => ?_
    cbv
    cases b27 with
    | true =>
      replace h := cnd_t h
      cbv
      revert h
      refine st_cmp hJ fun b28 eb28 h => ?_
      cbv
      cases b28 with
      | true =>
        replace h := cnd_t h
        cbv
        have hl29 : IsL eZone [.int .i64 4, .int .i64 0] 1 [(TZone.mk 4 0)] := ⟨rfl, rfl⟩
        refine st_any hJ rfl rfl (by subst hJ; exact (by decide : 2 ≤ 16777216)) ?_
        cbv
        revert h
        refine st_app hJ eZone_len hl25 hl29 fun c31 n32 l30 hl33 h => ?_
        cbv
        revert h
        refine st_bin hJ fun v34 ev34 h => ?_
        cbv
        cases h
        exact ⟨⟨(M19, v34, l30, c31, n32), hl33, hr17⟩, [(0, 0), (17, 1)], 2, [], rfl, Nat.lt_succ_self _⟩
      | false =>
        replace h := cnd_f h
        cbv
        have hl29 : IsL eZone [.int .i64 0, .int .i64 0] 1 [(TZone.mk 0 0)] := ⟨rfl, rfl⟩
        refine st_any hJ rfl rfl (by subst hJ; exact (by decide : 2 ≤ 16777216)) ?_
        cbv
        revert h
        refine st_app hJ eZone_len hl25 hl29 fun c31 n32 l30 hl33 h => ?_
        cbv
        revert h
        refine st_bin hJ fun v34 ev34 h => ?_
        cbv
        cases h
        exact ⟨⟨(M19, v34, l30, c31, n32), hl33, hr17⟩, [(0, 0), (17, 1)], 2, [], rfl, Nat.lt_succ_self _⟩
    | false =>
      replace h := cnd_f h
      cbv
      cases h
      have h := hq15
      obtain rfl := hr17
      try dsimp only at h
      cases h
      obtain ⟨rfl, rfl⟩ := IsL.uniq hl9 hl25
      exact ⟨[], _, _, [(1, 0)], rfl, rfl, rfl, rfl⟩
end Go.AX
