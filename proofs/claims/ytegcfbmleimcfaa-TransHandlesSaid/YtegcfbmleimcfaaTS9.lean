/- What functions of the program compute: each is what its Lean function says. -/
import Derived.Test.YtegcfbmleimcfaaTS1
import Derived.Test.YtegcfbmleimcfaaTS6
namespace Go.AX
open Go.Proofs
set_option autoImplicit false
set_option linter.unusedVariables false
set_option maxRecDepth 100000
set_option maxHeartbeats 100000000
set_option linter.unusedSimpArgs false

theorem s31 {v1 : Int} {l2 : List TTrans} {c3 : List D} {n4 : Nat} (hl5 : IsL eTrans c3 n4 l2) {v6 : Int} {l7 : List TTrans} {c8 : List D} {n9 : Nat} (hl10 : IsL eTrans c8 n9 l7) (h : m_trans_all (TLedger.mk v1 l2) = some (TLedger.mk v6 l7)) : Spec Try.prog 31 [.agg [.d (.int .i64 v1), .d (.lst c3 n4)]] ⟨.agg [.d (.int .i64 v6), .own 0 n9 3], [(0, .row c8 3 24)], 1, True⟩ := by
  refine spec_b [] Try.func31 rfl rfl rfl fun J P hJ hP => ?_
  dsimp only [m_trans_all] at h
  cbv
  obtain ⟨l14, h13, h⟩ := bnd h
  obtain ⟨c15, n16, hl17⟩ := nameL eTrans l14
  refine call_by hP (s41 hl5 hl17 h13) hJ rfl rfl ?_
  cbv
  revert h
  refine st_len hJ hl17 fun v18 ev18 h => ?_
  cbv
  obtain ⟨p20, q19, hp21, hf22, hq23⟩ := bnd_loop h
  clear h
  refine LoopB.mk ({x : Nat × Int × (List TTrans) × (List D) × Nat // IsL eTrans x.2.2.2.1 x.2.2.2.2 x.2.2.1 ∧ loopN p20 x.1 (x.2.1, x.2.2.1) = some q19}) (fun x => ⟨[(1, .ptr 0 0), (2, .ptr 1 0), (10, .d (.int .i64 v18)), (11, .d (.int .i64 x.1.2.1))], [(0, .box [.d (.int .i64 v1), .own 2 x.1.2.2.2.2 3]), (1, .box [.d (.int .i64 0), .d .nils]), (2, .row x.1.2.2.2.1 3 24)], 3, 26⟩) (fun x => x.1.1) [1, 2, 10, 11] 3 ⟨(FUEL, 0, l14, c15, n16), hl17, hf22⟩ ⟨[(0, 0), (2, 1), (6, 2)], [], ?_⟩ ?_
  · rfl
  · rintro ⟨⟨N26, v29, l30, c31, n32⟩, hl33, hr25⟩
    obtain ⟨M27, o24, eN28, h, hr25⟩ := loopN_step hr25
    subst eN28
    rw [hp21] at h
    try dsimp only at h ⊢
    cbv
    revert h
    refine st_cmp hJ fun b34 eb34 h => ?_
    cbv
    cases b34 with
    | true =>
      replace h := cnd_t h
      cbv
      revert h
      refine st_idx_pr hJ hl33 fun y35 k36 hy37 ho38 h => ?_
      obtain ⟨v39, v40, l41⟩ := y35
      obtain ⟨c42, n43, hl44⟩ := nameL eWrite l41
      try dsimp only at h
      cbv
      refine st_ld hJ eTrans_len hl33 hy37 ho38 0 (fun hJ => by subst hJ; rfl) ([.int .i64 v39, .int .i64 v40, .lst c42 n43]) (Nat.le_of_ble_eq_true rfl) (by rw [hl44.cs, hl44.n]; rfl) (.int (.int (.slc .nil))) rfl ?_
      cbv
      obtain ⟨⟨v47, v48, l49⟩, h46, h⟩ := bnd h
      obtain ⟨c50, n51, hl52⟩ := nameL eWrite l49
      try dsimp only at h
      refine call_by hP (Spec.frozen (s29 hl44 hl52 h46) rfl) hJ rfl rfl ?_
      cbv
      revert h
      refine st_idx_pr hJ hl33 fun y53 k54 hy55 ho56 h => ?_
      obtain ⟨v57, v58, l59⟩ := y53
      obtain ⟨c60, n61, hl62⟩ := nameL eWrite l59
      try dsimp only at h
      cbv
      revert h
      refine st_st hJ eTrans_len hl33 hy55 ho56 0 (fun hJ => by subst hJ; rfl) rfl (Nat.le_of_ble_eq_true rfl) (TTrans.mk v47 v48 l49) (by rw [hl52.cs, hl52.n]; rfl) fun c64 l63 hl65 h => ?_
      cbv
      refine ⟨fun _ => by kernel_rfl, ?_⟩
      cbv
      revert h
      refine st_bin hJ fun v66 ev66 h => ?_
      cbv
      cases h
      exact ⟨⟨(M27, v66, l63, c64, n32), hl65, hr25⟩, [(0, 0), (1, 1), (2, 2)], 3, [], rfl, Nat.lt_succ_self _⟩
    | false =>
      replace h := cnd_f h
      cbv
      cases h
      have h := hq23
      obtain rfl := hr25
      try dsimp only at h
      cases h
      obtain ⟨rfl, rfl⟩ := IsL.uniq hl10 hl33
      exact ⟨_, .refl _, [], _, _, [(2, 0)], _, rfl, rfl, rfl, rfl, rfl, rfl⟩
theorem s43 {v1 : Int} {v2 : Int} {l3 : List TWrite} {c4 : List D} {n5 : Nat} {v7 : Int} (hl6 : IsL eWrite c4 n5 l3) {v8 : Int}  (h : m_trans_at_1 (TTrans.mk v1 v2 l3) v7 = some v8) : Spec Try.prog 43 [.agg [.d (.int .i64 v1), .d (.int .i64 v2), .d (.lst c4 n5)], .d (.int .i64 v7)] ⟨.d (.int .i64 v8), [], 0, True⟩ := by
  refine spec_b [] Try.func43 rfl rfl rfl fun J P hJ hP => ?_
  dsimp only [m_trans_at_1] at h
  cbv
  obtain ⟨v12, h11, h⟩ := bnd h
  refine call_by hP (s37 h11) hJ rfl rfl ?_
  cbv
  cases h
  exact ⟨_, .refl _, [], _, _, [], _, rfl, rfl, rfl, rfl, rfl, rfl⟩
theorem s36 {v1 : Int} {b2 : Bool} {a3 : Ar 32} {d4 : List D} {v6 : Int} (ha5 : d4 = encL (eI .u8) a3.l) {v7 : Int}  (h : m_trans_place_1 (TWrite.mk v1 b2 a3) v6 = some v7) : Spec Try.prog 36 [.agg [.d (.int .i64 v1), .d (.bool b2), .big 32 d4], .d (.int .i64 v6)] ⟨.d (.int .i64 v7), [], 0, True⟩ := by
  refine spec_b [] Try.func36 rfl rfl rfl fun J P hJ hP => ?_
  dsimp only [m_trans_place_1] at h
  cbv
  obtain ⟨v11, h10, h⟩ := bnd h
  refine call_by hP (s37 h10) hJ rfl rfl ?_
  cbv
  cases h
  exact ⟨_, .refl _, [], _, _, [], _, rfl, rfl, rfl, rfl, rfl, rfl⟩
end Go.AX
