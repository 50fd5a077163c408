/- The plain law of ZoneFills. -/
import Derived.Test.YtckobmdklpalnaaZlib3
import Derived.Test.YtckobmdklpalnaaP04x14
namespace Go.Proofs.Ytckobmdklpalnaa.Pure
open Go.RowKit Go.Proofs.Ytckobmdklpalnaa.P04 Go.Proofs.YtckobmdklpalnaaW.PrintWords Go.Proofs.YtckobmdklpalnaaW.PrintLast Go.Proofs.YtckobmdklpalnaaW.PrintMore
set_option linter.unusedVariables false
set_option linter.unusedSimpArgs false
theorem fills_loop (c s q z o a : Int) (h : Rt c s q z o) (ha : c ≤ a) (ha2 : a < c + q) (d : Nat) : ∀ (k : Nat) (i : Int) (l : List S36), RtZ c q z o l → (∀ x, l.set a.toNat x = (newZ c q).set a.toNat x) → (rd_T36 l a).f1 = i → ((i = 0 ∧ (rd_T36 l a).f0 = 0 ∧ cnt l = 0) ∨ (i < z ∧ (rd_T36 l a).f0 = 1) ∨ (i = z ∧ (rd_T36 l a).f0 = 3)) → 0 ≤ i → i ≤ z → z - i = d → d + 300 < k →
    windrowlaw04_ZoneFills.l0 k l a i c s q z o = some true := by
  have h' := h
  unfold Rt at h'
  have hga : gsec c s q z a = z := by unfold gsec; rw [if_neg (by omega), if_neg (by omega)]
  induction d with
  | zero =>
    intro k i l hr hset hpt hst h5 h6 hd hk
    obtain ⟨k, rfl⟩ : ∃ m, k = m + 1 := ⟨k - 1, by omega⟩
    have hl := hr.1
    have hst3 : (rd_T36 l a).f0 = 3 := by omega
    simp only [windrowlaw04_ZoneFills.l0]
    rw [if_neg (by omega), w64b (z - 1) (by omega) (by omega), write_is h hr a (z - 1) k (by omega), reset_is h hr a k (by omega)]
    have e1 : wZ c s q z o l a (z - 1) = (l, 3) := by
      unfold wZ
      rw [if_neg (show ¬ ¬ Th c s q z a (z - 1) from fun hh => hh ⟨by omega, by rw [hga]; omega⟩), if_neg (by omega), if_pos hst3]
    have e2 : zZ c s q z l a (l.set a.toNat ⟨0, 0⟩, 0) = (l.set a.toNat ⟨0, 0⟩, 0) := by
      unfold zZ
      rw [if_neg (by omega), if_neg (by omega)]
    rw [e1, e2]
    simp only [Option.bind_some, if_true]
    rw [if_pos (by omega), if_pos (by omega), if_pos hst3, new_is h k (by omega)]
    simp only [Option.bind_some]
    have e3 : l.set a.toNat ⟨0, 0⟩ = newZ c q := by
      rw [hset]
      refine set_same (by omega) (by unfold newZ; simp; omega) ?_
      rw [rd_at (by omega) (by unfold newZ; simp; omega)]
      unfold newZ
      rw [List.getElem_append_right (by simp; omega), List.getElem_replicate]
    have hnl : (newZ c q).length ≤ 64 := by unfold newZ; simp; omega
    rw [e3, same_refl _ (by omega) _ (by omega)]
    rfl
  | succ d ih =>
    intro k i l hr hset hpt hst h5 h6 hd hk
    obtain ⟨k, rfl⟩ : ∃ m, k = m + 1 := ⟨k - 1, by omega⟩
    have hl := hr.1
    have hal : a < l.length := by omega
    have hth : Th c s q z a i := ⟨h5, by rw [hga]; omega⟩
    simp only [windrowlaw04_ZoneFills.l0]
    rw [if_pos (by omega), write_is h hr a i k (by omega)]
    have hr2 := step_right h hr 0 a i (by omega) (by omega)
    have e0 : stepZ c s q z o l 0 a i = wZ c s q z o l a i := rfl
    rw [e0] at hr2
    have e1 : wZ c s q z o l a i = (l.set a.toNat ⟨if i + 1 = z then 3 else 1, i + 1⟩, 0) := by
      unfold wZ
      rw [if_neg (show ¬ ¬ Th c s q z a i from fun hh => hh hth), if_neg (by omega), if_neg (show ¬ (rd_T36 l a).f0 = 3 by omega), if_neg (show ¬ ¬ i = (rd_T36 l a).f1 by omega), if_neg (by omega), hpt]
    rw [e1] at hr2 ⊢
    simp only [Option.bind_some, if_true]
    have hrd : rd_T36 (l.set a.toNat ⟨if i + 1 = z then 3 else 1, i + 1⟩) a = ⟨if i + 1 = z then 3 else 1, i + 1⟩ := rd_set36 hal (by omega)
    have hread := read_is h hr2 a i k (by omega)
    have e2 : rZ c s q z (l.set a.toNat ⟨if i + 1 = z then 3 else 1, i + 1⟩) a i = (l.set a.toNat ⟨if i + 1 = z then 3 else 1, i + 1⟩, 0) := by
      unfold rZ
      rw [if_neg (show ¬ ¬ Th c s q z a i from fun hh => hh hth), if_neg (by omega), hrd]
      show ((l.set a.toNat ⟨if i + 1 = z then 3 else 1, i + 1⟩ : List S36), if i < i + 1 then (0 : Int) else 4) = _
      rw [if_pos (show i < i + 1 by omega)]
    rw [e2] at hread
    obtain ⟨t, ht, h4⟩ := Option.bind_eq_some_iff.1 hread
    simp only [Option.some.injEq, Prod.mk.injEq, true_and] at h4
    subst h4
    rw [ht]
    simp only [Option.bind_some, if_true]
    rw [w64b (i + 1) (by omega) (by omega)]
    refine ih k (i + 1) _ hr2 (fun x => by rw [List.set_set]; exact hset x) (by rw [hrd]) ?_ (by omega) (by omega) (by omega) (by omega)
    rw [hrd]
    by_cases ez : i + 1 = z
    · right; right; exact ⟨ez, by simp [ez]⟩
    · right; left; exact ⟨by omega, by simp [ez]⟩
theorem ZoneFills (c s q z o n : Int) (w0 : (Lit.int .i64 c).wf = true ∧ (Lit.int .i64 s).wf = true ∧ (Lit.int .i64 q).wf = true ∧ (Lit.int .i64 z).wf = true ∧ (Lit.int .i64 o).wf = true) (w1 : (Lit.int .u8 n).wf = true) :
    ∃ k, windrowlaw04_ZoneFills.f k c s q z o n = some true := by
  refine ⟨3002, ?_⟩
  have hc := i64_wf w0.1
  have hq := i64_wf w0.2.2.1
  have hn := u8_wf w1
  unfold windrowlaw04_ZoneFills.f
  rw [awake_is _ (by omega), rright c s q z o hc hq _ (by omega), show (3002 : Nat) = 3001 + 1 from rfl]
  simp only [Option.bind_some, if_true, windrowlaw04_ZoneFills.j0]
  by_cases h : Rt c s q z o
  · have h' := h
    unfold Rt at h'
    have hm0 : 0 ≤ n % q := Int.emod_nonneg _ (by omega)
    have hm1 : n % q < q := Int.emod_lt_of_pos _ (by omega)
    rw [if_neg (by simp [h]), new_is h _ (by omega)]
    simp only [Option.bind_some]
    rw [if_neg (by omega), w64b n (by omega) (by omega), Int.tmod_eq_emod_of_nonneg hn.1, w64b (c + n % q) (by omega) (by omega)]
    have hnl : ((newZ c q).length : Int) = c + q := (new_right h).1
    have hrd : rd_T36 (newZ c q) (c + n % q) = ⟨0, 0⟩ := by
      rw [rd_at (by omega) (by omega)]
      unfold newZ
      rw [List.getElem_append_right (by simp; omega), List.getElem_replicate]
    refine fills_loop c s q z o (c + n % q) h (by omega) (by omega) z.toNat _ 0 _ (new_right h) (fun _ => rfl) (by rw [hrd]) (.inl ⟨rfl, by rw [hrd], ?_⟩) (by omega) (by omega) (by omega) (by omega)
    have : (newZ c q).countP isOpen = 0 := by
      unfold newZ isOpen
      rw [List.countP_append, List.countP_replicate, List.countP_replicate]; simp
    unfold cnt; omega
  · rw [if_pos (by simp [h]), awake_is _ (by omega)]
    rfl
end Go.Proofs.Ytckobmdklpalnaa.Pure
