/- The plain law of ZoneLegal. -/
import Derived.Test.YtckobmdklpalnaaZlib3
import Derived.Test.YtckobmdklpalnaaP04x23
namespace Go.Proofs.Ytckobmdklpalnaa.Pure
open Go.RowKit Go.Proofs.Ytckobmdklpalnaa.P04 Go.Proofs.YtckobmdklpalnaaW.PrintWords Go.Proofs.YtckobmdklpalnaaW.PrintLast Go.Proofs.YtckobmdklpalnaaW.PrintMore
set_option linter.unusedVariables false
set_option linter.unusedSimpArgs false
section
variable (acts : List S46) (l m : List S36) (i kd c s q z o : Int)
theorem legal_inner (hi : 0 ≤ i ∧ i < acts.length) (hlm : m.length = l.length) (hl : l.length ≤ 64) (K0 : Nat)
    (hnext : ∀ k, K0 ≤ k → windrowlaw04_ZoneLegal.l0 k acts m (wrap64 (i + 1)) c s q z o = some true)
    (hby : ∀ j : Int, 0 ≤ j → j < l.length → (rd_T36 m j).f1 = (rd_T36 l j).f1 ∨ (j = (rd_T46 acts i).f1.f0 ∧ ((kd = 0 ∧ (rd_T36 m j).f1 = (rd_T36 l j).f1 + 1) ∨ (kd = 2 ∧ (rd_T36 m j).f1 = 0))))
    (hbd : ∀ j : Int, 0 ≤ j → j < l.length → 0 ≤ (rd_T36 l j).f1 ∧ (rd_T36 l j).f1 ≤ 256) (d : Nat) : ∀ (k : Nat) (j : Int), 0 ≤ j → j ≤ l.length → l.length - j = d → 2 * d + 2 + K0 ≤ k →
    windrowlaw04_ZoneLegal.l1 k acts l i kd m j c s q z o = some true := by
  induction d with
  | zero =>
    intro k j h5 h6 hd hk
    obtain ⟨k, rfl⟩ : ∃ m, k = m + 1 := ⟨k - 1, by omega⟩
    simp only [windrowlaw04_ZoneLegal.l1]
    obtain ⟨k, rfl⟩ : ∃ m, k = m + 1 := ⟨k - 1, by omega⟩
    rw [if_neg (by omega)]
    simp only [windrowlaw04_ZoneLegal.j4]
    rw [if_neg (by simp)]
    exact hnext k (by omega)
  | succ d ih =>
    intro k j h5 h6 hd hk
    obtain ⟨k, rfl⟩ : ∃ m, k = m + 1 := ⟨k - 1, by omega⟩
    simp only [windrowlaw04_ZoneLegal.l1]
    obtain ⟨k, rfl⟩ : ∃ m, k = m + 1 := ⟨k - 1, by omega⟩
    have hjl : j < l.length := by omega
    have next := ih k (j + 1) (by omega) (by omega) (by omega) (by omega)
    have hb := hbd j h5 hjl
    rw [if_pos hjl]
    simp only [windrowlaw04_ZoneLegal.j4]
    rw [if_pos (by simp; omega), if_pos h5, if_pos (by omega), if_pos hjl, w64b (j + 1) (by omega) (by omega), next, if_pos hi.1, if_pos hi.2]
    rcases hby j h5 hjl with e | ⟨ej, ⟨ek, e⟩ | ⟨ek, e⟩⟩
    · rw [e, Int.sub_self, w64b 0 (by omega) (by omega), if_neg (by omega), if_neg (by omega), if_neg (by omega)]
    · rw [e, show (rd_T36 l j).f1 + 1 - (rd_T36 l j).f1 = 1 by omega, w64b 1 (by omega) (by omega), if_neg (by omega), if_pos rfl, if_pos ek, if_pos ej, if_neg (by omega)]
    · rw [e, w64b _ (by omega) (by omega), if_neg (by omega), if_neg (by omega)]
      by_cases en : (0 : Int) - (rd_T36 l j).f1 < 0
      · rw [if_pos en, if_pos ek, if_pos ej, if_pos hi.1, if_pos hi.2]
      · rw [if_neg en]
end
set_option maxRecDepth 20000 in
theorem legal_loop (acts : List S46) (c s q z o : Int) (h : Rt c s q z o) (hn : acts.length ≤ 200) (hk : ∀ x ∈ acts, 0 ≤ x.f0 ∧ x.f0 ≤ 255) (d : Nat) : ∀ (k : Nat) (l : List S36) (i : Int), RtZ c q z o l → 0 ≤ i → i ≤ acts.length → acts.length - i = d → 200 * d + 500 ≤ k →
    windrowlaw04_ZoneLegal.l0 k acts l i c s q z o = some true := by
  have h' := h
  unfold Rt at h'
  induction d with
  | zero =>
    intro k l i hr h5 h6 hd hk
    obtain ⟨k, rfl⟩ : ∃ m, k = m + 1 := ⟨k - 1, by omega⟩
    simp only [windrowlaw04_ZoneLegal.l0]
    rw [if_neg (by omega)]
  | succ d ih =>
    intro k l i hr h5 h6 hd hk'
    obtain ⟨k, rfl⟩ : ∃ m, k = m + 1 := ⟨k - 1, by omega⟩
    have hil : i < acts.length := by omega
    have hx : 0 ≤ (rd_T46 acts i).f0 ∧ (rd_T46 acts i).f0 ≤ 255 := by
      have : rd_T46 acts i ∈ acts := by
        unfold rd_T46
        rw [List.getD_eq_getElem?_getD, List.getElem?_eq_getElem (by omega), Option.getD_some]
        exact List.getElem_mem _
      exact hk _ this
    have hl := hr.1
    simp only [windrowlaw04_ZoneLegal.l0]
    rw [if_pos hil, if_pos h5, kind7 hx.1 hx.2]
    generalize hkd : (rd_T46 acts i).f0 % 7 = kd
    generalize ha : (rd_T46 acts i).f1.f0 = a
    generalize hb : (rd_T46 acts i).f1.f1 = b
    rw [act_is h hr a b _ (by omega)]
    simp only [Option.bind_some]
    have hr2 := step_right h hr kd a b (by omega) (by omega)
    have hl2 := step_len h hr kd a b (by omega) (by omega)
    have hcs := step_cases h hr kd a b (by omega) (by omega)
    rw [right_is h _ _ (by omega)]
    simp only [Option.bind_some]
    rw [if_pos (by simpa using hr2)]
    have tail : ∀ k', k' + 1 = k → windrowlaw04_ZoneLegal.j2 (k' + 1) acts l i kd (stepZ c s q z o l kd a b).1 false c s q z o = some true := by
      intro k' hk2
      simp only [windrowlaw04_ZoneLegal.j2]
      rw [if_neg (by simp)]
      refine legal_inner acts l _ i kd c s q z o ⟨h5, hil⟩ hl2 (by omega) (200 * d + 500) ?_ ?_ ?_ l.length _ 0 (by omega) (by omega) (by omega) (by omega)
      · intro k3 hk3
        rw [w64b (i + 1) (by omega) (by omega)]
        exact ih k3 _ (i + 1) hr2 (by omega) (by omega) (by omega) hk3
      · intro j j0 jl
        rcases hcs with e | ⟨x, e, ac, al, _, _, hp⟩ | ⟨_, e⟩
        · rw [e]; exact .inl rfl
        · rw [e, rd_set_eq (by omega) al j0]
          by_cases ej : j = a
          · rw [if_pos ej]
            rcases hp with ⟨hk0, hp⟩ | ⟨hk2, hp⟩ | hp
            · exact .inr ⟨by rw [ha]; exact ej, .inl ⟨hk0, by rw [hp, ej]⟩⟩
            · exact .inr ⟨by rw [ha]; exact ej, .inr ⟨hk2, hp⟩⟩
            · exact .inl (by rw [hp, ej])
          · rw [if_neg ej]; exact .inl rfl
        · rw [e, power_rd j0 jl]
          have hone := hr.2.2 j j0 jl
          by_cases jc : j < c
          · rw [powerZ_soft (hone.1 jc)]; exact .inl rfl
          · exact .inl (powerZ_ok (hone.2 (by omega))).2.2
      · intro j j0 jl
        have hone := hr.2.2 j j0 jl
        by_cases jc : j < c
        · have := (hone.1 jc).2; omega
        · have := okz_bd (hone.2 (by omega)) (by omega); omega
    obtain ⟨k, rfl⟩ : ∃ m, k = m + 1 := ⟨k - 1, by omega⟩
    by_cases e0 : (stepZ c s q z o l kd a b).2 = 0
    · rw [if_pos e0]
      exact tail k rfl
    · rw [if_neg e0]
      have el : (stepZ c s q z o l kd a b).1 = l := by
        rcases hcs with e | ⟨x, e, _⟩ | ⟨_, e⟩
        · exact e
        · rw [e] at e0; exact absurd rfl e0
        · rw [e] at e0; exact absurd rfl e0
      have ht := tail k rfl
      rw [el] at ht ⊢
      rw [same_refl l (by omega) _ (by omega)]
      exact ht
theorem ZoneLegal (c s q z o : Int) (acts : List S46) (w0 : (Lit.int .i64 c).wf = true ∧ (Lit.int .i64 s).wf = true ∧ (Lit.int .i64 q).wf = true ∧ (Lit.int .i64 z).wf = true ∧ (Lit.int .i64 o).wf = true) (w1 : ∀ x ∈ acts, (Lit.int .u8 x.f0).wf = true ∧ (Lit.int .i64 x.f1.f0).wf = true ∧ (Lit.int .i64 x.f1.f1).wf = true) :
    ∃ k, windrowlaw04_ZoneLegal.f k c s q z o acts = some true := by
  obtain ⟨K, hK⟩ : ∃ K, K = 50001 := ⟨_, rfl⟩
  refine ⟨K + 1, ?_⟩
  have hc := i64_wf w0.1
  have hq := i64_wf w0.2.2.1
  unfold windrowlaw04_ZoneLegal.f
  rw [awake_is _ (by omega), rright c s q z o hc hq _ (by omega)]
  simp only [Option.bind_some, if_true, windrowlaw04_ZoneLegal.j0]
  by_cases h : Rt c s q z o
  · rw [if_pos (by simp [h])]
    by_cases hn : (acts.length : Int) > 200
    · rw [if_pos (by simpa using hn), awake_is _ (by omega)]
      rfl
    · rw [if_neg (by simpa using hn), new_is h _ (by omega)]
      simp only [Option.bind_some]
      exact legal_loop acts c s q z o h (by omega) (fun x hx => u8_wf (w1 x hx).1) acts.length _ _ 0 (new_right h) (by omega) (by omega) (by omega) (by omega)
  · rw [if_neg (by simp [h]), awake_is _ (by omega)]
    rfl
end Go.Proofs.Ytckobmdklpalnaa.Pure
