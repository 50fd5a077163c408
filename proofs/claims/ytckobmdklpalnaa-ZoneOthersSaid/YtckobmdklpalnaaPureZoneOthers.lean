/- The plain law of ZoneOthers. -/
import Derived.Test.YtckobmdklpalnaaZlib3
import Derived.Test.YtckobmdklpalnaaP04x25
namespace Go.Proofs.Ytckobmdklpalnaa.Pure
open Go.RowKit Go.Proofs.Ytckobmdklpalnaa.P04 Go.Proofs.YtckobmdklpalnaaW.PrintWords Go.Proofs.YtckobmdklpalnaaW.PrintLast Go.Proofs.YtckobmdklpalnaaW.PrintMore
set_option linter.unusedVariables false
set_option linter.unusedSimpArgs false
theorem others_loop (l m : List S36) (a b : Int) (hlm : m.length = l.length) (hl : l.length ≤ 64) (hsame : ∀ j : Int, 0 ≤ j → j < l.length → j ≠ a → rd_T36 m j = rd_T36 l j) (d : Nat) : ∀ (k : Nat) (i : Int), 0 ≤ i → i ≤ l.length → l.length - i = d → d + 100 < k →
    windrowlaw04_ZoneOthers.l0 k l m i a b = some true := by
  induction d with
  | zero =>
    intro k i h5 h6 hd hk
    obtain ⟨k, rfl⟩ : ∃ m, k = m + 1 := ⟨k - 1, by omega⟩
    simp only [windrowlaw04_ZoneOthers.l0]
    rw [if_neg (by omega)]
    unfold zone_Power.f
    rw [clone_is (l := m) (by omega)]
    simp only [Option.bind_some]
    rw [clone_is (l := m.map powerZ) (by rw [List.length_map]; omega)]
    simp only [Option.bind_some]
    have e : (m.map powerZ).map powerZ = m.map powerZ := by
      rw [List.map_map]
      apply List.map_congr_left
      intro x _
      show powerZ (powerZ x) = powerZ x
      unfold powerZ shutZ
      by_cases e1 : x.f0 = 1
      · rw [if_pos e1]
        by_cases e2 : x.f1 = 0
        · rw [if_pos e2]; rfl
        · rw [if_neg e2]; rfl
      · rw [if_neg e1, if_neg e1]
    rw [e, same_refl _ (by rw [List.length_map]; omega) _ (by rw [List.length_map]; omega)]
    rfl
  | succ d ih =>
    intro k i h5 h6 hd hk
    obtain ⟨k, rfl⟩ : ∃ m, k = m + 1 := ⟨k - 1, by omega⟩
    have hil : i < l.length := by omega
    have next := ih k (i + 1) (by omega) (by omega) (by omega) (by omega)
    simp only [windrowlaw04_ZoneOthers.l0]
    rw [if_pos hil, w64b (i + 1) (by omega) (by omega), next]
    by_cases e : i = a
    · rw [if_pos e]
    · rw [if_neg e, if_pos h5, if_pos (by omega), hsame i h5 hil e, if_neg (by simp)]
theorem ZoneOthers (c s q z o : Int) (l : List S36) (kd a b : Int) (w0 : (Lit.int .i64 c).wf = true ∧ (Lit.int .i64 s).wf = true ∧ (Lit.int .i64 q).wf = true ∧ (Lit.int .i64 z).wf = true ∧ (Lit.int .i64 o).wf = true) (_w1 : ∀ x ∈ l, (Lit.int .i64 x.f0).wf = true ∧ (Lit.int .i64 x.f1).wf = true) (w2 : (Lit.int .u8 kd).wf = true) (_w3 : (Lit.int .i64 a).wf = true ∧ (Lit.int .i64 b).wf = true) :
    ∃ k, windrowlaw04_ZoneOthers.f k c s q z o l kd a b = some true := by
  refine ⟨3002, ?_⟩
  have hc := i64_wf w0.1
  have hq := i64_wf w0.2.2.1
  have hkd := u8_wf w2
  unfold windrowlaw04_ZoneOthers.f
  rw [awake_is _ (by omega), rright c s q z o hc hq _ (by omega)]
  simp only [Option.bind_some, if_true]
  by_cases h : Rt c s q z o
  · have h' := h
    unfold Rt at h'
    rw [if_pos (by simp [h]), rrightZ_is h l _ (by omega)]
    simp only [Option.bind_some, windrowlaw04_ZoneOthers.j0]
    by_cases hr : RtZ c q z o l
    · have hl := step_len h hr (kd % 6) a b (by omega) (by omega)
      have hl2 := hr.1
      rw [if_neg (by simp [hr]), kind6 hkd.1 hkd.2, act_is h hr a b _ (by omega)]
      simp only [Option.bind_some]
      rw [if_pos (by omega)]
      refine others_loop l _ a b hl (by omega) ?_ l.length _ 0 (by omega) (by omega) (by omega) (by omega)
      intro j j0 jl ja
      rcases step_cases h hr (kd % 6) a b (by omega) (by omega) with e | ⟨x, e, ac, al, _⟩ | ⟨e6, _⟩
      · rw [e]
      · rw [e, rd_set_eq (by omega) al j0, if_neg ja]
      · omega
    · rw [if_pos (by simp [hr]), awake_is _ (by omega)]
      rfl
  · rw [if_neg (by simp [h])]
    simp only [windrowlaw04_ZoneOthers.j0, if_true]
    rw [awake_is _ (by omega)]
    rfl
end Go.Proofs.Ytckobmdklpalnaa.Pure
