/- Chapter 4: right zones stay right, whatever is asked; what else each act keeps. -/
import Derived.Test.YtckobmdklpalnaaZlib2
import Derived.Test.YtckobmdklpalnaaP04x9
import Derived.Test.YtckobmdklpalnaaG04c
namespace Go.Proofs.Ytckobmdklpalnaa.Pure
open Go.RowKit Go.Proofs.Ytckobmdklpalnaa.P04 Go.Proofs.YtckobmdklpalnaaW.PrintWords Go.Proofs.YtckobmdklpalnaaW.PrintLast Go.Proofs.YtckobmdklpalnaaW.PrintMore
set_option linter.unusedVariables false
set_option linter.unusedSimpArgs false
theorem cnt_set {l : List S36} {a : Int} (h0 : 0 ≤ a) (h1 : a < l.length) (x : S36) : cnt (l.set a.toNat x) = cnt l - (if (rd_T36 l a).f0 = 1 then 1 else 0) + (if x.f0 = 1 then 1 else 0) := by
  have hp := List.countP_set (p := isOpen) (l := l) (i := a.toNat) (a := x) (by omega)
  have hr := rd_at h0 h1
  have hpos : (if isOpen (l[a.toNat]'(by omega)) = true then 1 else 0) ≤ l.countP isOpen := by
    split
    · rename_i hh; exact List.countP_pos_iff.2 ⟨_, List.getElem_mem _, hh⟩
    · omega
  unfold cnt
  rw [hp, hr]
  unfold isOpen at hpos ⊢
  simp only [beq_iff_eq] at hpos ⊢
  by_cases e : (l[a.toNat]'(by omega)).f0 = 1
  · rw [if_pos e] at hpos
    by_cases e2 : x.f0 = 1
    · simp only [if_pos e, if_pos e2]; omega
    · simp only [if_pos e, if_neg e2]; omega
  · by_cases e2 : x.f0 = 1
    · simp only [if_neg e, if_pos e2]; omega
    · simp only [if_neg e, if_neg e2]; omega
theorem rd_set_eq {l : List S36} {a i : Int} {x : S36} (h0 : 0 ≤ a) (h1 : a < l.length) (hi : 0 ≤ i) : rd_T36 (l.set a.toNat x) i = if i = a then x else rd_T36 l i := by
  by_cases e : i = a
  · subst e; rw [if_pos rfl]; exact rd_set36 h1 h0
  · rw [if_neg e]
    unfold rd_T36
    rw [List.getD_eq_getElem?_getD, List.getD_eq_getElem?_getD, List.getElem?_set_ne (by omega)]
/-- One zone turned. -/
theorem set_right {c q z o : Int} {l : List S36} (hr : RtZ c q z o l) {a : Int} {x : S36} (ha0 : 0 ≤ a) (hac : c ≤ a) (ha1 : a < l.length) (hx : Okz z x) (hc : x.f0 = 1 → (rd_T36 l a).f0 = 1 ∨ cnt l < o) : RtZ c q z o (l.set a.toNat x) := by
  obtain ⟨hlen, hcnt, hall⟩ := hr
  refine ⟨by rw [List.length_set]; exact hlen, ?_, fun i h0 h1 => ?_⟩
  · rw [cnt_set ha0 ha1]
    by_cases e1 : x.f0 = 1
    · rw [if_pos e1]
      rcases hc e1 with h | h
      · rw [if_pos h]; omega
      · split <;> omega
    · rw [if_neg e1]; split <;> omega
  · rw [List.length_set] at h1
    unfold OneR
    rw [rd_set_eq ha0 ha1 h0]
    by_cases e : i = a
    · rw [if_pos e]; exact ⟨fun h => by omega, fun _ => hx⟩
    · rw [if_neg e]; exact hall i h0 h1
theorem power_rd {l : List S36} {i : Int} (h0 : 0 ≤ i) (h1 : i < l.length) : rd_T36 (l.map powerZ) i = powerZ (rd_T36 l i) := by
  rw [rd_at h0 (by rw [List.length_map]; exact h1), rd_at h0 h1, List.getElem_map]
theorem okz_mk {z a b : Int} (h : (a = 0 ∧ b = 0) ∨ (a = 1 ∧ 0 ≤ b ∧ b < z) ∨ (a = 2 ∧ 0 < b ∧ b < z) ∨ (a = 3 ∧ 0 ≤ b ∧ b ≤ z)) : Okz z ⟨a, b⟩ := h
theorem powerZ_ok {z : Int} {x : S36} (h : Okz z x) : Okz z (powerZ x) ∧ ¬ (powerZ x).f0 = 1 ∧ (powerZ x).f1 = x.f1 := by
  unfold powerZ shutZ
  by_cases e : x.f0 = 1
  · rw [if_pos e]
    unfold Okz at h
    by_cases e2 : x.f1 = 0
    · rw [if_pos e2]; exact ⟨okz_mk (by omega), by simp, rfl⟩
    · rw [if_neg e2]; exact ⟨okz_mk (by omega), by simp, rfl⟩
  · rw [if_neg e]; exact ⟨h, e, rfl⟩
theorem powerZ_soft {x : S36} (h : Soft x) : powerZ x = x := by
  unfold powerZ; rw [if_neg (by unfold Soft at h; omega)]
theorem power_right {c q z o : Int} {l : List S36} (hr : RtZ c q z o l) (ho : 0 ≤ o) : RtZ c q z o (l.map powerZ) := by
  obtain ⟨hlen, hcnt, hall⟩ := hr
  refine ⟨by rw [List.length_map]; exact hlen, ?_, fun i h0 h1 => ?_⟩
  · have : (l.map powerZ).countP isOpen = 0 := by
      rw [List.countP_eq_zero]
      intro x hx
      obtain ⟨y, _, rfl⟩ := List.mem_map.1 hx
      unfold isOpen powerZ shutZ
      by_cases e : y.f0 = 1
      · rw [if_pos e]
        by_cases e2 : y.f1 = 0
        · simp [e2]
        · simp [e2]
      · rw [if_neg e]; simpa using e
    unfold cnt; omega
  · rw [List.length_map] at h1
    have := hall i h0 h1
    unfold OneR
    rw [power_rd h0 h1]
    exact ⟨fun h => by rw [powerZ_soft (this.1 h)]; exact this.1 h, fun h => (powerZ_ok (this.2 h)).1⟩
/-- What an act may make: the same zones, or one sequential zone turned into a right one, or the power is gone. -/
theorem step_cases {c s q z o : Int} (h : Rt c s q z o) {l : List S36} (hr : RtZ c q z o l) (kd a b : Int) (hk0 : 0 ≤ kd) (hk6 : kd ≤ 6) :
    ((stepZ c s q z o l kd a b).1 = l) ∨
    (∃ x, (stepZ c s q z o l kd a b) = (l.set a.toNat x, 0) ∧ c ≤ a ∧ a < l.length ∧ Okz z x ∧ (x.f0 = 1 → (rd_T36 l a).f0 = 1 ∨ cnt l < o) ∧
      ((kd = 0 ∧ x.f1 = (rd_T36 l a).f1 + 1) ∨ (kd = 2 ∧ x.f1 = 0) ∨ x.f1 = (rd_T36 l a).f1)) ∨
    (kd = 6 ∧ stepZ c s q z o l kd a b = (l.map powerZ, 0)) := by
  obtain ⟨hlen, hcnt, hall⟩ := hr
  have h' := h
  unfold Rt at h'
  unfold stepZ
  by_cases k0 : kd = 0
  · rw [if_pos k0]
    unfold wZ
    by_cases t : Th c s q z a b
    · rw [if_neg (show ¬ ¬ Th c s q z a b from fun hh => hh t)]
      obtain ⟨a0, a1⟩ := th_in t
      by_cases ac : a < c
      · rw [if_pos ac]; exact .inl rfl
      rw [if_neg ac]
      have ho := (hall a a0 (by omega)).2 (by omega)
      by_cases f3 : (rd_T36 l a).f0 = 3
      · rw [if_pos f3]; exact .inl rfl
      rw [if_neg f3]
      by_cases fb : b = (rd_T36 l a).f1
      · rw [if_neg (show ¬ ¬ b = (rd_T36 l a).f1 from fun hh => hh fb)]
        by_cases fo : ¬ (rd_T36 l a).f0 = 1 ∧ cnt l ≥ o
        · rw [if_pos fo]; exact .inl rfl
        rw [if_neg fo]
        have hg : gsec c s q z a = z := by unfold gsec; rw [if_neg (by omega), if_neg ac]
        have hbz : b < z := by have := t.2; rwa [hg] at this
        refine .inr (.inl ⟨_, rfl, by omega, by omega, ?_, ?_, .inl ⟨k0, rfl⟩⟩)
        · unfold Okz at ho
          by_cases fz : (rd_T36 l a).f1 + 1 = z
          · rw [if_pos fz]; exact okz_mk (by omega)
          · rw [if_neg fz]; exact okz_mk (by omega)
        · intro _; omega
      · rw [if_pos fb]; exact .inl rfl
    · rw [if_pos t]; exact .inl rfl
  rw [if_neg k0]
  by_cases k1 : kd = 1
  · rw [if_pos k1]; unfold rZ
    left
    split
    · rfl
    · split <;> rfl
  rw [if_neg k1]
  have hz : ∀ y : List S36 × Int, (¬ gsec c s q z a = 0 → ¬ a < c → (y.1 = l) ∨ (∃ x, y = (l.set a.toNat x, 0) ∧ c ≤ a ∧ a < l.length ∧ Okz z x ∧ (x.f0 = 1 → (rd_T36 l a).f0 = 1 ∨ cnt l < o) ∧ ((kd = 0 ∧ x.f1 = (rd_T36 l a).f1 + 1) ∨ (kd = 2 ∧ x.f1 = 0) ∨ x.f1 = (rd_T36 l a).f1))) →
      ((zZ c s q z l a y).1 = l) ∨ (∃ x, zZ c s q z l a y = (l.set a.toNat x, 0) ∧ c ≤ a ∧ a < l.length ∧ Okz z x ∧ (x.f0 = 1 → (rd_T36 l a).f0 = 1 ∨ cnt l < o) ∧ ((kd = 0 ∧ x.f1 = (rd_T36 l a).f1 + 1) ∨ (kd = 2 ∧ x.f1 = 0) ∨ x.f1 = (rd_T36 l a).f1)) ∨
      (kd = 6 ∧ zZ c s q z l a y = (l.map powerZ, 0)) := by
    intro y hy
    unfold zZ
    by_cases g : gsec c s q z a = 0
    · rw [if_pos g]; exact .inl rfl
    rw [if_neg g]
    by_cases ac : a < c
    · rw [if_pos ac]; exact .inl rfl
    rw [if_neg ac]
    rcases hy g ac with hh | hh
    · exact .inl hh
    · exact .inr (.inl hh)
  by_cases k2 : kd = 2
  · rw [if_pos k2]
    refine hz _ (fun g ac => .inr ⟨⟨0, 0⟩, rfl, by omega, by have := gsec_in g; omega, by unfold Okz; simp, fun hh => by simp at hh, .inr (.inl ⟨k2, rfl⟩)⟩)
  rw [if_neg k2]
  by_cases k3 : kd = 3
  · rw [if_pos k3]
    refine hz _ (fun g ac => ?_)
    have a01 := gsec_in g
    have ho := (hall a a01.1 (by omega)).2 (by omega)
    unfold finZ
    by_cases f3 : (rd_T36 l a).f0 = 3
    · rw [if_pos f3]; exact .inl rfl
    rw [if_neg f3]
    exact .inr ⟨_, rfl, by omega, by omega, by unfold Okz at ho; exact okz_mk (by omega), fun hh => by simp at hh, .inr (.inr rfl)⟩
  rw [if_neg k3]
  by_cases k4 : kd = 4
  · rw [if_pos k4]
    refine hz _ (fun g ac => ?_)
    have a01 := gsec_in g
    have ho := (hall a a01.1 (by omega)).2 (by omega)
    unfold opnZ
    by_cases f3 : (rd_T36 l a).f0 = 3
    · rw [if_pos f3]; exact .inl rfl
    rw [if_neg f3]
    by_cases f1 : (rd_T36 l a).f0 = 1
    · rw [if_pos f1]; exact .inl rfl
    rw [if_neg f1]
    by_cases fo : cnt l ≥ o
    · rw [if_pos fo]; exact .inl rfl
    rw [if_neg fo]
    exact .inr ⟨_, rfl, by omega, by omega, by unfold Okz at ho; exact okz_mk (by omega), fun _ => by omega, .inr (.inr rfl)⟩
  rw [if_neg k4]
  by_cases k5 : kd = 5
  · rw [if_pos k5]
    refine hz _ (fun g ac => ?_)
    have a01 := gsec_in g
    have ho := (hall a a01.1 (by omega)).2 (by omega)
    unfold clsZ
    by_cases f1 : (rd_T36 l a).f0 = 1
    · rw [if_pos f1]
      refine .inr ⟨_, rfl, by omega, by omega, ?_, fun _ => .inl f1, .inr (.inr rfl)⟩
      have := (powerZ_ok ho).1
      unfold powerZ at this
      rwa [if_pos f1] at this
    · rw [if_neg f1]; exact .inl rfl
  rw [if_neg k5]
  exact .inr (.inr ⟨by omega, rfl⟩)
theorem step_right {c s q z o : Int} (h : Rt c s q z o) {l : List S36} (hr : RtZ c q z o l) (kd a b : Int) (hk0 : 0 ≤ kd) (hk6 : kd ≤ 6) : RtZ c q z o (stepZ c s q z o l kd a b).1 := by
  have h' := h
  unfold Rt at h'
  rcases step_cases h hr kd a b hk0 hk6 with e | ⟨x, e, ac, al, hx, hc, _⟩ | ⟨_, e⟩
  · rw [e]; exact hr
  · rw [e]; exact set_right hr (by omega) ac al hx hc
  · rw [e]; exact power_right hr (by omega)
theorem step_len {c s q z o : Int} (h : Rt c s q z o) {l : List S36} (hr : RtZ c q z o l) (kd a b : Int) (hk0 : 0 ≤ kd) (hk6 : kd ≤ 6) : (stepZ c s q z o l kd a b).1.length = l.length := by
  have h1 := (step_right h hr kd a b hk0 hk6).1
  have h2 := hr.1
  omega
theorem new_right {c s q z o : Int} (h : Rt c s q z o) : RtZ c q z o (newZ c q) := by
  unfold Rt at h
  have hlen : (newZ c q).length = (c + q).toNat := by unfold newZ; simp; omega
  refine ⟨by omega, ?_, fun i h0 h1 => ?_⟩
  · have : (newZ c q).countP isOpen = 0 := by
      unfold newZ isOpen
      rw [List.countP_append, List.countP_replicate, List.countP_replicate]; simp
    unfold cnt; omega
  · unfold OneR
    rw [rd_at h0 h1]
    constructor
    · intro hic
      unfold newZ
      rw [List.getElem_append_left (by simp; omega), List.getElem_replicate]
      exact ⟨rfl, rfl⟩
    · intro hic
      unfold newZ
      rw [List.getElem_append_right (by simp; omega), List.getElem_replicate]
      exact .inl ⟨rfl, rfl⟩
theorem kind7 {x : Int} (h0 : 0 ≤ x) (h1 : x ≤ 255) : wrap64 (Int.tmod x 7) = x % 7 := by
  rw [Int.tmod_eq_emod_of_nonneg h0, w64b _ (by omega) (by omega)]
theorem kind6 {x : Int} (h0 : 0 ≤ x) (h1 : x ≤ 255) : wrap64 (Int.tmod x 6) = x % 6 := by
  rw [Int.tmod_eq_emod_of_nonneg h0, w64b _ (by omega) (by omega)]
theorem u8_wf {x : Int} (h : (Lit.int .u8 x).wf = true) : 0 ≤ x ∧ x ≤ 255 := by
  simp [Lit.wf, IntKind.min, IntKind.max, IntKind.signed, IntKind.bits] at h
  omega
theorem awake_is (k : Nat) (hk : 200 ≤ k) : windrowlaw04_awake.f k = some true := by
  have h : Rt 2 8 6 8 3 := by unfold Rt pag blk; decide
  have hr := new_right h
  have w1 := write_is h hr 2 0 k (by omega)
  have r1 := step_right h hr 0 2 0 (by omega) (by omega)
  have e1 : stepZ 2 8 6 8 3 (newZ 2 6) 0 2 0 = wZ 2 8 6 8 3 (newZ 2 6) 2 0 := rfl
  rw [e1] at r1
  have w2 := write_is h r1 2 1 k (by omega)
  have r2 := step_right h r1 0 2 1 (by omega) (by omega)
  have e2 : stepZ 2 8 6 8 3 (wZ 2 8 6 8 3 (newZ 2 6) 2 0).1 0 2 1 = wZ 2 8 6 8 3 (wZ 2 8 6 8 3 (newZ 2 6) 2 0).1 2 1 := rfl
  rw [e2] at r2
  have w3 := write_is h r2 2 3 k (by omega)
  have w4 := read_is h r2 2 2 k (by omega)
  unfold windrowlaw04_awake.f windrowlaw04_measure.f
  simp only [Option.bind_some]
  rw [new_is h k (by omega)]
  simp only [Option.bind_some]
  rw [w1]
  simp only [Option.bind_some]
  rw [w2]
  simp only [Option.bind_some]
  rw [w3]
  simp only [Option.bind_some]
  have c1 : (wZ 2 8 6 8 3 (newZ 2 6) 2 0).2 = 0 := by decide +kernel
  have c2 : (wZ 2 8 6 8 3 (wZ 2 8 6 8 3 (newZ 2 6) 2 0).1 2 1).2 = 0 := by decide +kernel
  have c3 : (wZ 2 8 6 8 3 (wZ 2 8 6 8 3 (wZ 2 8 6 8 3 (newZ 2 6) 2 0).1 2 1).1 2 3).2 = 4 := by decide +kernel
  have c4 : ((wZ 2 8 6 8 3 (wZ 2 8 6 8 3 (newZ 2 6) 2 0).1 2 1).1.length : Int) = 8 := by decide +kernel
  have c5 : ((rd_T36 (wZ 2 8 6 8 3 (wZ 2 8 6 8 3 (newZ 2 6) 2 0).1 2 1).1 2).f0 == 1 && ((rd_T36 (wZ 2 8 6 8 3 (wZ 2 8 6 8 3 (newZ 2 6) 2 0).1 2 1).1 2).f1 == 2)) = true := by decide +kernel
  rw [if_pos c1, if_pos c2, if_pos c3, if_pos c4, if_pos (by omega), if_pos c5, right_is h _ k (by omega)]
  simp only [Option.bind_some]
  rw [if_pos (by simpa using r2)]
  have e4 : rZ 2 8 6 8 (wZ 2 8 6 8 3 (wZ 2 8 6 8 3 (newZ 2 6) 2 0).1 2 1).1 2 2 = ((wZ 2 8 6 8 3 (wZ 2 8 6 8 3 (newZ 2 6) 2 0).1 2 1).1, 4) := by
    have : (rZ 2 8 6 8 (wZ 2 8 6 8 3 (wZ 2 8 6 8 3 (newZ 2 6) 2 0).1 2 1).1 2 2).2 = 4 := by decide +kernel
    have h2 : (rZ 2 8 6 8 (wZ 2 8 6 8 3 (wZ 2 8 6 8 3 (newZ 2 6) 2 0).1 2 1).1 2 2).1 = (wZ 2 8 6 8 3 (wZ 2 8 6 8 3 (newZ 2 6) 2 0).1 2 1).1 := by unfold rZ; split; rfl; split <;> rfl
    exact Prod.ext h2 this
  rw [e4] at w4
  obtain ⟨t, ht, h4⟩ := Option.bind_eq_some_iff.1 w4
  rw [ht]
  simp only [Option.some.injEq, Prod.mk.injEq, true_and] at h4
  subst h4
  rfl
end Go.Proofs.Ytckobmdklpalnaa.Pure
