-- Written by a program for this claim: the seat's functions, out of Lean's print of the translation. Lean checks it.
import Derived.Test.YtckobmdklpalnaaP04x0
import Derived.Test.YtckobmdklpalnaaP04x10
namespace Go.Proofs.Ytckobmdklpalnaa.P04
open Go.RowKit Go.Proofs.YtckobmdklpalnaaW.PrintWords Go.Proofs.YtckobmdklpalnaaW.PrintLast Go.Proofs.YtckobmdklpalnaaW.PrintMore
attribute [local go_sem] max2_int min2_int max_two min_two max_three min_three max_four min_four   -- for this text's walks alone
set_option linter.unusedVariables false
set_option linter.unusedSimpArgs false

/-! ### windrowref03_Right: function 9 -/
def windrowref03_Right.j0 : Nat → Bool → Int → Int → Int → Int → Int → Option (Bool)
  | 0, _, _, _, _, _, _ => none
  | k + 1, x28, x158000, x158001, x158002, x158003, x158004 => if x28 = true then (some false) else (if x158003 < 8 then (some false) else (if x158003 > 256 then (some false) else (if x158004 < 3 then (some false) else (if x158001 > 65536 then (some false) else ((windrowref03_Pages.f k x158000 x158001 x158002 x158003 x158004).bind fun t158 => (some (decide (x158001 ≥ (wrap64 (t158 + 3))))))))))
def windrowref03_Right.f (k : Nat) (a0_0 : Int) (a0_1 : Int) (a0_2 : Int) (a0_3 : Int) (a0_4 : Int) : Option (Bool) := if a0_0 < 2 then (windrowref03_Right.j0 k true a0_0 a0_1 a0_2 a0_3 a0_4) else (if a0_0 > 64 then (windrowref03_Right.j0 k true a0_0 a0_1 a0_2 a0_3 a0_4) else (if a0_2 < 6 then (windrowref03_Right.j0 k true a0_0 a0_1 a0_2 a0_3 a0_4) else (if a0_2 > 64 then (windrowref03_Right.j0 k true a0_0 a0_1 a0_2 a0_3 a0_4) else (windrowref03_Right.j0 k (decide ((wrap64 (a0_0 + a0_2)) > 64)) a0_0 a0_1 a0_2 a0_3 a0_4))))
theorem windrowref03_Right.mono_l : ∀ k, (∀ y0 y1 y2 y3 y4 y5, LeO (windrowref03_Right.j0 k y0 y1 y2 y3 y4 y5) (windrowref03_Right.j0 (k + 1) y0 y1 y2 y3 y4 y5))
  | 0 => fun _ _ _ _ _ _ r h => by simp [windrowref03_Right.j0] at h
  | k + 1 => by
    have ih0 := windrowref03_Right.mono_l k
    · intro y0 y1 y2 y3 y4 y5
      unfold windrowref03_Right.j0
      repeat' first
      | (with_reducible exact ih0 _ _ _ _ _ _)
      | (with_reducible exact windrowref03_Pages.mono _ _ _ _ _ _)
      | (with_reducible exact LeO.refl _)
      | (with_reducible exact LeO.none _)
      | (with_reducible refine LeO.ite ?_ ?_)
      | (with_reducible refine LeO.bind ?_ (fun _ => ?_))
      | exact ih0 _ _ _ _ _ _
      | exact windrowref03_Pages.mono _ _ _ _ _ _
      | exact LeO.none _
      | refine LeO.ite ?_ ?_
      | refine LeO.bind ?_ (fun _ => ?_)
theorem windrowref03_Right.mono : ∀ a0 a1 a2 a3 a4 k, LeO (windrowref03_Right.f k a0 a1 a2 a3 a4) (windrowref03_Right.f (k + 1) a0 a1 a2 a3 a4) := by
  intro a0 a1 a2 a3 a4 k
  have ih0 := windrowref03_Right.mono_l k
  unfold windrowref03_Right.f
  repeat' first
      | (with_reducible exact ih0 _ _ _ _ _ _)
      | (with_reducible exact windrowref03_Pages.mono _ _ _ _ _ _)
      | (with_reducible exact LeO.refl _)
      | (with_reducible exact LeO.none _)
      | (with_reducible refine LeO.ite ?_ ?_)
      | (with_reducible refine LeO.bind ?_ (fun _ => ?_))
      | exact ih0 _ _ _ _ _ _
      | exact windrowref03_Pages.mono _ _ _ _ _ _
      | exact LeO.none _
      | refine LeO.ite ?_ ?_
      | refine LeO.bind ?_ (fun _ => ?_)
set_option maxHeartbeats 8000000 in
set_option maxRecDepth 100000 in
theorem windrowref03_Right.calls (k : Nat) (a0_0 : Int) (a0_1 : Int) (a0_2 : Int) (a0_3 : Int) (a0_4 : Int) (r : Bool) (w : World) (h : windrowref03_Right.f k a0_0 a0_1 a0_2 a0_3 a0_4 = some r) :
    Calls Try.prog 9 #[.agg #[.int .i64 a0_0, .int .i64 a0_1, .int .i64 a0_2, .int .i64 a0_3, .int .i64 a0_4]] w fun e w' => e = .returned (.bool r) ∧ Below w.heap.size w w' := by
  have hu23 := Try.underlying23
  have HB := Aside0.mk (Below.refl w.heap.size w)
  have H : (if a0_0 < 2 then (windrowref03_Right.j0 k true a0_0 a0_1 a0_2 a0_3 a0_4) else (if a0_0 > 64 then (windrowref03_Right.j0 k true a0_0 a0_1 a0_2 a0_3 a0_4) else (if a0_2 < 6 then (windrowref03_Right.j0 k true a0_0 a0_1 a0_2 a0_3 a0_4) else (if a0_2 > 64 then (windrowref03_Right.j0 k true a0_0 a0_1 a0_2 a0_3 a0_4) else (windrowref03_Right.j0 k (decide ((wrap64 (a0_0 + a0_2)) > 64)) a0_0 a0_1 a0_2 a0_3 a0_4))))) = some r := h
  clear h
  have HC2 := Aside0.mk H
  clear H
  go_enter Try.func9, Try.ntmps9
  go_upto_region 1 with (first | ((with_reducible refine gate_dst (N := 1) rfl ?_); refine box_event ?hg (N := 1) ?hd (cs := #[.int .i64 a0_0, .int .i64 a0_1, .int .i64 a0_2, .int .i64 a0_3, .int .i64 a0_4]) (t := 23) ?hr ?_; (case hd => rfl); (case hg => rfl); (case hr => first | (go_simp; done) | (go_simp; rfl)); intro gb157 hg w3 hbox hb; have n0_ := Aside0.mk (below_step (by repeat (first | (with_reducible first | exact HB.out | apply below_alloc | apply pw_below_drewN | apply below_drew1) | exact HB.out)) hb); have n1_ := Aside0.mk (hbox); have n2_ := Aside0.mk ((by rw [hg]; exact (below_size (by repeat (first | (with_reducible first | exact HB.out | apply below_alloc | apply pw_below_drewN | apply below_drew1) | exact HB.out))) : w.heap.size ≤ gb157)); have n3_ := Aside0.mk ((by rw [hg]; exact (below_size (by repeat (first | (with_reducible first | exact HB.out | apply below_alloc | apply pw_below_drewN | apply below_drew1) | exact HB.out))) : w.heap.size ≤ gb157)); clear HB; have HB := n0_; have BK157 := n1_; have GW157 := n2_; have GE157 := n3_; clear n0_ n1_ n2_ n3_; clear hb hbox hg))
  (try simp only [Act.put, List.setIfInBounds_toArray, List.set_cons_zero, List.set_cons_succ])
  go_cut [28] (fun v28 wc => ∃ (kq : Nat) (x28_1 : Bool), v28 = .bool x28_1 ∧ Aside0 (windrowref03_Right.j0 kq x28_1 a0_0 a0_1 a0_2 a0_3 a0_4 = some r) ∧ Aside0 (kq ≤ k) ∧ Aside0 (wc.heap[gb157]? = some (.cells #[.int .i64 a0_0, .int .i64 a0_1, .int .i64 a0_2, .int .i64 a0_3, .int .i64 a0_4] 23 (0, 0))) ∧ Aside0 (Below w.heap.size w wc))
  case first =>
    have H := HC2.out
    clear HC2
    by_cases c4 : a0_0 < 2
    · rw [if_pos c4] at H
      have c4b0 : decide (a0_0 < 2) = true := decide_eq_true c4
      clear c4
      (first | rw [c4b0] | (simp only [i64_w, i32_w]; rw [c4b0]) | skip)
      have H' := Aside0.mk H
      clear H
      have hcz5_0 : w3.cell? ⟨gb157, 0, none⟩ = some (.int .i64 a0_0) := (blk_cell BK157.out 0).trans rfl
      have hcz5_1 : w3.cell? ⟨gb157, 1, none⟩ = some (.int .i64 a0_1) := (blk_cell BK157.out 1).trans rfl
      have hcz5_2 : w3.cell? ⟨gb157, 2, none⟩ = some (.int .i64 a0_2) := (blk_cell BK157.out 2).trans rfl
      have hcz5_3 : w3.cell? ⟨gb157, 3, none⟩ = some (.int .i64 a0_3) := (blk_cell BK157.out 3).trans rfl
      have hcz5_4 : w3.cell? ⟨gb157, 4, none⟩ = some (.int .i64 a0_4) := (blk_cell BK157.out 4).trans rfl
      have hfz5_0 := blk_frozen BK157.out 0
      have hfz5_1 := blk_frozen BK157.out 1
      have hfz5_2 := blk_frozen BK157.out 2
      have hfz5_3 := blk_frozen BK157.out 3
      have hfz5_4 := blk_frozen BK157.out 4
      go_wp2
      go_meet
      case rel => exact ⟨_, (true), (by first | rfl | (simp; done) | (simp [*]; done)), H', ⟨by first | omega | exact Nat.le_refl _⟩, ⟨by (with_reducible repeat (first | refine blk_drewN ?_ _ | refine blk_drew ?_ | refine blk_alloc ?_ _)); exact BK157.out⟩, ⟨by repeat (first | (with_reducible first | exact HB.out | apply below_alloc | apply pw_below_drewN | apply below_drew1 | refine below_set ?_ GE157.out) | exact HB.out)⟩⟩
    · rw [if_neg c4] at H
      have c4b0 : decide (a0_0 < 2) = false := decide_eq_false c4
      clear c4
      (first | rw [c4b0] | (simp only [i64_w, i32_w]; rw [c4b0]) | skip)
      by_cases c6 : a0_0 > 64
      · rw [if_pos c6] at H
        have c6b0 : decide (64 < a0_0) = true := decide_eq_true c6
        clear c6
        have H' := Aside0.mk H
        clear H
        have hcz7_0 : w3.cell? ⟨gb157, 0, none⟩ = some (.int .i64 a0_0) := (blk_cell BK157.out 0).trans rfl
        have hcz7_1 : w3.cell? ⟨gb157, 1, none⟩ = some (.int .i64 a0_1) := (blk_cell BK157.out 1).trans rfl
        have hcz7_2 : w3.cell? ⟨gb157, 2, none⟩ = some (.int .i64 a0_2) := (blk_cell BK157.out 2).trans rfl
        have hcz7_3 : w3.cell? ⟨gb157, 3, none⟩ = some (.int .i64 a0_3) := (blk_cell BK157.out 3).trans rfl
        have hcz7_4 : w3.cell? ⟨gb157, 4, none⟩ = some (.int .i64 a0_4) := (blk_cell BK157.out 4).trans rfl
        have hfz7_0 := blk_frozen BK157.out 0
        have hfz7_1 := blk_frozen BK157.out 1
        have hfz7_2 := blk_frozen BK157.out 2
        have hfz7_3 := blk_frozen BK157.out 3
        have hfz7_4 := blk_frozen BK157.out 4
        go_wp2
        go_meet
        case rel => exact ⟨_, (true), (by first | rfl | (simp; done) | (simp [*]; done)), H', ⟨by first | omega | exact Nat.le_refl _⟩, ⟨by (with_reducible repeat (first | refine blk_drewN ?_ _ | refine blk_drew ?_ | refine blk_alloc ?_ _)); exact BK157.out⟩, ⟨by repeat (first | (with_reducible first | exact HB.out | apply below_alloc | apply pw_below_drewN | apply below_drew1 | refine below_set ?_ GE157.out) | exact HB.out)⟩⟩
      · rw [if_neg c6] at H
        have c6b0 : decide (64 < a0_0) = false := decide_eq_false c6
        clear c6
        by_cases c8 : a0_2 < 6
        · rw [if_pos c8] at H
          have c8b0 : decide (a0_2 < 6) = true := decide_eq_true c8
          clear c8
          have H' := Aside0.mk H
          clear H
          have hcz9_0 : w3.cell? ⟨gb157, 0, none⟩ = some (.int .i64 a0_0) := (blk_cell BK157.out 0).trans rfl
          have hcz9_1 : w3.cell? ⟨gb157, 1, none⟩ = some (.int .i64 a0_1) := (blk_cell BK157.out 1).trans rfl
          have hcz9_2 : w3.cell? ⟨gb157, 2, none⟩ = some (.int .i64 a0_2) := (blk_cell BK157.out 2).trans rfl
          have hcz9_3 : w3.cell? ⟨gb157, 3, none⟩ = some (.int .i64 a0_3) := (blk_cell BK157.out 3).trans rfl
          have hcz9_4 : w3.cell? ⟨gb157, 4, none⟩ = some (.int .i64 a0_4) := (blk_cell BK157.out 4).trans rfl
          have hfz9_0 := blk_frozen BK157.out 0
          have hfz9_1 := blk_frozen BK157.out 1
          have hfz9_2 := blk_frozen BK157.out 2
          have hfz9_3 := blk_frozen BK157.out 3
          have hfz9_4 := blk_frozen BK157.out 4
          go_wp2
          go_meet
          case rel => exact ⟨_, (true), (by first | rfl | (simp; done) | (simp [*]; done)), H', ⟨by first | omega | exact Nat.le_refl _⟩, ⟨by (with_reducible repeat (first | refine blk_drewN ?_ _ | refine blk_drew ?_ | refine blk_alloc ?_ _)); exact BK157.out⟩, ⟨by repeat (first | (with_reducible first | exact HB.out | apply below_alloc | apply pw_below_drewN | apply below_drew1 | refine below_set ?_ GE157.out) | exact HB.out)⟩⟩
        · rw [if_neg c8] at H
          have c8b0 : decide (a0_2 < 6) = false := decide_eq_false c8
          clear c8
          by_cases c10 : a0_2 > 64
          · rw [if_pos c10] at H
            have c10b0 : decide (64 < a0_2) = true := decide_eq_true c10
            clear c10
            have H' := Aside0.mk H
            clear H
            have hcz11_0 : w3.cell? ⟨gb157, 0, none⟩ = some (.int .i64 a0_0) := (blk_cell BK157.out 0).trans rfl
            have hcz11_1 : w3.cell? ⟨gb157, 1, none⟩ = some (.int .i64 a0_1) := (blk_cell BK157.out 1).trans rfl
            have hcz11_2 : w3.cell? ⟨gb157, 2, none⟩ = some (.int .i64 a0_2) := (blk_cell BK157.out 2).trans rfl
            have hcz11_3 : w3.cell? ⟨gb157, 3, none⟩ = some (.int .i64 a0_3) := (blk_cell BK157.out 3).trans rfl
            have hcz11_4 : w3.cell? ⟨gb157, 4, none⟩ = some (.int .i64 a0_4) := (blk_cell BK157.out 4).trans rfl
            have hfz11_0 := blk_frozen BK157.out 0
            have hfz11_1 := blk_frozen BK157.out 1
            have hfz11_2 := blk_frozen BK157.out 2
            have hfz11_3 := blk_frozen BK157.out 3
            have hfz11_4 := blk_frozen BK157.out 4
            go_wp2
            go_meet
            case rel => exact ⟨_, (true), (by first | rfl | (simp; done) | (simp [*]; done)), H', ⟨by first | omega | exact Nat.le_refl _⟩, ⟨by (with_reducible repeat (first | refine blk_drewN ?_ _ | refine blk_drew ?_ | refine blk_alloc ?_ _)); exact BK157.out⟩, ⟨by repeat (first | (with_reducible first | exact HB.out | apply below_alloc | apply pw_below_drewN | apply below_drew1 | refine below_set ?_ GE157.out) | exact HB.out)⟩⟩
          · rw [if_neg c10] at H
            have c10b0 : decide (64 < a0_2) = false := decide_eq_false c10
            clear c10
            have H' := Aside0.mk H
            clear H
            have hcz12_0 : w3.cell? ⟨gb157, 0, none⟩ = some (.int .i64 a0_0) := (blk_cell BK157.out 0).trans rfl
            have hcz12_1 : w3.cell? ⟨gb157, 1, none⟩ = some (.int .i64 a0_1) := (blk_cell BK157.out 1).trans rfl
            have hcz12_2 : w3.cell? ⟨gb157, 2, none⟩ = some (.int .i64 a0_2) := (blk_cell BK157.out 2).trans rfl
            have hcz12_3 : w3.cell? ⟨gb157, 3, none⟩ = some (.int .i64 a0_3) := (blk_cell BK157.out 3).trans rfl
            have hcz12_4 : w3.cell? ⟨gb157, 4, none⟩ = some (.int .i64 a0_4) := (blk_cell BK157.out 4).trans rfl
            have hfz12_0 := blk_frozen BK157.out 0
            have hfz12_1 := blk_frozen BK157.out 1
            have hfz12_2 := blk_frozen BK157.out 2
            have hfz12_3 := blk_frozen BK157.out 3
            have hfz12_4 := blk_frozen BK157.out 4
            go_wp2
            go_meet
            case rel => exact ⟨_, (decide ((wrap64 (a0_0 + a0_2)) > 64)), (by first | rfl | (simp; done) | (simp [*]; done)), H', ⟨by first | omega | exact Nat.le_refl _⟩, ⟨by (with_reducible repeat (first | refine blk_drewN ?_ _ | refine blk_drew ?_ | refine blk_alloc ?_ _)); exact BK157.out⟩, ⟨by repeat (first | (with_reducible first | exact HB.out | apply below_alloc | apply pw_below_drewN | apply below_drew1 | refine below_set ?_ GE157.out) | exact HB.out)⟩⟩
  case rest =>
    clear HC2
    try clear c1
    try clear p2
    try clear c4
    try clear c4b0
    try clear c6
    try clear c6b0
    try clear p6
    try clear c8
    try clear c8b0
    try clear c9
    try clear c10
    try clear c10b0
    try clear hcz11_0
    try clear hcz11_1
    try clear hcz11_2
    try clear hcz11_3
    try clear hcz11_4
    try clear hcz12_0
    try clear hcz12_1
    try clear hcz12_2
    try clear hcz12_3
    try clear hcz12_4
    try clear hcz5_0
    try clear hcz5_1
    try clear hcz5_2
    try clear hcz5_3
    try clear hcz5_4
    try clear hcz7_0
    try clear hcz7_1
    try clear hcz7_2
    try clear hcz7_3
    try clear hcz7_4
    try clear hcz9_0
    try clear hcz9_1
    try clear hcz9_2
    try clear hcz9_3
    try clear hcz9_4
    try clear hfz11_0
    try clear hfz11_1
    try clear hfz11_2
    try clear hfz11_3
    try clear hfz11_4
    try clear hfz12_0
    try clear hfz12_1
    try clear hfz12_2
    try clear hfz12_3
    try clear hfz12_4
    try clear hfz5_0
    try clear hfz5_1
    try clear hfz5_2
    try clear hfz5_3
    try clear hfz5_4
    try clear hfz7_0
    try clear hfz7_1
    try clear hfz7_2
    try clear hfz7_3
    try clear hfz7_4
    try clear hfz9_0
    try clear hfz9_1
    try clear hfz9_2
    try clear hfz9_3
    try clear hfz9_4
    obtain ⟨kq, x28_1, rfl, HA, HJ1, BK157, HB⟩ := hcut
    cases kq with
    | zero => exact absurd HA.out (by simp [windrowref03_Right.j0])
    | succ kj1 =>
      have H := HA.out
      clear HA
      simp only [windrowref03_Right.j0] at H
      by_cases c13 : x28_1 = true
      · subst c13
        have H1 : (some false) = some r := by rw [if_pos rfl] at H; exact H
        clear H
        have H := H1
        clear H1
        obtain rfl := Option.some.inj H
        go_wp2
        go_ret
        exact ⟨by first | rfl | (simp [errW_none, errW_some] <;> rfl) | (simp [*, errW_none, errW_some] <;> rfl), by repeat (first | (with_reducible first | exact HB.out | apply below_alloc | apply pw_below_drewN | apply below_drew1 | refine below_set ?_ GE157.out) | exact HB.out)⟩
      · replace c13 := Bool.eq_false_iff.mpr c13
        subst c13
        have H1 : (if a0_3 < 8 then (some false) else (if a0_3 > 256 then (some false) else (if a0_4 < 3 then (some false) else (if a0_1 > 65536 then (some false) else ((windrowref03_Pages.f kj1 a0_0 a0_1 a0_2 a0_3 a0_4).bind fun t158 => (some (decide (a0_1 ≥ (wrap64 (t158 + 3)))))))))) = some r := by rw [if_neg (show ¬ (false = true) by decide)] at H; exact H
        clear H
        have H := H1
        clear H1
        by_cases c14 : a0_3 < 8
        · rw [if_pos c14] at H
          have c14b0 : decide (a0_3 < 8) = true := decide_eq_true c14
          clear c14
          obtain rfl := Option.some.inj H
          have hcz15_0 : wc.cell? ⟨gb157, 0, none⟩ = some (.int .i64 a0_0) := (blk_cell BK157.out 0).trans rfl
          have hcz15_1 : wc.cell? ⟨gb157, 1, none⟩ = some (.int .i64 a0_1) := (blk_cell BK157.out 1).trans rfl
          have hcz15_2 : wc.cell? ⟨gb157, 2, none⟩ = some (.int .i64 a0_2) := (blk_cell BK157.out 2).trans rfl
          have hcz15_3 : wc.cell? ⟨gb157, 3, none⟩ = some (.int .i64 a0_3) := (blk_cell BK157.out 3).trans rfl
          have hcz15_4 : wc.cell? ⟨gb157, 4, none⟩ = some (.int .i64 a0_4) := (blk_cell BK157.out 4).trans rfl
          have hfz15_0 := blk_frozen BK157.out 0
          have hfz15_1 := blk_frozen BK157.out 1
          have hfz15_2 := blk_frozen BK157.out 2
          have hfz15_3 := blk_frozen BK157.out 3
          have hfz15_4 := blk_frozen BK157.out 4
          go_wp2
          go_ret
          exact ⟨by first | rfl | (simp [errW_none, errW_some] <;> rfl) | (simp [*, errW_none, errW_some] <;> rfl), by repeat (first | (with_reducible first | exact HB.out | apply below_alloc | apply pw_below_drewN | apply below_drew1 | refine below_set ?_ GE157.out) | exact HB.out)⟩
        · rw [if_neg c14] at H
          have c14b0 : decide (a0_3 < 8) = false := decide_eq_false c14
          clear c14
          by_cases c16 : a0_3 > 256
          · rw [if_pos c16] at H
            have c16b0 : decide (256 < a0_3) = true := decide_eq_true c16
            clear c16
            obtain rfl := Option.some.inj H
            have hcz17_0 : wc.cell? ⟨gb157, 0, none⟩ = some (.int .i64 a0_0) := (blk_cell BK157.out 0).trans rfl
            have hcz17_1 : wc.cell? ⟨gb157, 1, none⟩ = some (.int .i64 a0_1) := (blk_cell BK157.out 1).trans rfl
            have hcz17_2 : wc.cell? ⟨gb157, 2, none⟩ = some (.int .i64 a0_2) := (blk_cell BK157.out 2).trans rfl
            have hcz17_3 : wc.cell? ⟨gb157, 3, none⟩ = some (.int .i64 a0_3) := (blk_cell BK157.out 3).trans rfl
            have hcz17_4 : wc.cell? ⟨gb157, 4, none⟩ = some (.int .i64 a0_4) := (blk_cell BK157.out 4).trans rfl
            have hfz17_0 := blk_frozen BK157.out 0
            have hfz17_1 := blk_frozen BK157.out 1
            have hfz17_2 := blk_frozen BK157.out 2
            have hfz17_3 := blk_frozen BK157.out 3
            have hfz17_4 := blk_frozen BK157.out 4
            go_wp2
            go_ret
            exact ⟨by first | rfl | (simp [errW_none, errW_some] <;> rfl) | (simp [*, errW_none, errW_some] <;> rfl), by repeat (first | (with_reducible first | exact HB.out | apply below_alloc | apply pw_below_drewN | apply below_drew1 | refine below_set ?_ GE157.out) | exact HB.out)⟩
          · rw [if_neg c16] at H
            have c16b0 : decide (256 < a0_3) = false := decide_eq_false c16
            clear c16
            by_cases c18 : a0_4 < 3
            · rw [if_pos c18] at H
              have c18b0 : decide (a0_4 < 3) = true := decide_eq_true c18
              clear c18
              obtain rfl := Option.some.inj H
              have hcz19_0 : wc.cell? ⟨gb157, 0, none⟩ = some (.int .i64 a0_0) := (blk_cell BK157.out 0).trans rfl
              have hcz19_1 : wc.cell? ⟨gb157, 1, none⟩ = some (.int .i64 a0_1) := (blk_cell BK157.out 1).trans rfl
              have hcz19_2 : wc.cell? ⟨gb157, 2, none⟩ = some (.int .i64 a0_2) := (blk_cell BK157.out 2).trans rfl
              have hcz19_3 : wc.cell? ⟨gb157, 3, none⟩ = some (.int .i64 a0_3) := (blk_cell BK157.out 3).trans rfl
              have hcz19_4 : wc.cell? ⟨gb157, 4, none⟩ = some (.int .i64 a0_4) := (blk_cell BK157.out 4).trans rfl
              have hfz19_0 := blk_frozen BK157.out 0
              have hfz19_1 := blk_frozen BK157.out 1
              have hfz19_2 := blk_frozen BK157.out 2
              have hfz19_3 := blk_frozen BK157.out 3
              have hfz19_4 := blk_frozen BK157.out 4
              go_wp2
              go_ret
              exact ⟨by first | rfl | (simp [errW_none, errW_some] <;> rfl) | (simp [*, errW_none, errW_some] <;> rfl), by repeat (first | (with_reducible first | exact HB.out | apply below_alloc | apply pw_below_drewN | apply below_drew1 | refine below_set ?_ GE157.out) | exact HB.out)⟩
            · rw [if_neg c18] at H
              have c18b0 : decide (a0_4 < 3) = false := decide_eq_false c18
              clear c18
              by_cases c20 : a0_1 > 65536
              · rw [if_pos c20] at H
                have c20b0 : decide (65536 < a0_1) = true := decide_eq_true c20
                clear c20
                obtain rfl := Option.some.inj H
                have hcz21_0 : wc.cell? ⟨gb157, 0, none⟩ = some (.int .i64 a0_0) := (blk_cell BK157.out 0).trans rfl
                have hcz21_1 : wc.cell? ⟨gb157, 1, none⟩ = some (.int .i64 a0_1) := (blk_cell BK157.out 1).trans rfl
                have hcz21_2 : wc.cell? ⟨gb157, 2, none⟩ = some (.int .i64 a0_2) := (blk_cell BK157.out 2).trans rfl
                have hcz21_3 : wc.cell? ⟨gb157, 3, none⟩ = some (.int .i64 a0_3) := (blk_cell BK157.out 3).trans rfl
                have hcz21_4 : wc.cell? ⟨gb157, 4, none⟩ = some (.int .i64 a0_4) := (blk_cell BK157.out 4).trans rfl
                have hfz21_0 := blk_frozen BK157.out 0
                have hfz21_1 := blk_frozen BK157.out 1
                have hfz21_2 := blk_frozen BK157.out 2
                have hfz21_3 := blk_frozen BK157.out 3
                have hfz21_4 := blk_frozen BK157.out 4
                go_wp2
                go_ret
                exact ⟨by first | rfl | (simp [errW_none, errW_some] <;> rfl) | (simp [*, errW_none, errW_some] <;> rfl), by repeat (first | (with_reducible first | exact HB.out | apply below_alloc | apply pw_below_drewN | apply below_drew1 | refine below_set ?_ GE157.out) | exact HB.out)⟩
              · rw [if_neg c20] at H
                have c20b0 : decide (65536 < a0_1) = false := decide_eq_false c20
                clear c20
                replace H := Option.bind_eq_some_iff.mp H
                obtain ⟨t158, A220, H⟩ := H
                replace H : (some (decide (a0_1 ≥ (wrap64 (t158 + 3))))) = some r := H
                have A22 := Aside0.mk A220
                clear A220
                obtain rfl := Option.some.inj H
                have hcz23_0 : wc.cell? ⟨gb157, 0, none⟩ = some (.int .i64 a0_0) := (blk_cell BK157.out 0).trans rfl
                have hcz23_1 : wc.cell? ⟨gb157, 1, none⟩ = some (.int .i64 a0_1) := (blk_cell BK157.out 1).trans rfl
                have hcz23_2 : wc.cell? ⟨gb157, 2, none⟩ = some (.int .i64 a0_2) := (blk_cell BK157.out 2).trans rfl
                have hcz23_3 : wc.cell? ⟨gb157, 3, none⟩ = some (.int .i64 a0_3) := (blk_cell BK157.out 3).trans rfl
                have hcz23_4 : wc.cell? ⟨gb157, 4, none⟩ = some (.int .i64 a0_4) := (blk_cell BK157.out 4).trans rfl
                have hfz23_0 := blk_frozen BK157.out 0
                have hfz23_1 := blk_frozen BK157.out 1
                have hfz23_2 := blk_frozen BK157.out 2
                have hfz23_3 := blk_frozen BK157.out 3
                have hfz23_4 := blk_frozen BK157.out 4
                try go_wp2
                have n0_ := Aside0.mk (blk_drew BK157.out)
                have n1_ := Aside0.mk (below_drew1 HB.out)
                clear BK157
                clear HB
                have BK157 := n0_
                have HB := n1_
                clear n0_ n1_
                refine start_ (n := 7) (S := fun w' => w'.cell? ⟨gb157, 0, none⟩ = some (.int .i64 a0_0) ∧ w'.cell? ⟨gb157, 1, none⟩ = some (.int .i64 a0_1) ∧ w'.cell? ⟨gb157, 2, none⟩ = some (.int .i64 a0_2) ∧ w'.cell? ⟨gb157, 3, none⟩ = some (.int .i64 a0_3) ∧ w'.cell? ⟨gb157, 4, none⟩ = some (.int .i64 a0_4)) (ds := []) #[false, false, false, false, false, false, false] (by kernel_rfl) rfl rfl ⟨(blk_cell BK157.out 0).trans rfl, (blk_cell BK157.out 1).trans rfl, (blk_cell BK157.out 2).trans rfl, (blk_cell BK157.out 3).trans rfl, (blk_cell BK157.out 4).trans rfl⟩ (fun hHeld => ?_)
                generalize wc.drew = w24 at BK157 HB hHeld ⊢
                refine pure_ (i := 0) (N := some 47) (v := ?_) (a' := ?_) #[true, false, false, false, false, false, false] rfl rfl (by kernel_rfl) (fun _ _ _ h => h) (Or.inl ⟨by rfl, ?_⟩) ?_ ?_
                rotate_left
                · intro w'
                  go_simp
                  with_reducible rfl
                rotate_left
                · simp only [Act.put, List.setIfInBounds_toArray, List.set_cons_zero, List.set_cons_succ, i64_w, i32_w]
                  rfl
                refine take_ (i := 1) (N := some 48) (v := ?_) (a' := ?_) #[true, true, false, false, false, false, false] rfl rfl (by kernel_rfl) (fun _ _ _ h => h) (Or.inl ⟨by rfl, ?_⟩) hHeld ?_ ?_
                rotate_left
                · rintro w' ⟨s0, s1, s2, s3, s4⟩
                  go_simp
                  with_reducible rfl
                rotate_left
                · simp only [Act.put, List.setIfInBounds_toArray, List.set_cons_zero, List.set_cons_succ, i64_w, i32_w]
                  rfl
                refine take_ (i := 2) (N := some 49) (v := ?_) (a' := ?_) #[true, true, true, false, false, false, false] rfl rfl (by kernel_rfl) (fun _ _ _ h => h) (Or.inl ⟨by rfl, ?_⟩) hHeld ?_ ?_
                rotate_left
                · rintro w' ⟨s0, s1, s2, s3, s4⟩
                  go_simp
                  with_reducible rfl
                rotate_left
                · simp only [Act.put, List.setIfInBounds_toArray, List.set_cons_zero, List.set_cons_succ, i64_w, i32_w]
                  rfl
                refine one_ (i := 3) (N := some 50) #[true, true, true, true, false, false, false] rfl rfl (by kernel_rfl) (by decide) (fun K hK => ?_)
                refine goes_ Try.func22 (by kernel_rfl) rfl #[.agg #[.int .i64 a0_0, .int .i64 a0_1, .int .i64 a0_2, .int .i64 a0_3, .int .i64 a0_4]] (by rfl) rfl rfl (by (try simp only [List.map_toArray, List.map_cons, List.map_nil]); first | done | rfl | (simp only [List.length_drop, List.length_take]; rfl)) ?_
                with_reducible refine (windrowref03_Pages.calls kj1 a0_0 a0_1 a0_2 a0_3 a0_4 t158 _ A22.out).mono ?_
                rintro e w25 ⟨rfl, hb⟩
                refine ⟨_, rfl, ?_⟩
                have n0_ := Aside0.mk (blk_below (g := gb157) (o := .cells #[.int .i64 a0_0, .int .i64 a0_1, .int .i64 a0_2, .int .i64 a0_3, .int .i64 a0_4] 23 (0, 0)) (by (with_reducible repeat (first | refine blk_drewN ?_ _ | refine blk_drew ?_ | refine blk_alloc ?_ _)); exact BK157.out) hb)
                have n1_ := Aside0.mk (below_step (by repeat (first | (with_reducible first | exact HB.out | apply below_alloc | apply pw_below_drewN | apply below_drew1 | refine below_set ?_ GE157.out) | exact HB.out)) hb)
                clear BK157
                clear HB
                have BK157 := n0_
                have HB := n1_
                clear n0_ n1_
                (try clear hb)
                (try clear hb2)
                (try clear hk)
                (try clear hi)
                refine hK.out _ _ ⟨(blk_cell BK157.out 0).trans rfl, (blk_cell BK157.out 1).trans rfl, (blk_cell BK157.out 2).trans rfl, (blk_cell BK157.out 3).trans rfl, (blk_cell BK157.out 4).trans rfl⟩ (fun hHeld => ?_)
                clear hK K
                refine norm_ (a' := ?_) ?_ ?_
                rotate_left
                · show Act.put _ (some 50) _ = _
                  simp only [Act.put, List.setIfInBounds_toArray, List.set_cons_zero, List.set_cons_succ, i64_w, i32_w]
                  rfl
                refine pure_ (i := 4) (N := some 51) (v := ?_) (a' := ?_) #[true, true, true, true, true, false, false] rfl rfl (by kernel_rfl) (fun _ _ _ h => h) (Or.inl ⟨by rfl, ?_⟩) ?_ ?_
                rotate_left
                · intro w'
                  go_simp
                  with_reducible rfl
                rotate_left
                · simp only [Act.put, List.setIfInBounds_toArray, List.set_cons_zero, List.set_cons_succ, i64_w, i32_w]
                  rfl
                refine pure_ (i := 5) (N := some 52) (v := ?_) (a' := ?_) #[true, true, true, true, true, true, false] rfl rfl (by kernel_rfl) (fun _ _ _ h => h) (Or.inl ⟨by rfl, ?_⟩) ?_ ?_
                rotate_left
                · intro w'
                  go_simp
                  with_reducible rfl
                rotate_left
                · simp only [Act.put, List.setIfInBounds_toArray, List.set_cons_zero, List.set_cons_succ, i64_w, i32_w]
                  rfl
                refine pure_ (i := 6) (N := some 2) (v := ?_) (a' := ?_) #[true, true, true, true, true, true, true] rfl rfl (by kernel_rfl) (fun _ _ _ h => h) (Or.inl ⟨by rfl, ?_⟩) ?_ ?_
                rotate_left
                · intro w'
                  go_simp
                  with_reducible rfl
                rotate_left
                · simp only [Act.put, List.setIfInBounds_toArray, List.set_cons_zero, List.set_cons_succ, i64_w, i32_w]
                  rfl
                refine done_ (by kernel_rfl) ?_
                try go_wp2
                go_ret
                exact ⟨by first | rfl | (simp [errW_none, errW_some] <;> rfl) | (simp [*, errW_none, errW_some] <;> rfl), by repeat (first | (with_reducible first | exact HB.out | apply below_alloc | apply pw_below_drewN | apply below_drew1 | refine below_set ?_ GE157.out) | exact HB.out)⟩

end Go.Proofs.Ytckobmdklpalnaa.P04
