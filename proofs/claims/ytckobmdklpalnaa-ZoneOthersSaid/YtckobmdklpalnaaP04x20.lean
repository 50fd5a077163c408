-- Written by a program for this claim: the seat's functions, out of Lean's print of the translation. Lean checks it.
import Derived.Test.YtckobmdklpalnaaP04x0
namespace Go.Proofs.Ytckobmdklpalnaa.P04
open Go.RowKit Go.Proofs.YtckobmdklpalnaaW.PrintWords Go.Proofs.YtckobmdklpalnaaW.PrintLast Go.Proofs.YtckobmdklpalnaaW.PrintMore
attribute [local go_sem] max2_int min2_int max_two min_two max_three min_three max_four min_four   -- for this text's walks alone
set_option linter.unusedVariables false
set_option linter.unusedSimpArgs false

/-! ### windrowref03_Sectors: function 33 -/
def windrowref03_Sectors.j0 : Nat → Int → Bool → Int → Int → Int → Int → Int → Option (Int)
  | 0, _, _, _, _, _, _, _ => none
  | k + 1, x1, x15, x240000, x240001, x240002, x240003, x240004 => if x15 = true then (some 0) else (if x1 < x240000 then (some x240001) else (some x240003))
def windrowref03_Sectors.f (k : Nat) (a0_0 : Int) (a0_1 : Int) (a0_2 : Int) (a0_3 : Int) (a0_4 : Int) (a1 : Int) : Option (Int) := if a1 < 0 then (windrowref03_Sectors.j0 k a1 true a0_0 a0_1 a0_2 a0_3 a0_4) else (windrowref03_Sectors.j0 k a1 (decide (a1 ≥ (wrap64 (a0_0 + a0_2)))) a0_0 a0_1 a0_2 a0_3 a0_4)
theorem windrowref03_Sectors.mono_l : ∀ k, (∀ y0 y1 y2 y3 y4 y5 y6, LeO (windrowref03_Sectors.j0 k y0 y1 y2 y3 y4 y5 y6) (windrowref03_Sectors.j0 (k + 1) y0 y1 y2 y3 y4 y5 y6))
  | 0 => fun _ _ _ _ _ _ _ r h => by simp [windrowref03_Sectors.j0] at h
  | k + 1 => by
    have ih0 := windrowref03_Sectors.mono_l k
    · intro y0 y1 y2 y3 y4 y5 y6
      unfold windrowref03_Sectors.j0
      repeat' first
      | (with_reducible exact ih0 _ _ _ _ _ _ _)
      | (with_reducible exact LeO.refl _)
      | (with_reducible exact LeO.none _)
      | (with_reducible refine LeO.ite ?_ ?_)
      | (with_reducible refine LeO.bind ?_ (fun _ => ?_))
      | exact ih0 _ _ _ _ _ _ _
      | exact LeO.none _
      | refine LeO.ite ?_ ?_
      | refine LeO.bind ?_ (fun _ => ?_)
theorem windrowref03_Sectors.mono : ∀ a0 a1 a2 a3 a4 a5 k, LeO (windrowref03_Sectors.f k a0 a1 a2 a3 a4 a5) (windrowref03_Sectors.f (k + 1) a0 a1 a2 a3 a4 a5) := by
  intro a0 a1 a2 a3 a4 a5 k
  have ih0 := windrowref03_Sectors.mono_l k
  unfold windrowref03_Sectors.f
  repeat' first
      | (with_reducible exact ih0 _ _ _ _ _ _ _)
      | (with_reducible exact LeO.refl _)
      | (with_reducible exact LeO.none _)
      | (with_reducible refine LeO.ite ?_ ?_)
      | (with_reducible refine LeO.bind ?_ (fun _ => ?_))
      | exact ih0 _ _ _ _ _ _ _
      | exact LeO.none _
      | refine LeO.ite ?_ ?_
      | refine LeO.bind ?_ (fun _ => ?_)
set_option maxHeartbeats 8000000 in
set_option maxRecDepth 100000 in
theorem windrowref03_Sectors.calls (k : Nat) (a0_0 : Int) (a0_1 : Int) (a0_2 : Int) (a0_3 : Int) (a0_4 : Int) (a1 : Int) (r : Int) (w : World) (h : windrowref03_Sectors.f k a0_0 a0_1 a0_2 a0_3 a0_4 a1 = some r) :
    Calls Try.prog 33 #[.agg #[.int .i64 a0_0, .int .i64 a0_1, .int .i64 a0_2, .int .i64 a0_3, .int .i64 a0_4], .int .i64 a1] w fun e w' => e = .returned (.int .i64 r) ∧ Below w.heap.size w w' := by
  have hu23 := Try.underlying23
  have HB := Aside0.mk (Below.refl w.heap.size w)
  have H : (if a1 < 0 then (windrowref03_Sectors.j0 k a1 true a0_0 a0_1 a0_2 a0_3 a0_4) else (windrowref03_Sectors.j0 k a1 (decide (a1 ≥ (wrap64 (a0_0 + a0_2)))) a0_0 a0_1 a0_2 a0_3 a0_4)) = some r := h
  clear h
  have HC3 := Aside0.mk H
  clear H
  go_enter Try.func33, Try.ntmps33
  go_upto_region 1 with (first | ((with_reducible refine gate_dst (N := 2) rfl ?_); refine box_event ?hg (N := 2) ?hd (cs := #[.int .i64 a0_0, .int .i64 a0_1, .int .i64 a0_2, .int .i64 a0_3, .int .i64 a0_4]) (t := 23) ?hr ?_; (case hd => rfl); (case hg => rfl); (case hr => first | (go_simp; done) | (go_simp; rfl)); intro gb239 hg w4 hbox hb; have n0_ := Aside0.mk (below_step (by repeat (first | (with_reducible first | exact HB.out | apply below_alloc | apply pw_below_drewN | apply below_drew1) | exact HB.out)) hb); have n1_ := Aside0.mk (hbox); have n2_ := Aside0.mk ((by rw [hg]; exact (below_size (by repeat (first | (with_reducible first | exact HB.out | apply below_alloc | apply pw_below_drewN | apply below_drew1) | exact HB.out))) : w.heap.size ≤ gb239)); have n3_ := Aside0.mk ((by rw [hg]; exact (below_size (by repeat (first | (with_reducible first | exact HB.out | apply below_alloc | apply pw_below_drewN | apply below_drew1) | exact HB.out))) : w.heap.size ≤ gb239)); clear HB; have HB := n0_; have BK239 := n1_; have GW239 := n2_; have GE239 := n3_; clear n0_ n1_ n2_ n3_; clear hb hbox hg))
  (try simp only [Act.put, List.setIfInBounds_toArray, List.set_cons_zero, List.set_cons_succ])
  go_cut [15] (fun v15 wc => ∃ (kq : Nat) (x15_2 : Bool), v15 = .bool x15_2 ∧ Aside0 (windrowref03_Sectors.j0 kq a1 x15_2 a0_0 a0_1 a0_2 a0_3 a0_4 = some r) ∧ Aside0 (kq ≤ k) ∧ Aside0 (wc.heap[gb239]? = some (.cells #[.int .i64 a0_0, .int .i64 a0_1, .int .i64 a0_2, .int .i64 a0_3, .int .i64 a0_4] 23 (0, 0))) ∧ Aside0 (Below w.heap.size w wc))
  case first =>
    have H := HC3.out
    clear HC3
    by_cases c5 : a1 < 0
    · rw [if_pos c5] at H
      have c5b0 : decide (a1 < 0) = true := decide_eq_true c5
      clear c5
      (first | rw [c5b0] | (simp only [i64_w, i32_w]; rw [c5b0]) | skip)
      have H' := Aside0.mk H
      clear H
      go_wp2
      go_meet
      case rel => exact ⟨_, (true), (by first | rfl | (simp; done) | (simp [*]; done)), H', ⟨by first | omega | exact Nat.le_refl _⟩, ⟨by (with_reducible repeat (first | refine blk_drewN ?_ _ | refine blk_drew ?_ | refine blk_alloc ?_ _)); exact BK239.out⟩, ⟨by repeat (first | (with_reducible first | exact HB.out | apply below_alloc | apply pw_below_drewN | apply below_drew1 | refine below_set ?_ GE239.out) | exact HB.out)⟩⟩
    · rw [if_neg c5] at H
      have c5b0 : decide (a1 < 0) = false := decide_eq_false c5
      clear c5
      (first | rw [c5b0] | (simp only [i64_w, i32_w]; rw [c5b0]) | skip)
      have H' := Aside0.mk H
      clear H
      have hcz6_0 : w4.cell? ⟨gb239, 0, none⟩ = some (.int .i64 a0_0) := (blk_cell BK239.out 0).trans rfl
      have hcz6_1 : w4.cell? ⟨gb239, 1, none⟩ = some (.int .i64 a0_1) := (blk_cell BK239.out 1).trans rfl
      have hcz6_2 : w4.cell? ⟨gb239, 2, none⟩ = some (.int .i64 a0_2) := (blk_cell BK239.out 2).trans rfl
      have hcz6_3 : w4.cell? ⟨gb239, 3, none⟩ = some (.int .i64 a0_3) := (blk_cell BK239.out 3).trans rfl
      have hcz6_4 : w4.cell? ⟨gb239, 4, none⟩ = some (.int .i64 a0_4) := (blk_cell BK239.out 4).trans rfl
      have hfz6_0 := blk_frozen BK239.out 0
      have hfz6_1 := blk_frozen BK239.out 1
      have hfz6_2 := blk_frozen BK239.out 2
      have hfz6_3 := blk_frozen BK239.out 3
      have hfz6_4 := blk_frozen BK239.out 4
      go_wp2
      go_meet
      case rel => exact ⟨_, (decide (a1 ≥ (wrap64 (a0_0 + a0_2)))), (by first | rfl | (simp; done) | (simp [*]; done)), H', ⟨by first | omega | exact Nat.le_refl _⟩, ⟨by (with_reducible repeat (first | refine blk_drewN ?_ _ | refine blk_drew ?_ | refine blk_alloc ?_ _)); exact BK239.out⟩, ⟨by repeat (first | (with_reducible first | exact HB.out | apply below_alloc | apply pw_below_drewN | apply below_drew1 | refine below_set ?_ GE239.out) | exact HB.out)⟩⟩
  case rest =>
    clear HC3
    try clear p2
    try clear c3
    try clear c5
    try clear c5b0
    try clear p6
    try clear hcz6_0
    try clear hcz6_1
    try clear hcz6_2
    try clear hcz6_3
    try clear hcz6_4
    try clear hfz6_0
    try clear hfz6_1
    try clear hfz6_2
    try clear hfz6_3
    try clear hfz6_4
    obtain ⟨kq, x15_2, rfl, HA, HJ2, BK239, HB⟩ := hcut
    cases kq with
    | zero => exact absurd HA.out (by simp [windrowref03_Sectors.j0])
    | succ kj2 =>
      have H := HA.out
      clear HA
      simp only [windrowref03_Sectors.j0] at H
      by_cases c7 : x15_2 = true
      · subst c7
        have H1 : (some 0) = some r := by rw [if_pos rfl] at H; exact H
        clear H
        have H := H1
        clear H1
        obtain rfl := Option.some.inj H
        go_wp2
        go_ret
        exact ⟨by first | rfl | (simp [errW_none, errW_some] <;> rfl) | (simp [*, errW_none, errW_some] <;> rfl), by repeat (first | (with_reducible first | exact HB.out | apply below_alloc | apply pw_below_drewN | apply below_drew1 | refine below_set ?_ GE239.out) | exact HB.out)⟩
      · replace c7 := Bool.eq_false_iff.mpr c7
        subst c7
        have H1 : (if a1 < a0_0 then (some a0_1) else (some a0_3)) = some r := by rw [if_neg (show ¬ (false = true) by decide)] at H; exact H
        clear H
        have H := H1
        clear H1
        by_cases c8 : a1 < a0_0
        · rw [if_pos c8] at H
          have c8b0 : decide (a1 < a0_0) = true := decide_eq_true c8
          clear c8
          obtain rfl := Option.some.inj H
          have hcz9_0 : wc.cell? ⟨gb239, 0, none⟩ = some (.int .i64 a0_0) := (blk_cell BK239.out 0).trans rfl
          have hcz9_1 : wc.cell? ⟨gb239, 1, none⟩ = some (.int .i64 a0_1) := (blk_cell BK239.out 1).trans rfl
          have hcz9_2 : wc.cell? ⟨gb239, 2, none⟩ = some (.int .i64 a0_2) := (blk_cell BK239.out 2).trans rfl
          have hcz9_3 : wc.cell? ⟨gb239, 3, none⟩ = some (.int .i64 a0_3) := (blk_cell BK239.out 3).trans rfl
          have hcz9_4 : wc.cell? ⟨gb239, 4, none⟩ = some (.int .i64 a0_4) := (blk_cell BK239.out 4).trans rfl
          have hfz9_0 := blk_frozen BK239.out 0
          have hfz9_1 := blk_frozen BK239.out 1
          have hfz9_2 := blk_frozen BK239.out 2
          have hfz9_3 := blk_frozen BK239.out 3
          have hfz9_4 := blk_frozen BK239.out 4
          go_wp2
          go_ret
          exact ⟨by first | rfl | (simp [errW_none, errW_some] <;> rfl) | (simp [*, errW_none, errW_some] <;> rfl), by repeat (first | (with_reducible first | exact HB.out | apply below_alloc | apply pw_below_drewN | apply below_drew1 | refine below_set ?_ GE239.out) | exact HB.out)⟩
        · rw [if_neg c8] at H
          have c8b0 : decide (a1 < a0_0) = false := decide_eq_false c8
          clear c8
          obtain rfl := Option.some.inj H
          have hcz10_0 : wc.cell? ⟨gb239, 0, none⟩ = some (.int .i64 a0_0) := (blk_cell BK239.out 0).trans rfl
          have hcz10_1 : wc.cell? ⟨gb239, 1, none⟩ = some (.int .i64 a0_1) := (blk_cell BK239.out 1).trans rfl
          have hcz10_2 : wc.cell? ⟨gb239, 2, none⟩ = some (.int .i64 a0_2) := (blk_cell BK239.out 2).trans rfl
          have hcz10_3 : wc.cell? ⟨gb239, 3, none⟩ = some (.int .i64 a0_3) := (blk_cell BK239.out 3).trans rfl
          have hcz10_4 : wc.cell? ⟨gb239, 4, none⟩ = some (.int .i64 a0_4) := (blk_cell BK239.out 4).trans rfl
          have hfz10_0 := blk_frozen BK239.out 0
          have hfz10_1 := blk_frozen BK239.out 1
          have hfz10_2 := blk_frozen BK239.out 2
          have hfz10_3 := blk_frozen BK239.out 3
          have hfz10_4 := blk_frozen BK239.out 4
          go_wp2
          go_ret
          exact ⟨by first | rfl | (simp [errW_none, errW_some] <;> rfl) | (simp [*, errW_none, errW_some] <;> rfl), by repeat (first | (with_reducible first | exact HB.out | apply below_alloc | apply pw_below_drewN | apply below_drew1 | refine below_set ?_ GE239.out) | exact HB.out)⟩

/-! ### windrowref04_with: function 34 -/
def windrowref04_with.f (l0 : List (S36)) (a1 : Int) (a2_0 : Int) (a2_1 : Int) : Option ((List (S36))) := (some (([] : List (S36)) : List (S36))).bind fun y241 => (if y241.length + l0.length < 8796093022208 then ((some (y241 ++ l0 : List (S36))).bind fun y244 => (if 0 ≤ a1 then (if a1 < (y244.length : Int) then (some (y244.set (a1 : Int).toNat (⟨a2_0, a2_1⟩ : S36))) else (none)) else (none))) else (none))
set_option maxHeartbeats 8000000 in
set_option maxRecDepth 100000 in
theorem windrowref04_with.calls (A0 : Option Addr) (c0 : Nat) (l0 : List (S36)) (a1 : Int) (a2_0 : Int) (a2_1 : Int) (r : List (S36)) (w : World) (hr0 : Kd.C k36 w A0 l0.length l0) (hc0 : l0.length ≤ c0) (h : windrowref04_with.f l0 a1 a2_0 a2_1 = some r) :
    Calls Try.prog 34 #[.slice A0 l0.length c0, .int .i64 a1, .agg #[.int .i64 a2_0, .int .i64 a2_1]] w fun e w' => ∃ v0_ : Value, e = .returned (v0_) ∧ Kd.R k36 36 w' w.heap.size (fun _ => True) v0_ r ∧ Below w.heap.size w w' := by
  have hu36 := Try.underlying36
  have HR0 := Aside0.mk hr0
  have HC0 := Aside0.mk hc0
  clear hr0 hc0
  have HB := Aside0.mk (Below.refl w.heap.size w)
  have H : ((some (([] : List (S36)) : List (S36))).bind fun y241 => (if y241.length + l0.length < 8796093022208 then ((some (y241 ++ l0 : List (S36))).bind fun y244 => (if 0 ≤ a1 then (if a1 < (y244.length : Int) then (some (y244.set (a1 : Int).toNat (⟨a2_0, a2_1⟩ : S36))) else (none)) else (none))) else (none))) = some r := h
  clear h
  obtain ⟨y241, hy241⟩ : ∃ y_ : List (S36), y_ = (([] : List (S36))) := ⟨_, rfl⟩
  replace H : (if y241.length + l0.length < 8796093022208 then ((some (y241 ++ l0 : List (S36))).bind fun y244 => (if 0 ≤ a1 then (if a1 < (y244.length : Int) then (some (y244.set (a1 : Int).toNat (⟨a2_0, a2_1⟩ : S36))) else (none)) else (none))) else (none)) = some r := by first | (rw [hy241]; with_reducible exact H) | (have H2_ := (Option.bind_some _ _).symm.trans H; rw [hy241]; with_reducible exact H2_) | (have H2_ := (Option.bind_some _ _).symm.trans H; with_reducible exact H2_) | with_reducible exact H | (rw [hy241]; exact H) | exact H
  have Ny241 := Aside0.mk hy241
  clear hy241
  by_cases c4 : y241.length + l0.length < 8796093022208
  · rw [if_pos c4] at H
    have LMc4 := Aside0.mk c4
    clear c4
    obtain ⟨y244, hy244⟩ : ∃ y_ : List (S36), y_ = (y241 ++ l0) := ⟨_, rfl⟩
    replace H : (if 0 ≤ a1 then (if a1 < (y244.length : Int) then (some (y244.set (a1 : Int).toNat (⟨a2_0, a2_1⟩ : S36))) else (none)) else (none)) = some r := by first | (rw [hy244]; with_reducible exact H) | (have H2_ := (Option.bind_some _ _).symm.trans H; rw [hy244]; with_reducible exact H2_) | (have H2_ := (Option.bind_some _ _).symm.trans H; with_reducible exact H2_) | with_reducible exact H | (rw [hy244]; exact H) | exact H
    have Ny244 := Aside0.mk hy244
    clear hy244
    by_cases c5 : 0 ≤ a1
    · rw [if_pos c5] at H
      have c5b0 : decide (0 ≤ a1) = true := decide_eq_true c5
      clear c5
      by_cases c6 : a1 < (y244.length : Int)
      · rw [if_pos c6] at H
        have c6b0 : decide (a1 < (y244.length : Int)) = true := decide_eq_true c6
        clear c6
        obtain ⟨y247, hy247⟩ : ∃ y_ : List (S36), y_ = (y244.set (a1 : Int).toNat (⟨a2_0, a2_1⟩ : S36)) := ⟨_, rfl⟩
        replace H : (some y247) = some r := by first | (rw [hy247]; with_reducible exact H) | (have H2_ := (Option.bind_some _ _).symm.trans H; rw [hy247]; with_reducible exact H2_) | (have H2_ := (Option.bind_some _ _).symm.trans H; with_reducible exact H2_) | with_reducible exact H | (rw [hy247]; exact H) | exact H
        have Ny247 := Aside0.mk hy247
        clear hy247
        obtain rfl := Option.some.inj H
        go_enter Try.func34, Try.ntmps34
        go_wp2_with (first | ((with_reducible refine gate_dst (N := 5) rfl ?_); refine box_event ?hg (N := 5) ?hd (cs := #[.int .i64 a2_0, .int .i64 a2_1]) (t := 36) ?hr ?_; (case hd => rfl); (case hg => rfl); (case hr => first | (go_simp; done) | (go_simp; rfl)); intro gb240 hg w8 hbox hb; have n0_ := Aside0.mk (below_step (by repeat (first | (with_reducible first | exact HB.out | apply below_alloc | apply pw_below_drewN | apply below_drew1) | exact HB.out)) hb); have n1_ := Aside0.mk (hbox); have n2_ := Aside0.mk ((by rw [hg]; exact (below_size (by repeat (first | (with_reducible first | exact HB.out | apply below_alloc | apply pw_below_drewN | apply below_drew1) | exact HB.out))) : w.heap.size ≤ gb240)); have n3_ := Aside0.mk ((by rw [hg]; exact (below_size (by repeat (first | (with_reducible first | exact HB.out | apply below_alloc | apply pw_below_drewN | apply below_drew1) | exact HB.out))) : w.heap.size ≤ gb240)); clear HB; have HB := n0_; have BK240 := n1_; have GW240 := n2_; have GE240 := n3_; clear n0_ n1_ n2_ n3_; clear hb hbox hg) | ((with_reducible refine gate_dst (N := 8) rfl ?_); refine Kd.R_lit k36 _ 36 ?hg (N := 8) ?hd (xs := ([] : List (S36))) (inner := []) (ok := fun _ => True) (okp := fun _ => True) ?hr ?hp (fun _ hk => hk) trivial (Below.refl _ _) (Nat.le_refl _) (by simp) ?_; (case hd => rfl); (case hg => rfl); (case hr => first | (go_simp; done) | (go_simp; rfl)); (case hp => exact (Reps.none _ _)); intro v242 w9 ho10 hb hg_ hnew_; clear hg_ hnew_; (first | rw [← Ny241.out] at ho10 | (simp only [Int.reduceToNat] at ho10; rw [← Ny241.out] at ho10)); have n0_ := Aside0.mk (Kd.R_lower (Kd.R_newB ho10 (g := gb240) (o := .cells #[.int .i64 a2_0, .int .i64 a2_1] 36 (0, 0)) (by (with_reducible repeat (first | refine blk_drewN ?_ _ | refine blk_drew ?_ | refine blk_alloc ?_ _)); exact BK240.out)) (below_size (by repeat (first | (with_reducible first | exact HB.out | apply below_alloc | apply pw_below_drewN | apply below_drew1 | refine below_set ?_ GE240.out) | exact HB.out)))); have n1_ := Aside0.mk (blk_below (g := gb240) (o := .cells #[.int .i64 a2_0, .int .i64 a2_1] 36 (0, 0)) (by (with_reducible repeat (first | refine blk_drewN ?_ _ | refine blk_drew ?_ | refine blk_alloc ?_ _)); exact BK240.out) hb); have n2_ := Aside0.mk (below_step (by repeat (first | (with_reducible first | exact HB.out | apply below_alloc | apply pw_below_drewN | apply below_drew1 | refine below_set ?_ GE240.out) | exact HB.out)) hb); clear BK240; clear HB; have HO243 := n0_; have BK240 := n1_; have HB := n2_; clear n0_ n1_ n2_; clear hb ho10) | ((with_reducible refine gate_builtin (b := .append) (xs := #[.tmp 8, .tmp 9]) rfl ?_); at_builtin; refine Kd.R_append_rows k36 (w0 := w) w.heap.size rfl (.tmp 8) (.tmp 9) 26 36 (.agg #[(.int .i64 0), (.int .i64 0)]) 16 rfl Try.underlying26 info36 rfl (by decide) (by omega) v242 y241 l0 _ _ _ (fun k_ => k_ ≠ gb240) (fun _ => False) rfl rfl ?aO ?aR (fun _ _ h => h) (fun _ h => h.elim) ?aF ?aB ?aS ?aL ?_; (case aR => repeat (first | exact (Kd.C_below HR0.out HB.out) | (with_reducible refine Kd.C_alloc ?_ _) | (with_reducible refine Kd.C_drewN ?_ _) | (with_reducible refine Kd.C_drew ?_))); (case aB => exact (by repeat (first | (with_reducible first | exact HB.out | apply below_alloc | apply pw_below_drewN | apply below_drew1 | refine below_set ?_ GE240.out) | exact HB.out))); (case aF => exact (fun k_ hk => Kd.freshB (g := gb240) (o := .cells #[.int .i64 a2_0, .int .i64 a2_1] 36 (0, 0)) (by (with_reducible repeat (first | refine blk_drewN ?_ _ | refine blk_drew ?_ | refine blk_alloc ?_ _)); exact BK240.out) k_ hk)); (case aO => exact (by (with_reducible repeat (first | apply Kd.R_alloc | apply Kd.R_drewN | apply Kd.R_drew)); exact Kd.R_mono HO243.out (fun _ hk => hk.2))); (case aS => exact (below_size (by repeat (first | (with_reducible first | exact HB.out | apply below_alloc | apply pw_below_drewN | apply below_drew1 | refine below_set ?_ GE240.out) | exact HB.out)))); (case aL => have := LMc4.out; omega); intro v245 w11 ho hb hg hat; rw [← Ny244.out] at ho; have n0_ := Aside0.mk (blk_grown (g := gb240) (o := .cells #[.int .i64 a2_0, .int .i64 a2_1] 36 (0, 0)) (by (with_reducible repeat (first | refine blk_drewN ?_ _ | refine blk_drew ?_ | refine blk_alloc ?_ _)); exact BK240.out) hg (Kd.R_away HO243.out (fun _ hk => hk.2))); have n1_ := Aside0.mk (hb); have n2_ := Aside0.mk (ho); clear BK240; clear HB; clear HO243; have BK240 := n0_; have HB := n1_; have HO246 := n2_; clear n0_ n1_ n2_; clear ho hb hg hat; have hcz12_0 : w11.cell? ⟨gb240, 0, none⟩ = some (.int .i64 a2_0) := (blk_cell BK240.out 0).trans rfl; have hcz12_1 : w11.cell? ⟨gb240, 1, none⟩ = some (.int .i64 a2_1) := (blk_cell BK240.out 1).trans rfl; have hfz12_0 := blk_frozen BK240.out 0; have hfz12_1 := blk_frozen BK240.out 1; have p7 : 0 ≤ (a1 : Int) := of_decide_eq_true (by first | (with_reducible assumption) | assumption); have q7 : (a1 : Int) < ((y244.length : Int) : Int) := of_decide_eq_true (by first | (with_reducible assumption) | assumption); obtain ⟨go7, co7, eo7, gb7, gl7, cl7, HG7⟩ := Kd.R_form HO246.out (by omega); (first | cases eo7 | (injection eo7 with ea_ en_ ec_; (first | subst ea_ | (injection ea_ with ea_; subst ea_)); subst ec_; clear en_)); have GB7 := Aside0.mk gb7; have GG7 := Aside0.mk HG7; clear gb7 gl7 HG7; obtain ⟨ce7, hcl7, hM7, hcc7, hfr7⟩ := Kd.R_elem HO246.out z36 (a1 : Int) p7 q7; obtain rfl := k36_openM hM7; have hx7_0 : w11.cell? ⟨go7, (a1 : Int).toNat * 2, none⟩ = some (.int .i64 ((rd_T36 y244 a1).f0)) := hcc7 0 _ rfl; have hx7_1 : w11.cell? ⟨go7, (a1 : Int).toNat * 2 + 1, none⟩ = some (.int .i64 ((rd_T36 y244 a1).f1)) := hcc7 1 _ rfl; have hf7_0 : w11.frozen? ⟨go7, (a1 : Int).toNat * 2, none⟩ = false := hfr7 0; have hf7_1 : w11.frozen? ⟨go7, (a1 : Int).toNat * 2 + 1, none⟩ = false := hfr7 1; clear hcl7 hcc7 hfr7 hM7; replace p7 := eq_true p7; replace q7 := eq_true q7; have HX13 := Aside0.mk (show Kd.R k36 36 w11 w.heap.size (fun k_ => k_ ≠ gb240) (.slice (some ⟨go7, 0, none⟩) y244.length co7) y244 from (by (with_reducible repeat (first | apply Kd.R_alloc | apply Kd.R_drewN | apply Kd.R_drew)); exact HO246.out)); obtain ⟨ce13, hcl13, hM13, hcc13, hfr13⟩ := Kd.R_elem HX13.out z36 (a1 : Int) (of_decide_eq_true (by first | (with_reducible assumption) | assumption)) (by have h_ : (a1 : Int) < ((y244.length : Int) : Int) := of_decide_eq_true (by first | (with_reducible assumption) | assumption); first | exact h_ | (have e_ := (Kd.R_reads' HO246.out).1; omega) | simpa using h_); obtain rfl := k36_openM hM13; have HP13 := Kd.R_seg HX13.out (a1 : Int) (of_decide_eq_true (by first | (with_reducible assumption) | assumption)) (by have h_ : (a1 : Int) < ((y244.length : Int) : Int) := of_decide_eq_true (by first | (with_reducible assumption) | assumption); first | exact h_ | (have e_ := (Kd.R_reads' HO246.out).1; omega) | simpa using h_) (seg := [.int .i64 a2_0, .int .i64 a2_1]) (j := 0) hcl13 hcc13 (show 2 ≤ 2 from by decide) (x' := (⟨a2_0, a2_1⟩ : S36)) (k36_mkM _ _ _ (⟨a2_0, a2_1⟩ : S36) ) (fun _ hk => hk); have hx13_0 := hcc13 0 _ rfl; (try simp only [show (k36).sz = 2 from rfl, Nat.mul_one, Nat.add_zero] at hx13_0); have hf13_0 := hfr13 0; (try simp only [show (k36).sz = 2 from rfl, Nat.mul_one, Nat.add_zero] at hf13_0); have hx13_1 := hcc13 1 _ rfl; (try simp only [show (k36).sz = 2 from rfl, Nat.mul_one, Nat.add_zero] at hx13_1); have hf13_1 := hfr13 1; (try simp only [show (k36).sz = 2 from rfl, Nat.mul_one, Nat.add_zero] at hf13_1); clear hcl13 hcc13 hfr13 hM13) | ((with_reducible refine gate_store (t := 36) (p := 14) rfl ?_); refine store_event (t := 36) (p := 14) (v := ?vo_w14) (w1 := ((w11.setCell ⟨go7, (a1 : Int).toNat * 2, none⟩ (.int .i64 a2_0)).setCell ⟨go7, (a1 : Int).toNat * 2 + 1, none⟩ (.int .i64 a2_1))) ?hg ?ho ?hn ?hr ?_; (case ho => rfl); (case hg => rfl); (case hn => rfl); (case hr => first | (go_simp; done) | (go_simp; rfl)); intro w14 hw; have hg : w11.grownBy w14 (some go7) := (by rw [hw]; exact HP13.2); have hp_ : Kd.R k36 36 w14 w.heap.size (fun k_ => k_ ≠ gb240) (.slice (some ⟨go7, 0, none⟩) y244.length co7) y247 := (by rw [hw, Ny247.out]; exact HP13.1); clear HP13; have n0_ := Aside0.mk (blk_grown (g := gb240) (o := .cells #[.int .i64 a2_0, .int .i64 a2_1] 36 (0, 0)) (by (with_reducible repeat (first | refine blk_drewN ?_ _ | refine blk_drew ?_ | refine blk_alloc ?_ _)); exact BK240.out) hg (Kd.R_away HO246.out (fun _ hk => hk))); have n1_ := Aside0.mk (hp_); have n2_ := Aside0.mk ((by rw [hw]; exact below_set (below_set (HB.out) GB7.out) GB7.out : Below w.heap.size w w14)); clear BK240; clear HO246; clear HB; have BK240 := n0_; have HO246 := n1_; have HB := n2_; clear n0_ n1_ n2_; clear hg hw hp_))
        go_ret
        exact ⟨_, by first | rfl | (simp [errW_none, errW_some] <;> rfl) | (simp [*, errW_none, errW_some] <;> rfl), by (with_reducible repeat (first | apply Kd.R_alloc | apply Kd.R_drewN | apply Kd.R_drew)); exact Kd.R_mono HO246.out (fun _ hk => trivial), by repeat (first | (with_reducible first | exact HB.out | apply below_alloc | apply pw_below_drewN | apply below_drew1 | refine below_set ?_ GE240.out) | exact HB.out)⟩
      · rw [if_neg c6] at H
        exact absurd H (by simp)
    · rw [if_neg c5] at H
      exact absurd H (by simp)
  · rw [if_neg c4] at H
    exact absurd H (by simp)

end Go.Proofs.Ytckobmdklpalnaa.P04
