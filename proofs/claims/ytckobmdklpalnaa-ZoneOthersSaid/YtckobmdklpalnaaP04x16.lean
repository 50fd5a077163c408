-- Written by a program for this claim: the seat's functions, out of Lean's print of the translation. Lean checks it.
import Derived.Test.YtckobmdklpalnaaP04x0
import Derived.Test.YtckobmdklpalnaaP04x15
namespace Go.Proofs.Ytckobmdklpalnaa.P04
open Go.RowKit Go.Proofs.YtckobmdklpalnaaW.PrintWords Go.Proofs.YtckobmdklpalnaaW.PrintLast Go.Proofs.YtckobmdklpalnaaW.PrintMore
attribute [local go_sem] max2_int min2_int max_two min_two max_three min_three max_four min_four   -- for this text's walks alone
set_option linter.unusedVariables false
set_option linter.unusedSimpArgs false

/-! ### windrowref04_Right: function 16 -/
mutual
def windrowref04_Right.j0 : Nat → List (S36) → Bool → Int → Int → Int → Int → Int → Option (Bool)
  | 0, _, _, _, _, _, _, _ => none
  | k + 1, x1, x22, x196000, x196001, x196002, x196003, x196004 => if x22 = true then (some false) else (windrowref04_Right.l0 k x1 0 x196000 x196001 x196002 x196003 x196004)
def windrowref04_Right.l0 : Nat → List (S36) → Int → Int → Int → Int → Int → Int → Option (Bool)
  | 0, _, _, _, _, _, _, _ => none
  | k + 1, x1, x5, x196000, x196001, x196002, x196003, x196004 => if x5 < (x1.length : Int) then (if 0 ≤ x5 then (if x5 < x196000 then (if ((rd_T36 x1 x5).f0) = 4 then (windrowref04_Right.j2 k x1 x5 (((rd_T36 x1 x5).f1) != 0) x196000 x196001 x196002 x196003 x196004) else (windrowref04_Right.j2 k x1 x5 true x196000 x196001 x196002 x196003 x196004)) else (if ((rd_T36 x1 x5).f0) < 0 then (some false) else (if ((rd_T36 x1 x5).f0) > 3 then (some false) else (if ((rd_T36 x1 x5).f1) < 0 then (some false) else (if ((rd_T36 x1 x5).f1) > x196003 then (some false) else (if ((rd_T36 x1 x5).f0) = 0 then (if ((rd_T36 x1 x5).f1) = 0 then (if ((rd_T36 x1 x5).f0) = 1 then (if ((rd_T36 x1 x5).f1) = x196003 then (some false) else (if ((rd_T36 x1 x5).f0) = 2 then (some false) else (windrowref04_Right.l0 k x1 (wrap64 (x5 + 1)) x196000 x196001 x196002 x196003 x196004))) else (if ((rd_T36 x1 x5).f0) = 2 then (if ((rd_T36 x1 x5).f1) = x196003 then (some false) else (some false)) else (windrowref04_Right.l0 k x1 (wrap64 (x5 + 1)) x196000 x196001 x196002 x196003 x196004))) else (some false)) else (if ((rd_T36 x1 x5).f0) = 1 then (if ((rd_T36 x1 x5).f1) = x196003 then (some false) else (if ((rd_T36 x1 x5).f0) = 2 then (if ((rd_T36 x1 x5).f1) = 0 then (some false) else (windrowref04_Right.l0 k x1 (wrap64 (x5 + 1)) x196000 x196001 x196002 x196003 x196004)) else (windrowref04_Right.l0 k x1 (wrap64 (x5 + 1)) x196000 x196001 x196002 x196003 x196004))) else (if ((rd_T36 x1 x5).f0) = 2 then (if ((rd_T36 x1 x5).f1) = x196003 then (some false) else (if ((rd_T36 x1 x5).f1) = 0 then (some false) else (windrowref04_Right.l0 k x1 (wrap64 (x5 + 1)) x196000 x196001 x196002 x196003 x196004))) else (windrowref04_Right.l0 k x1 (wrap64 (x5 + 1)) x196000 x196001 x196002 x196003 x196004))))))))) else (none)) else (some true)
def windrowref04_Right.j2 : Nat → List (S36) → Int → Bool → Int → Int → Int → Int → Int → Option (Bool)
  | 0, _, _, _, _, _, _, _, _ => none
  | k + 1, x1, x5, x48, x196000, x196001, x196002, x196003, x196004 => if x48 = true then (some false) else (windrowref04_Right.l0 k x1 (wrap64 (x5 + 1)) x196000 x196001 x196002 x196003 x196004)
end
def windrowref04_Right.f (k : Nat) (a0_0 : Int) (a0_1 : Int) (a0_2 : Int) (a0_3 : Int) (a0_4 : Int) (l1 : List (S36)) : Option (Bool) := if (l1.length : Int) = (wrap64 (a0_0 + a0_2)) then ((windrowref04_opened.f k l1).bind fun t196 => (windrowref04_Right.j0 k l1 (decide (t196 > a0_4)) a0_0 a0_1 a0_2 a0_3 a0_4)) else (windrowref04_Right.j0 k l1 true a0_0 a0_1 a0_2 a0_3 a0_4)
theorem windrowref04_Right.mono_l : ∀ k, (∀ y0 y1 y2 y3 y4 y5 y6, LeO (windrowref04_Right.j0 k y0 y1 y2 y3 y4 y5 y6) (windrowref04_Right.j0 (k + 1) y0 y1 y2 y3 y4 y5 y6)) ∧ (∀ y0 y1 y2 y3 y4 y5 y6, LeO (windrowref04_Right.l0 k y0 y1 y2 y3 y4 y5 y6) (windrowref04_Right.l0 (k + 1) y0 y1 y2 y3 y4 y5 y6)) ∧ (∀ y0 y1 y2 y3 y4 y5 y6 y7, LeO (windrowref04_Right.j2 k y0 y1 y2 y3 y4 y5 y6 y7) (windrowref04_Right.j2 (k + 1) y0 y1 y2 y3 y4 y5 y6 y7))
  | 0 => ⟨fun _ _ _ _ _ _ _ r h => by simp [windrowref04_Right.j0] at h, fun _ _ _ _ _ _ _ r h => by simp [windrowref04_Right.l0] at h, fun _ _ _ _ _ _ _ _ r h => by simp [windrowref04_Right.j2] at h⟩
  | k + 1 => by
    obtain ⟨ih0, ih1, ih2⟩ := windrowref04_Right.mono_l k
    refine ⟨?_, ?_, ?_⟩
    · intro y0 y1 y2 y3 y4 y5 y6
      unfold windrowref04_Right.j0
      repeat' first
      | (with_reducible exact ih0 _ _ _ _ _ _ _)
      | (with_reducible exact ih1 _ _ _ _ _ _ _)
      | (with_reducible exact ih2 _ _ _ _ _ _ _ _)
      | (with_reducible exact windrowref04_opened.mono _ _)
      | (with_reducible exact LeO.refl _)
      | (with_reducible exact LeO.none _)
      | (with_reducible refine LeO.ite ?_ ?_)
      | (with_reducible refine LeO.bind ?_ (fun _ => ?_))
      | exact ih0 _ _ _ _ _ _ _
      | exact ih1 _ _ _ _ _ _ _
      | exact ih2 _ _ _ _ _ _ _ _
      | exact windrowref04_opened.mono _ _
      | exact LeO.none _
      | refine LeO.ite ?_ ?_
      | refine LeO.bind ?_ (fun _ => ?_)
    · intro y0 y1 y2 y3 y4 y5 y6
      unfold windrowref04_Right.l0
      repeat' first
      | (with_reducible exact ih0 _ _ _ _ _ _ _)
      | (with_reducible exact ih1 _ _ _ _ _ _ _)
      | (with_reducible exact ih2 _ _ _ _ _ _ _ _)
      | (with_reducible exact windrowref04_opened.mono _ _)
      | (with_reducible exact LeO.refl _)
      | (with_reducible exact LeO.none _)
      | (with_reducible refine LeO.ite ?_ ?_)
      | (with_reducible refine LeO.bind ?_ (fun _ => ?_))
      | exact ih0 _ _ _ _ _ _ _
      | exact ih1 _ _ _ _ _ _ _
      | exact ih2 _ _ _ _ _ _ _ _
      | exact windrowref04_opened.mono _ _
      | exact LeO.none _
      | refine LeO.ite ?_ ?_
      | refine LeO.bind ?_ (fun _ => ?_)
    · intro y0 y1 y2 y3 y4 y5 y6 y7
      unfold windrowref04_Right.j2
      repeat' first
      | (with_reducible exact ih0 _ _ _ _ _ _ _)
      | (with_reducible exact ih1 _ _ _ _ _ _ _)
      | (with_reducible exact ih2 _ _ _ _ _ _ _ _)
      | (with_reducible exact windrowref04_opened.mono _ _)
      | (with_reducible exact LeO.refl _)
      | (with_reducible exact LeO.none _)
      | (with_reducible refine LeO.ite ?_ ?_)
      | (with_reducible refine LeO.bind ?_ (fun _ => ?_))
      | exact ih0 _ _ _ _ _ _ _
      | exact ih1 _ _ _ _ _ _ _
      | exact ih2 _ _ _ _ _ _ _ _
      | exact windrowref04_opened.mono _ _
      | exact LeO.none _
      | refine LeO.ite ?_ ?_
      | refine LeO.bind ?_ (fun _ => ?_)
theorem windrowref04_Right.mono : ∀ a0 a1 a2 a3 a4 a5 k, LeO (windrowref04_Right.f k a0 a1 a2 a3 a4 a5) (windrowref04_Right.f (k + 1) a0 a1 a2 a3 a4 a5) := by
  intro a0 a1 a2 a3 a4 a5 k
  obtain ⟨ih0, ih1, ih2⟩ := windrowref04_Right.mono_l k
  unfold windrowref04_Right.f
  repeat' first
      | (with_reducible exact ih0 _ _ _ _ _ _ _)
      | (with_reducible exact ih1 _ _ _ _ _ _ _)
      | (with_reducible exact ih2 _ _ _ _ _ _ _ _)
      | (with_reducible exact windrowref04_opened.mono _ _)
      | (with_reducible exact LeO.refl _)
      | (with_reducible exact LeO.none _)
      | (with_reducible refine LeO.ite ?_ ?_)
      | (with_reducible refine LeO.bind ?_ (fun _ => ?_))
      | exact ih0 _ _ _ _ _ _ _
      | exact ih1 _ _ _ _ _ _ _
      | exact ih2 _ _ _ _ _ _ _ _
      | exact windrowref04_opened.mono _ _
      | exact LeO.none _
      | refine LeO.ite ?_ ?_
      | refine LeO.bind ?_ (fun _ => ?_)
set_option maxHeartbeats 8000000 in
set_option maxRecDepth 100000 in
theorem windrowref04_Right.calls (k : Nat) (a0_0 : Int) (a0_1 : Int) (a0_2 : Int) (a0_3 : Int) (a0_4 : Int) (A1 : Option Addr) (c1 : Nat) (l1 : List (S36)) (r : Bool) (w : World) (hr1 : Kd.C k36 w A1 l1.length l1) (hc1 : l1.length ≤ c1) (h : windrowref04_Right.f k a0_0 a0_1 a0_2 a0_3 a0_4 l1 = some r) :
    Calls Try.prog 16 #[.agg #[.int .i64 a0_0, .int .i64 a0_1, .int .i64 a0_2, .int .i64 a0_3, .int .i64 a0_4], .slice A1 l1.length c1] w fun e w' => e = .returned (.bool r) ∧ Below w.heap.size w w' := by
  have hu23 := Try.underlying23
  have HR1 := Aside0.mk hr1
  have HC1 := Aside0.mk hc1
  clear hr1 hc1
  have HB := Aside0.mk (Below.refl w.heap.size w)
  have H : (if (l1.length : Int) = (wrap64 (a0_0 + a0_2)) then ((windrowref04_opened.f k l1).bind fun t196 => (windrowref04_Right.j0 k l1 (decide (t196 > a0_4)) a0_0 a0_1 a0_2 a0_3 a0_4)) else (windrowref04_Right.j0 k l1 true a0_0 a0_1 a0_2 a0_3 a0_4)) = some r := h
  clear h
  have HC3 := Aside0.mk H
  clear H
  go_enter Try.func16, Try.ntmps16
  go_upto_region 1 with (first | ((with_reducible refine gate_dst (N := 2) rfl ?_); refine box_event ?hg (N := 2) ?hd (cs := #[.int .i64 a0_0, .int .i64 a0_1, .int .i64 a0_2, .int .i64 a0_3, .int .i64 a0_4]) (t := 23) ?hr ?_; (case hd => rfl); (case hg => rfl); (case hr => first | (go_simp; done) | (go_simp; rfl)); intro gb195 hg w4 hbox hb; have n0_ := Aside0.mk (below_step (by repeat (first | (with_reducible first | exact HB.out | apply below_alloc | apply pw_below_drewN | apply below_drew1) | exact HB.out)) hb); have n1_ := Aside0.mk (hbox); have n2_ := Aside0.mk ((by rw [hg]; exact (below_size (by repeat (first | (with_reducible first | exact HB.out | apply below_alloc | apply pw_below_drewN | apply below_drew1) | exact HB.out))) : w.heap.size ≤ gb195)); have n3_ := Aside0.mk ((by rw [hg]; exact (below_size (by repeat (first | (with_reducible first | exact HB.out | apply below_alloc | apply pw_below_drewN | apply below_drew1) | exact HB.out))) : w.heap.size ≤ gb195)); clear HB; have HB := n0_; have BK195 := n1_; have GW195 := n2_; have GE195 := n3_; clear n0_ n1_ n2_ n3_; clear hb hbox hg))
  repeat (go_quiet (first | ((with_reducible refine gate_dst (N := 2) rfl ?_); refine box_event ?hg (N := 2) ?hd (cs := #[.int .i64 a0_0, .int .i64 a0_1, .int .i64 a0_2, .int .i64 a0_3, .int .i64 a0_4]) (t := 23) ?hr ?_; (case hd => rfl); (case hg => rfl); (case hr => first | (go_simp; done) | (go_simp; rfl)); intro gb195 hg w4 hbox hb; have n0_ := Aside0.mk (below_step (by repeat (first | (with_reducible first | exact HB.out | apply below_alloc | apply pw_below_drewN | apply below_drew1) | exact HB.out)) hb); have n1_ := Aside0.mk (hbox); have n2_ := Aside0.mk ((by rw [hg]; exact (below_size (by repeat (first | (with_reducible first | exact HB.out | apply below_alloc | apply pw_below_drewN | apply below_drew1) | exact HB.out))) : w.heap.size ≤ gb195)); have n3_ := Aside0.mk ((by rw [hg]; exact (below_size (by repeat (first | (with_reducible first | exact HB.out | apply below_alloc | apply pw_below_drewN | apply below_drew1) | exact HB.out))) : w.heap.size ≤ gb195)); clear HB; have HB := n0_; have BK195 := n1_; have GW195 := n2_; have GE195 := n3_; clear n0_ n1_ n2_ n3_; clear hb hbox hg)); go_upto_region 1 with (first | ((with_reducible refine gate_dst (N := 2) rfl ?_); refine box_event ?hg (N := 2) ?hd (cs := #[.int .i64 a0_0, .int .i64 a0_1, .int .i64 a0_2, .int .i64 a0_3, .int .i64 a0_4]) (t := 23) ?hr ?_; (case hd => rfl); (case hg => rfl); (case hr => first | (go_simp; done) | (go_simp; rfl)); intro gb195 hg w4 hbox hb; have n0_ := Aside0.mk (below_step (by repeat (first | (with_reducible first | exact HB.out | apply below_alloc | apply pw_below_drewN | apply below_drew1) | exact HB.out)) hb); have n1_ := Aside0.mk (hbox); have n2_ := Aside0.mk ((by rw [hg]; exact (below_size (by repeat (first | (with_reducible first | exact HB.out | apply below_alloc | apply pw_below_drewN | apply below_drew1) | exact HB.out))) : w.heap.size ≤ gb195)); have n3_ := Aside0.mk ((by rw [hg]; exact (below_size (by repeat (first | (with_reducible first | exact HB.out | apply below_alloc | apply pw_below_drewN | apply below_drew1) | exact HB.out))) : w.heap.size ≤ gb195)); clear HB; have HB := n0_; have BK195 := n1_; have GW195 := n2_; have GE195 := n3_; clear n0_ n1_ n2_ n3_; clear hb hbox hg)))
  (try simp only [Act.put, List.setIfInBounds_toArray, List.set_cons_zero, List.set_cons_succ])
  go_cut [22] (fun v22 wc => ∃ (kq : Nat) (x22_2 : Bool), v22 = .bool x22_2 ∧ Aside0 (windrowref04_Right.j0 kq l1 x22_2 a0_0 a0_1 a0_2 a0_3 a0_4 = some r) ∧ Aside0 (kq ≤ k) ∧ Aside0 (wc.heap[gb195]? = some (.cells #[.int .i64 a0_0, .int .i64 a0_1, .int .i64 a0_2, .int .i64 a0_3, .int .i64 a0_4] 23 (0, 0))) ∧ Aside0 (Below w.heap.size w wc))
  case first =>
    have H := HC3.out
    clear HC3
    by_cases c5 : (l1.length : Int) = (wrap64 (a0_0 + a0_2))
    · rw [if_pos c5] at H
      have c5b0 : ((l1.length : Int) == (wrap64 (a0_0 + a0_2))) = true := beq_iff_eq.mpr c5
      have c5b1 : ((l1.length : Int) != (wrap64 (a0_0 + a0_2))) = false := bne_eq_false_iff_eq.mpr c5
      clear c5
      (first | rw [c5b0] | (simp only [i64_w, i32_w]; rw [c5b0]) | skip)
      replace H := Option.bind_eq_some_iff.mp H
      obtain ⟨t196, A60, H⟩ := H
      replace H : (windrowref04_Right.j0 k l1 (decide (t196 > a0_4)) a0_0 a0_1 a0_2 a0_3 a0_4) = some r := H
      have A6 := Aside0.mk A60
      clear A60
      have H' := Aside0.mk H
      clear H
      have hcz7_0 : w4.cell? ⟨gb195, 0, none⟩ = some (.int .i64 a0_0) := (blk_cell BK195.out 0).trans rfl
      have hcz7_1 : w4.cell? ⟨gb195, 1, none⟩ = some (.int .i64 a0_1) := (blk_cell BK195.out 1).trans rfl
      have hcz7_2 : w4.cell? ⟨gb195, 2, none⟩ = some (.int .i64 a0_2) := (blk_cell BK195.out 2).trans rfl
      have hcz7_3 : w4.cell? ⟨gb195, 3, none⟩ = some (.int .i64 a0_3) := (blk_cell BK195.out 3).trans rfl
      have hcz7_4 : w4.cell? ⟨gb195, 4, none⟩ = some (.int .i64 a0_4) := (blk_cell BK195.out 4).trans rfl
      have hfz7_0 := blk_frozen BK195.out 0
      have hfz7_1 := blk_frozen BK195.out 1
      have hfz7_2 := blk_frozen BK195.out 2
      have hfz7_3 := blk_frozen BK195.out 3
      have hfz7_4 := blk_frozen BK195.out 4
      go_wp2_with (first | (go_at_call 29; (with_reducible refine (windrowref04_opened.calls k _ _ l1 t196 _ ?side1 ?side2 A6.out).mono ?_); (case side1 => repeat (first | exact (Kd.C_below HR1.out HB.out) | (with_reducible refine Kd.C_alloc ?_ _) | (with_reducible refine Kd.C_drewN ?_ _) | (with_reducible refine Kd.C_drew ?_))); (case side2 => exact HC1.out); rintro e w' ⟨rfl, ⟨nd, rfl⟩⟩; (try first | exact ⟨rfl, _, World.drewN_drewN _ _ _⟩ | exact ⟨rfl, _, Eq.trans (World.drewN_drewN _ _ _) (congrArg (World.drewN _) (Nat.add_assoc _ _ _))⟩)))
      repeat (go_quiet (first | (go_at_call 29; (with_reducible refine (windrowref04_opened.calls k _ _ l1 t196 _ ?side1 ?side2 A6.out).mono ?_); (case side1 => repeat (first | exact (Kd.C_below HR1.out HB.out) | (with_reducible refine Kd.C_alloc ?_ _) | (with_reducible refine Kd.C_drewN ?_ _) | (with_reducible refine Kd.C_drew ?_))); (case side2 => exact HC1.out); rintro e w' ⟨rfl, ⟨nd, rfl⟩⟩; (try first | exact ⟨rfl, _, World.drewN_drewN _ _ _⟩ | exact ⟨rfl, _, Eq.trans (World.drewN_drewN _ _ _) (congrArg (World.drewN _) (Nat.add_assoc _ _ _))⟩))); try go_wp2_with (first | (go_at_call 29; (with_reducible refine (windrowref04_opened.calls k _ _ l1 t196 _ ?side1 ?side2 A6.out).mono ?_); (case side1 => repeat (first | exact (Kd.C_below HR1.out HB.out) | (with_reducible refine Kd.C_alloc ?_ _) | (with_reducible refine Kd.C_drewN ?_ _) | (with_reducible refine Kd.C_drew ?_))); (case side2 => exact HC1.out); rintro e w' ⟨rfl, ⟨nd, rfl⟩⟩; (try first | exact ⟨rfl, _, World.drewN_drewN _ _ _⟩ | exact ⟨rfl, _, Eq.trans (World.drewN_drewN _ _ _) (congrArg (World.drewN _) (Nat.add_assoc _ _ _))⟩))))
      go_meet
      case rel => exact ⟨_, (decide (t196 > a0_4)), (by first | rfl | (simp; done) | (simp [*]; done)), H', ⟨by first | omega | exact Nat.le_refl _⟩, ⟨by (with_reducible repeat (first | refine blk_drewN ?_ _ | refine blk_drew ?_ | refine blk_alloc ?_ _)); exact BK195.out⟩, ⟨by repeat (first | (with_reducible first | exact HB.out | apply below_alloc | apply pw_below_drewN | apply below_drew1 | refine below_set ?_ GE195.out) | exact HB.out)⟩⟩
    · rw [if_neg c5] at H
      have c5b0 : ((l1.length : Int) == (wrap64 (a0_0 + a0_2))) = false := beq_eq_false_iff_ne.mpr c5
      have c5b1 : ((l1.length : Int) != (wrap64 (a0_0 + a0_2))) = true := bne_iff_ne.mpr c5
      (first | rw [c5b0] | (simp only [i64_w, i32_w]; rw [c5b0]) | skip)
      have H' := Aside0.mk H
      clear H
      have hcz8_0 : w4.cell? ⟨gb195, 0, none⟩ = some (.int .i64 a0_0) := (blk_cell BK195.out 0).trans rfl
      have hcz8_1 : w4.cell? ⟨gb195, 1, none⟩ = some (.int .i64 a0_1) := (blk_cell BK195.out 1).trans rfl
      have hcz8_2 : w4.cell? ⟨gb195, 2, none⟩ = some (.int .i64 a0_2) := (blk_cell BK195.out 2).trans rfl
      have hcz8_3 : w4.cell? ⟨gb195, 3, none⟩ = some (.int .i64 a0_3) := (blk_cell BK195.out 3).trans rfl
      have hcz8_4 : w4.cell? ⟨gb195, 4, none⟩ = some (.int .i64 a0_4) := (blk_cell BK195.out 4).trans rfl
      have hfz8_0 := blk_frozen BK195.out 0
      have hfz8_1 := blk_frozen BK195.out 1
      have hfz8_2 := blk_frozen BK195.out 2
      have hfz8_3 := blk_frozen BK195.out 3
      have hfz8_4 := blk_frozen BK195.out 4
      go_wp2
      repeat (go_quiet (fail); try go_wp2)
      go_meet
      case rel => exact ⟨_, (true), (by first | rfl | (simp; done) | (simp [*]; done)), H', ⟨by first | omega | exact Nat.le_refl _⟩, ⟨by (with_reducible repeat (first | refine blk_drewN ?_ _ | refine blk_drew ?_ | refine blk_alloc ?_ _)); exact BK195.out⟩, ⟨by repeat (first | (with_reducible first | exact HB.out | apply below_alloc | apply pw_below_drewN | apply below_drew1 | refine below_set ?_ GE195.out) | exact HB.out)⟩⟩
  case rest =>
    clear HC3
    try clear c1
    try clear p2
    try clear c5
    try clear c5b0
    try clear c5b1
    try clear p6
    try clear hcz7_0
    try clear hcz7_1
    try clear hcz7_2
    try clear hcz7_3
    try clear hcz7_4
    try clear hcz8_0
    try clear hcz8_1
    try clear hcz8_2
    try clear hcz8_3
    try clear hcz8_4
    try clear hfz7_0
    try clear hfz7_1
    try clear hfz7_2
    try clear hfz7_3
    try clear hfz7_4
    try clear hfz8_0
    try clear hfz8_1
    try clear hfz8_2
    try clear hfz8_3
    try clear hfz8_4
    obtain ⟨kq, x22_2, rfl, HA, HJ2, BK195, HB⟩ := hcut
    cases kq with
    | zero => exact absurd HA.out (by simp [windrowref04_Right.j0])
    | succ kj2 =>
      have H := HA.out
      clear HA
      simp only [windrowref04_Right.j0] at H
      by_cases c9 : x22_2 = true
      · subst c9
        have H1 : (some false) = some r := by rw [if_pos rfl] at H; exact H
        clear H
        have H := H1
        clear H1
        obtain rfl := Option.some.inj H
        go_wp2
        repeat (go_quiet (fail); try go_wp2)
        go_ret
        exact ⟨by first | rfl | (simp [errW_none, errW_some] <;> rfl) | (simp [*, errW_none, errW_some] <;> rfl), by repeat (first | (with_reducible first | exact HB.out | apply below_alloc | apply pw_below_drewN | apply below_drew1 | refine below_set ?_ GE195.out) | exact HB.out)⟩
      · replace c9 := Bool.eq_false_iff.mpr c9
        subst c9
        have H1 : (windrowref04_Right.l0 kj2 l1 0 a0_0 a0_1 a0_2 a0_3 a0_4) = some r := by rw [if_neg (show ¬ (false = true) by decide)] at H; exact H
        clear H
        have H := H1
        clear H1
        have H' := Aside0.mk H
        clear H
        go_wp2
        repeat (go_quiet (fail); try go_wp2)
        go_loopg [5] kj2 (fun kq v5 w' => ∃ (x5_2 : Int), v5 = .int .i64 x5_2 ∧ Aside0 (windrowref04_Right.l0 kq l1 x5_2 a0_0 a0_1 a0_2 a0_3 a0_4 = some r) ∧ Aside0 (kq ≤ kj2) ∧ Aside0 (w'.heap[gb195]? = some (.cells #[.int .i64 a0_0, .int .i64 a0_1, .int .i64 a0_2, .int .i64 a0_3, .int .i64 a0_4] 23 (0, 0))) ∧ Aside0 (Below w.heap.size w w'))
        case atStart => exact ⟨(0), (by first | rfl | (simp; done) | (simp [*]; done)), H', ⟨Nat.le_refl _⟩, ⟨by (with_reducible repeat (first | refine blk_drewN ?_ _ | refine blk_drew ?_ | refine blk_alloc ?_ _)); exact BK195.out⟩, ⟨by repeat (first | (with_reducible first | exact HB.out | apply below_alloc | apply pw_below_drewN | apply below_drew1 | refine below_set ?_ GE195.out) | exact HB.out)⟩⟩
        case round =>
          clear H'
          try clear c1
          try clear p2
          try clear c5
          try clear c5b0
          try clear c5b1
          try clear p6
          try clear c9
          try clear hcz7_0
          try clear hcz7_1
          try clear hcz7_2
          try clear hcz7_3
          try clear hcz7_4
          try clear hcz8_0
          try clear hcz8_1
          try clear hcz8_2
          try clear hcz8_3
          try clear hcz8_4
          try clear hfz7_0
          try clear hfz7_1
          try clear hfz7_2
          try clear hfz7_3
          try clear hfz7_4
          try clear hfz8_0
          try clear hfz8_1
          try clear hfz8_2
          try clear hfz8_3
          try clear hfz8_4
          try clear p2
          try clear p6
          obtain ⟨x5_2, rfl, HA, HK2, BK195, HB⟩ := hrel
          cases gk with
          | zero => exact absurd HA.out (by simp [windrowref04_Right.l0])
          | succ k2 =>
            have H := HA.out
            clear HA
            simp only [windrowref04_Right.l0] at H
            by_cases c10 : x5_2 < (l1.length : Int)
            · rw [if_pos c10] at H
              have c10b0 : decide (x5_2 < (l1.length : Int)) = true := decide_eq_true c10
              clear c10
              by_cases c11 : 0 ≤ x5_2
              · rw [if_pos c11] at H
                have c11b0 : decide (0 ≤ x5_2) = true := decide_eq_true c11
                clear c11
                by_cases c12 : x5_2 < a0_0
                · rw [if_pos c12] at H
                  have c12b0 : decide (x5_2 < a0_0) = true := decide_eq_true c12
                  clear c12
                  have HC13 := Aside0.mk H
                  clear H
                  have p197 : 0 ≤ (x5_2 : Int) := of_decide_eq_true (by first | (with_reducible assumption) | assumption)
                  have q197 : x5_2 < (l1.length : Int) := of_decide_eq_true (by first | (with_reducible assumption) | assumption)
                  obtain ⟨ad197, e197, hx197_0, hx197_1⟩ := at_T36 HR1.out x5_2 p197 q197
                  cases e197
                  replace hx197_0 := (HB.out.cell (World.block_lt_of_cell? w _ hx197_0)).trans hx197_0
                  replace hx197_1 := (HB.out.cell (World.block_lt_of_cell? w _ hx197_1)).trans hx197_1
                  replace p197 := eq_true p197
                  replace q197 := eq_true q197
                  have p198 : 0 ≤ (x5_2 : Int) := of_decide_eq_true (by first | (with_reducible assumption) | assumption)
                  have q198 : x5_2 < (l1.length : Int) := of_decide_eq_true (by first | (with_reducible assumption) | assumption)
                  obtain ⟨ad198, e198, hx198_0, hx198_1⟩ := at_T36 HR1.out x5_2 p198 q198
                  obtain rfl : ad197 = ad198 := (by injection e198)
                  replace hx198_0 := (HB.out.cell (World.block_lt_of_cell? w _ hx198_0)).trans hx198_0
                  replace hx198_1 := (HB.out.cell (World.block_lt_of_cell? w _ hx198_1)).trans hx198_1
                  replace p198 := eq_true p198
                  replace q198 := eq_true q198
                  have hcz14_0 : wr.cell? ⟨gb195, 0, none⟩ = some (.int .i64 a0_0) := (blk_cell BK195.out 0).trans rfl
                  have hcz14_1 : wr.cell? ⟨gb195, 1, none⟩ = some (.int .i64 a0_1) := (blk_cell BK195.out 1).trans rfl
                  have hcz14_2 : wr.cell? ⟨gb195, 2, none⟩ = some (.int .i64 a0_2) := (blk_cell BK195.out 2).trans rfl
                  have hcz14_3 : wr.cell? ⟨gb195, 3, none⟩ = some (.int .i64 a0_3) := (blk_cell BK195.out 3).trans rfl
                  have hcz14_4 : wr.cell? ⟨gb195, 4, none⟩ = some (.int .i64 a0_4) := (blk_cell BK195.out 4).trans rfl
                  have hfz14_0 := blk_frozen BK195.out 0
                  have hfz14_1 := blk_frozen BK195.out 1
                  have hfz14_2 := blk_frozen BK195.out 2
                  have hfz14_3 := blk_frozen BK195.out 3
                  have hfz14_4 := blk_frozen BK195.out 4
                  go_upto_region 9 with (fail)
                  repeat (go_quiet (fail); go_upto_region 9 with (fail))
                  go_cut [48] (fun v48 wc => ∃ (kq : Nat) (x48_12 : Bool), v48 = .bool x48_12 ∧ Aside0 (windrowref04_Right.j2 kq l1 x5_2 x48_12 a0_0 a0_1 a0_2 a0_3 a0_4 = some r) ∧ Aside0 (kq ≤ k2) ∧ Aside0 (wc.heap[gb195]? = some (.cells #[.int .i64 a0_0, .int .i64 a0_1, .int .i64 a0_2, .int .i64 a0_3, .int .i64 a0_4] 23 (0, 0))) ∧ Aside0 (Below w.heap.size w wc))
                  case first =>
                    have H := HC13.out
                    clear HC13
                    by_cases c15 : ((rd_T36 l1 x5_2).f0) = 4
                    · rw [if_pos c15] at H
                      have c15b0 : (((rd_T36 l1 x5_2).f0) == 4) = true := beq_iff_eq.mpr c15
                      have c15b1 : (((rd_T36 l1 x5_2).f0) != 4) = false := bne_eq_false_iff_eq.mpr c15
                      clear c15
                      (first | rw [c15b0] | (simp only [i64_w, i32_w]; rw [c15b0]) | skip)
                      have H' := Aside0.mk H
                      clear H
                      go_wp2
                      repeat (go_quiet (fail); try go_wp2)
                      go_meet
                      case rel => exact ⟨_, ((((rd_T36 l1 x5_2).f1) != 0)), (by first | rfl | (simp; done) | (simp [*]; done)), H', ⟨by have := HJ2.out; have := HK2.out; first | omega | exact Nat.le_refl _⟩, ⟨by (with_reducible repeat (first | refine blk_drewN ?_ _ | refine blk_drew ?_ | refine blk_alloc ?_ _)); exact BK195.out⟩, ⟨by repeat (first | (with_reducible first | exact HB.out | apply below_alloc | apply pw_below_drewN | apply below_drew1 | refine below_set ?_ GE195.out) | exact HB.out)⟩⟩
                    · rw [if_neg c15] at H
                      have c15b0 : (((rd_T36 l1 x5_2).f0) == 4) = false := beq_eq_false_iff_ne.mpr c15
                      have c15b1 : (((rd_T36 l1 x5_2).f0) != 4) = true := bne_iff_ne.mpr c15
                      (first | rw [c15b0] | (simp only [i64_w, i32_w]; rw [c15b0]) | skip)
                      have H' := Aside0.mk H
                      clear H
                      go_wp2
                      repeat (go_quiet (fail); try go_wp2)
                      go_meet
                      case rel => exact ⟨_, (true), (by first | rfl | (simp; done) | (simp [*]; done)), H', ⟨by have := HJ2.out; have := HK2.out; first | omega | exact Nat.le_refl _⟩, ⟨by (with_reducible repeat (first | refine blk_drewN ?_ _ | refine blk_drew ?_ | refine blk_alloc ?_ _)); exact BK195.out⟩, ⟨by repeat (first | (with_reducible first | exact HB.out | apply below_alloc | apply pw_below_drewN | apply below_drew1 | refine below_set ?_ GE195.out) | exact HB.out)⟩⟩
                  case rest =>
                    clear HC13
                    try clear c1
                    try clear p1
                    try clear q1
                    try clear hx1
                    try clear p2
                    try clear c5
                    try clear c5b0
                    try clear c5b1
                    try clear p6
                    try clear c9
                    try clear c10
                    try clear c10b0
                    try clear c11
                    try clear c11b0
                    try clear c12
                    try clear c12b0
                    try clear c15
                    try clear c15b0
                    try clear c15b1
                    try clear hcz14_0
                    try clear hcz14_1
                    try clear hcz14_2
                    try clear hcz14_3
                    try clear hcz14_4
                    try clear hcz7_0
                    try clear hcz7_1
                    try clear hcz7_2
                    try clear hcz7_3
                    try clear hcz7_4
                    try clear hcz8_0
                    try clear hcz8_1
                    try clear hcz8_2
                    try clear hcz8_3
                    try clear hcz8_4
                    try clear hfz14_0
                    try clear hfz14_1
                    try clear hfz14_2
                    try clear hfz14_3
                    try clear hfz14_4
                    try clear hfz7_0
                    try clear hfz7_1
                    try clear hfz7_2
                    try clear hfz7_3
                    try clear hfz7_4
                    try clear hfz8_0
                    try clear hfz8_1
                    try clear hfz8_2
                    try clear hfz8_3
                    try clear hfz8_4
                    try clear hx197_0
                    try clear hx197_1
                    try clear hx198_0
                    try clear hx198_1
                    try clear p197
                    try clear p198
                    try clear p2
                    try clear p6
                    try clear q197
                    try clear q198
                    obtain ⟨kq, x48_12, rfl, HA, HJ12, BK195, HB⟩ := hcut
                    cases kq with
                    | zero => exact absurd HA.out (by simp [windrowref04_Right.j2])
                    | succ kj12 =>
                      have H := HA.out
                      clear HA
                      simp only [windrowref04_Right.j2] at H
                      by_cases c16 : x48_12 = true
                      · subst c16
                        have H1 : (some false) = some r := by rw [if_pos rfl] at H; exact H
                        clear H
                        have H := H1
                        clear H1
                        obtain rfl := Option.some.inj H
                        go_wp2
                        repeat (go_quiet (fail); try go_wp2)
                        go_ret
                        exact ⟨by first | rfl | (simp [errW_none, errW_some] <;> rfl) | (simp [*, errW_none, errW_some] <;> rfl), by repeat (first | (with_reducible first | exact HB.out | apply below_alloc | apply pw_below_drewN | apply below_drew1 | refine below_set ?_ GE195.out) | exact HB.out)⟩
                      · replace c16 := Bool.eq_false_iff.mpr c16
                        subst c16
                        have H1 : (windrowref04_Right.l0 kj12 l1 (wrap64 (x5_2 + 1)) a0_0 a0_1 a0_2 a0_3 a0_4) = some r := by rw [if_neg (show ¬ (false = true) by decide)] at H; exact H
                        clear H
                        have H := H1
                        clear H1
                        have H' := Aside0.mk H
                        clear H
                        go_wp2
                        repeat (go_quiet (fail); try go_wp2)
                        go_roundg kj12
                        case measure => have := HJ2.out; have := HK2.out; have := HJ12.out; omega
                        case rel => exact ⟨(wrap64 (x5_2 + 1)), (by first | rfl | (simp; done) | (simp [*]; done)), H', ⟨by have := HJ2.out; have := HK2.out; have := HJ12.out; omega⟩, ⟨by (with_reducible repeat (first | refine blk_drewN ?_ _ | refine blk_drew ?_ | refine blk_alloc ?_ _)); exact BK195.out⟩, ⟨by repeat (first | (with_reducible first | exact HB.out | apply below_alloc | apply pw_below_drewN | apply below_drew1 | refine below_set ?_ GE195.out) | exact HB.out)⟩⟩
                · rw [if_neg c12] at H
                  have c12b0 : decide (x5_2 < a0_0) = false := decide_eq_false c12
                  clear c12
                  by_cases c17 : ((rd_T36 l1 x5_2).f0) < 0
                  · rw [if_pos c17] at H
                    have c17b0 : decide (((rd_T36 l1 x5_2).f0) < 0) = true := decide_eq_true c17
                    clear c17
                    obtain rfl := Option.some.inj H
                    have p197 : 0 ≤ (x5_2 : Int) := of_decide_eq_true (by first | (with_reducible assumption) | assumption)
                    have q197 : x5_2 < (l1.length : Int) := of_decide_eq_true (by first | (with_reducible assumption) | assumption)
                    obtain ⟨ad197, e197, hx197_0, hx197_1⟩ := at_T36 HR1.out x5_2 p197 q197
                    cases e197
                    replace hx197_0 := (HB.out.cell (World.block_lt_of_cell? w _ hx197_0)).trans hx197_0
                    replace hx197_1 := (HB.out.cell (World.block_lt_of_cell? w _ hx197_1)).trans hx197_1
                    replace p197 := eq_true p197
                    replace q197 := eq_true q197
                    have p198 : 0 ≤ (x5_2 : Int) := of_decide_eq_true (by first | (with_reducible assumption) | assumption)
                    have q198 : x5_2 < (l1.length : Int) := of_decide_eq_true (by first | (with_reducible assumption) | assumption)
                    obtain ⟨ad198, e198, hx198_0, hx198_1⟩ := at_T36 HR1.out x5_2 p198 q198
                    obtain rfl : ad197 = ad198 := (by injection e198)
                    replace hx198_0 := (HB.out.cell (World.block_lt_of_cell? w _ hx198_0)).trans hx198_0
                    replace hx198_1 := (HB.out.cell (World.block_lt_of_cell? w _ hx198_1)).trans hx198_1
                    replace p198 := eq_true p198
                    replace q198 := eq_true q198
                    have hcz18_0 : wr.cell? ⟨gb195, 0, none⟩ = some (.int .i64 a0_0) := (blk_cell BK195.out 0).trans rfl
                    have hcz18_1 : wr.cell? ⟨gb195, 1, none⟩ = some (.int .i64 a0_1) := (blk_cell BK195.out 1).trans rfl
                    have hcz18_2 : wr.cell? ⟨gb195, 2, none⟩ = some (.int .i64 a0_2) := (blk_cell BK195.out 2).trans rfl
                    have hcz18_3 : wr.cell? ⟨gb195, 3, none⟩ = some (.int .i64 a0_3) := (blk_cell BK195.out 3).trans rfl
                    have hcz18_4 : wr.cell? ⟨gb195, 4, none⟩ = some (.int .i64 a0_4) := (blk_cell BK195.out 4).trans rfl
                    have hfz18_0 := blk_frozen BK195.out 0
                    have hfz18_1 := blk_frozen BK195.out 1
                    have hfz18_2 := blk_frozen BK195.out 2
                    have hfz18_3 := blk_frozen BK195.out 3
                    have hfz18_4 := blk_frozen BK195.out 4
                    go_wp2
                    repeat (go_quiet (fail); try go_wp2)
                    go_ret
                    exact ⟨by first | rfl | (simp [errW_none, errW_some] <;> rfl) | (simp [*, errW_none, errW_some] <;> rfl), by repeat (first | (with_reducible first | exact HB.out | apply below_alloc | apply pw_below_drewN | apply below_drew1 | refine below_set ?_ GE195.out) | exact HB.out)⟩
                  · rw [if_neg c17] at H
                    have c17b0 : decide (((rd_T36 l1 x5_2).f0) < 0) = false := decide_eq_false c17
                    clear c17
                    by_cases c19 : ((rd_T36 l1 x5_2).f0) > 3
                    · rw [if_pos c19] at H
                      have c19b0 : decide (3 < ((rd_T36 l1 x5_2).f0)) = true := decide_eq_true c19
                      clear c19
                      obtain rfl := Option.some.inj H
                      have p197 : 0 ≤ (x5_2 : Int) := of_decide_eq_true (by first | (with_reducible assumption) | assumption)
                      have q197 : x5_2 < (l1.length : Int) := of_decide_eq_true (by first | (with_reducible assumption) | assumption)
                      obtain ⟨ad197, e197, hx197_0, hx197_1⟩ := at_T36 HR1.out x5_2 p197 q197
                      cases e197
                      replace hx197_0 := (HB.out.cell (World.block_lt_of_cell? w _ hx197_0)).trans hx197_0
                      replace hx197_1 := (HB.out.cell (World.block_lt_of_cell? w _ hx197_1)).trans hx197_1
                      replace p197 := eq_true p197
                      replace q197 := eq_true q197
                      have p198 : 0 ≤ (x5_2 : Int) := of_decide_eq_true (by first | (with_reducible assumption) | assumption)
                      have q198 : x5_2 < (l1.length : Int) := of_decide_eq_true (by first | (with_reducible assumption) | assumption)
                      obtain ⟨ad198, e198, hx198_0, hx198_1⟩ := at_T36 HR1.out x5_2 p198 q198
                      obtain rfl : ad197 = ad198 := (by injection e198)
                      replace hx198_0 := (HB.out.cell (World.block_lt_of_cell? w _ hx198_0)).trans hx198_0
                      replace hx198_1 := (HB.out.cell (World.block_lt_of_cell? w _ hx198_1)).trans hx198_1
                      replace p198 := eq_true p198
                      replace q198 := eq_true q198
                      have hcz20_0 : wr.cell? ⟨gb195, 0, none⟩ = some (.int .i64 a0_0) := (blk_cell BK195.out 0).trans rfl
                      have hcz20_1 : wr.cell? ⟨gb195, 1, none⟩ = some (.int .i64 a0_1) := (blk_cell BK195.out 1).trans rfl
                      have hcz20_2 : wr.cell? ⟨gb195, 2, none⟩ = some (.int .i64 a0_2) := (blk_cell BK195.out 2).trans rfl
                      have hcz20_3 : wr.cell? ⟨gb195, 3, none⟩ = some (.int .i64 a0_3) := (blk_cell BK195.out 3).trans rfl
                      have hcz20_4 : wr.cell? ⟨gb195, 4, none⟩ = some (.int .i64 a0_4) := (blk_cell BK195.out 4).trans rfl
                      have hfz20_0 := blk_frozen BK195.out 0
                      have hfz20_1 := blk_frozen BK195.out 1
                      have hfz20_2 := blk_frozen BK195.out 2
                      have hfz20_3 := blk_frozen BK195.out 3
                      have hfz20_4 := blk_frozen BK195.out 4
                      go_wp2
                      repeat (go_quiet (fail); try go_wp2)
                      go_ret
                      exact ⟨by first | rfl | (simp [errW_none, errW_some] <;> rfl) | (simp [*, errW_none, errW_some] <;> rfl), by repeat (first | (with_reducible first | exact HB.out | apply below_alloc | apply pw_below_drewN | apply below_drew1 | refine below_set ?_ GE195.out) | exact HB.out)⟩
                    · rw [if_neg c19] at H
                      have c19b0 : decide (3 < ((rd_T36 l1 x5_2).f0)) = false := decide_eq_false c19
                      clear c19
                      by_cases c21 : ((rd_T36 l1 x5_2).f1) < 0
                      · rw [if_pos c21] at H
                        have c21b0 : decide (((rd_T36 l1 x5_2).f1) < 0) = true := decide_eq_true c21
                        clear c21
                        obtain rfl := Option.some.inj H
                        have p197 : 0 ≤ (x5_2 : Int) := of_decide_eq_true (by first | (with_reducible assumption) | assumption)
                        have q197 : x5_2 < (l1.length : Int) := of_decide_eq_true (by first | (with_reducible assumption) | assumption)
                        obtain ⟨ad197, e197, hx197_0, hx197_1⟩ := at_T36 HR1.out x5_2 p197 q197
                        cases e197
                        replace hx197_0 := (HB.out.cell (World.block_lt_of_cell? w _ hx197_0)).trans hx197_0
                        replace hx197_1 := (HB.out.cell (World.block_lt_of_cell? w _ hx197_1)).trans hx197_1
                        replace p197 := eq_true p197
                        replace q197 := eq_true q197
                        have p198 : 0 ≤ (x5_2 : Int) := of_decide_eq_true (by first | (with_reducible assumption) | assumption)
                        have q198 : x5_2 < (l1.length : Int) := of_decide_eq_true (by first | (with_reducible assumption) | assumption)
                        obtain ⟨ad198, e198, hx198_0, hx198_1⟩ := at_T36 HR1.out x5_2 p198 q198
                        obtain rfl : ad197 = ad198 := (by injection e198)
                        replace hx198_0 := (HB.out.cell (World.block_lt_of_cell? w _ hx198_0)).trans hx198_0
                        replace hx198_1 := (HB.out.cell (World.block_lt_of_cell? w _ hx198_1)).trans hx198_1
                        replace p198 := eq_true p198
                        replace q198 := eq_true q198
                        have hcz22_0 : wr.cell? ⟨gb195, 0, none⟩ = some (.int .i64 a0_0) := (blk_cell BK195.out 0).trans rfl
                        have hcz22_1 : wr.cell? ⟨gb195, 1, none⟩ = some (.int .i64 a0_1) := (blk_cell BK195.out 1).trans rfl
                        have hcz22_2 : wr.cell? ⟨gb195, 2, none⟩ = some (.int .i64 a0_2) := (blk_cell BK195.out 2).trans rfl
                        have hcz22_3 : wr.cell? ⟨gb195, 3, none⟩ = some (.int .i64 a0_3) := (blk_cell BK195.out 3).trans rfl
                        have hcz22_4 : wr.cell? ⟨gb195, 4, none⟩ = some (.int .i64 a0_4) := (blk_cell BK195.out 4).trans rfl
                        have hfz22_0 := blk_frozen BK195.out 0
                        have hfz22_1 := blk_frozen BK195.out 1
                        have hfz22_2 := blk_frozen BK195.out 2
                        have hfz22_3 := blk_frozen BK195.out 3
                        have hfz22_4 := blk_frozen BK195.out 4
                        go_wp2
                        repeat (go_quiet (fail); try go_wp2)
                        go_ret
                        exact ⟨by first | rfl | (simp [errW_none, errW_some] <;> rfl) | (simp [*, errW_none, errW_some] <;> rfl), by repeat (first | (with_reducible first | exact HB.out | apply below_alloc | apply pw_below_drewN | apply below_drew1 | refine below_set ?_ GE195.out) | exact HB.out)⟩
                      · rw [if_neg c21] at H
                        have c21b0 : decide (((rd_T36 l1 x5_2).f1) < 0) = false := decide_eq_false c21
                        clear c21
                        by_cases c23 : ((rd_T36 l1 x5_2).f1) > a0_3
                        · rw [if_pos c23] at H
                          have c23b0 : decide (a0_3 < ((rd_T36 l1 x5_2).f1)) = true := decide_eq_true c23
                          clear c23
                          obtain rfl := Option.some.inj H
                          have p197 : 0 ≤ (x5_2 : Int) := of_decide_eq_true (by first | (with_reducible assumption) | assumption)
                          have q197 : x5_2 < (l1.length : Int) := of_decide_eq_true (by first | (with_reducible assumption) | assumption)
                          obtain ⟨ad197, e197, hx197_0, hx197_1⟩ := at_T36 HR1.out x5_2 p197 q197
                          cases e197
                          replace hx197_0 := (HB.out.cell (World.block_lt_of_cell? w _ hx197_0)).trans hx197_0
                          replace hx197_1 := (HB.out.cell (World.block_lt_of_cell? w _ hx197_1)).trans hx197_1
                          replace p197 := eq_true p197
                          replace q197 := eq_true q197
                          have p198 : 0 ≤ (x5_2 : Int) := of_decide_eq_true (by first | (with_reducible assumption) | assumption)
                          have q198 : x5_2 < (l1.length : Int) := of_decide_eq_true (by first | (with_reducible assumption) | assumption)
                          obtain ⟨ad198, e198, hx198_0, hx198_1⟩ := at_T36 HR1.out x5_2 p198 q198
                          obtain rfl : ad197 = ad198 := (by injection e198)
                          replace hx198_0 := (HB.out.cell (World.block_lt_of_cell? w _ hx198_0)).trans hx198_0
                          replace hx198_1 := (HB.out.cell (World.block_lt_of_cell? w _ hx198_1)).trans hx198_1
                          replace p198 := eq_true p198
                          replace q198 := eq_true q198
                          have hcz24_0 : wr.cell? ⟨gb195, 0, none⟩ = some (.int .i64 a0_0) := (blk_cell BK195.out 0).trans rfl
                          have hcz24_1 : wr.cell? ⟨gb195, 1, none⟩ = some (.int .i64 a0_1) := (blk_cell BK195.out 1).trans rfl
                          have hcz24_2 : wr.cell? ⟨gb195, 2, none⟩ = some (.int .i64 a0_2) := (blk_cell BK195.out 2).trans rfl
                          have hcz24_3 : wr.cell? ⟨gb195, 3, none⟩ = some (.int .i64 a0_3) := (blk_cell BK195.out 3).trans rfl
                          have hcz24_4 : wr.cell? ⟨gb195, 4, none⟩ = some (.int .i64 a0_4) := (blk_cell BK195.out 4).trans rfl
                          have hfz24_0 := blk_frozen BK195.out 0
                          have hfz24_1 := blk_frozen BK195.out 1
                          have hfz24_2 := blk_frozen BK195.out 2
                          have hfz24_3 := blk_frozen BK195.out 3
                          have hfz24_4 := blk_frozen BK195.out 4
                          go_wp2
                          repeat (go_quiet (fail); try go_wp2)
                          go_ret
                          exact ⟨by first | rfl | (simp [errW_none, errW_some] <;> rfl) | (simp [*, errW_none, errW_some] <;> rfl), by repeat (first | (with_reducible first | exact HB.out | apply below_alloc | apply pw_below_drewN | apply below_drew1 | refine below_set ?_ GE195.out) | exact HB.out)⟩
                        · rw [if_neg c23] at H
                          have c23b0 : decide (a0_3 < ((rd_T36 l1 x5_2).f1)) = false := decide_eq_false c23
                          clear c23
                          by_cases c25 : ((rd_T36 l1 x5_2).f0) = 0
                          · rw [if_pos c25] at H
                            have c25b0 : (((rd_T36 l1 x5_2).f0) == 0) = true := beq_iff_eq.mpr c25
                            have c25b1 : (((rd_T36 l1 x5_2).f0) != 0) = false := bne_eq_false_iff_eq.mpr c25
                            clear c25
                            by_cases c26 : ((rd_T36 l1 x5_2).f1) = 0
                            · rw [if_pos c26] at H
                              have c26b0 : (((rd_T36 l1 x5_2).f1) == 0) = true := beq_iff_eq.mpr c26
                              have c26b1 : (((rd_T36 l1 x5_2).f1) != 0) = false := bne_eq_false_iff_eq.mpr c26
                              clear c26
                              by_cases c27 : ((rd_T36 l1 x5_2).f0) = 1
                              · rw [if_pos c27] at H
                                have c27b0 : (((rd_T36 l1 x5_2).f0) == 1) = true := beq_iff_eq.mpr c27
                                have c27b1 : (((rd_T36 l1 x5_2).f0) != 1) = false := bne_eq_false_iff_eq.mpr c27
                                clear c27
                                by_cases c28 : ((rd_T36 l1 x5_2).f1) = a0_3
                                · rw [if_pos c28] at H
                                  have c28b0 : (((rd_T36 l1 x5_2).f1) == a0_3) = true := beq_iff_eq.mpr c28
                                  have c28b1 : (((rd_T36 l1 x5_2).f1) != a0_3) = false := bne_eq_false_iff_eq.mpr c28
                                  clear c28
                                  obtain rfl := Option.some.inj H
                                  have p197 : 0 ≤ (x5_2 : Int) := of_decide_eq_true (by first | (with_reducible assumption) | assumption)
                                  have q197 : x5_2 < (l1.length : Int) := of_decide_eq_true (by first | (with_reducible assumption) | assumption)
                                  obtain ⟨ad197, e197, hx197_0, hx197_1⟩ := at_T36 HR1.out x5_2 p197 q197
                                  cases e197
                                  replace hx197_0 := (HB.out.cell (World.block_lt_of_cell? w _ hx197_0)).trans hx197_0
                                  replace hx197_1 := (HB.out.cell (World.block_lt_of_cell? w _ hx197_1)).trans hx197_1
                                  replace p197 := eq_true p197
                                  replace q197 := eq_true q197
                                  have p198 : 0 ≤ (x5_2 : Int) := of_decide_eq_true (by first | (with_reducible assumption) | assumption)
                                  have q198 : x5_2 < (l1.length : Int) := of_decide_eq_true (by first | (with_reducible assumption) | assumption)
                                  obtain ⟨ad198, e198, hx198_0, hx198_1⟩ := at_T36 HR1.out x5_2 p198 q198
                                  obtain rfl : ad197 = ad198 := (by injection e198)
                                  replace hx198_0 := (HB.out.cell (World.block_lt_of_cell? w _ hx198_0)).trans hx198_0
                                  replace hx198_1 := (HB.out.cell (World.block_lt_of_cell? w _ hx198_1)).trans hx198_1
                                  replace p198 := eq_true p198
                                  replace q198 := eq_true q198
                                  have hcz29_0 : wr.cell? ⟨gb195, 0, none⟩ = some (.int .i64 a0_0) := (blk_cell BK195.out 0).trans rfl
                                  have hcz29_1 : wr.cell? ⟨gb195, 1, none⟩ = some (.int .i64 a0_1) := (blk_cell BK195.out 1).trans rfl
                                  have hcz29_2 : wr.cell? ⟨gb195, 2, none⟩ = some (.int .i64 a0_2) := (blk_cell BK195.out 2).trans rfl
                                  have hcz29_3 : wr.cell? ⟨gb195, 3, none⟩ = some (.int .i64 a0_3) := (blk_cell BK195.out 3).trans rfl
                                  have hcz29_4 : wr.cell? ⟨gb195, 4, none⟩ = some (.int .i64 a0_4) := (blk_cell BK195.out 4).trans rfl
                                  have hfz29_0 := blk_frozen BK195.out 0
                                  have hfz29_1 := blk_frozen BK195.out 1
                                  have hfz29_2 := blk_frozen BK195.out 2
                                  have hfz29_3 := blk_frozen BK195.out 3
                                  have hfz29_4 := blk_frozen BK195.out 4
                                  go_wp2
                                  repeat (go_quiet (fail); try go_wp2)
                                  go_ret
                                  exact ⟨by first | rfl | (simp [errW_none, errW_some] <;> rfl) | (simp [*, errW_none, errW_some] <;> rfl), by repeat (first | (with_reducible first | exact HB.out | apply below_alloc | apply pw_below_drewN | apply below_drew1 | refine below_set ?_ GE195.out) | exact HB.out)⟩
                                · rw [if_neg c28] at H
                                  have c28b0 : (((rd_T36 l1 x5_2).f1) == a0_3) = false := beq_eq_false_iff_ne.mpr c28
                                  have c28b1 : (((rd_T36 l1 x5_2).f1) != a0_3) = true := bne_iff_ne.mpr c28
                                  by_cases c30 : ((rd_T36 l1 x5_2).f0) = 2
                                  · rw [if_pos c30] at H
                                    have c30b0 : (((rd_T36 l1 x5_2).f0) == 2) = true := beq_iff_eq.mpr c30
                                    have c30b1 : (((rd_T36 l1 x5_2).f0) != 2) = false := bne_eq_false_iff_eq.mpr c30
                                    clear c30
                                    obtain rfl := Option.some.inj H
                                    have p197 : 0 ≤ (x5_2 : Int) := of_decide_eq_true (by first | (with_reducible assumption) | assumption)
                                    have q197 : x5_2 < (l1.length : Int) := of_decide_eq_true (by first | (with_reducible assumption) | assumption)
                                    obtain ⟨ad197, e197, hx197_0, hx197_1⟩ := at_T36 HR1.out x5_2 p197 q197
                                    cases e197
                                    replace hx197_0 := (HB.out.cell (World.block_lt_of_cell? w _ hx197_0)).trans hx197_0
                                    replace hx197_1 := (HB.out.cell (World.block_lt_of_cell? w _ hx197_1)).trans hx197_1
                                    replace p197 := eq_true p197
                                    replace q197 := eq_true q197
                                    have p198 : 0 ≤ (x5_2 : Int) := of_decide_eq_true (by first | (with_reducible assumption) | assumption)
                                    have q198 : x5_2 < (l1.length : Int) := of_decide_eq_true (by first | (with_reducible assumption) | assumption)
                                    obtain ⟨ad198, e198, hx198_0, hx198_1⟩ := at_T36 HR1.out x5_2 p198 q198
                                    obtain rfl : ad197 = ad198 := (by injection e198)
                                    replace hx198_0 := (HB.out.cell (World.block_lt_of_cell? w _ hx198_0)).trans hx198_0
                                    replace hx198_1 := (HB.out.cell (World.block_lt_of_cell? w _ hx198_1)).trans hx198_1
                                    replace p198 := eq_true p198
                                    replace q198 := eq_true q198
                                    have hcz31_0 : wr.cell? ⟨gb195, 0, none⟩ = some (.int .i64 a0_0) := (blk_cell BK195.out 0).trans rfl
                                    have hcz31_1 : wr.cell? ⟨gb195, 1, none⟩ = some (.int .i64 a0_1) := (blk_cell BK195.out 1).trans rfl
                                    have hcz31_2 : wr.cell? ⟨gb195, 2, none⟩ = some (.int .i64 a0_2) := (blk_cell BK195.out 2).trans rfl
                                    have hcz31_3 : wr.cell? ⟨gb195, 3, none⟩ = some (.int .i64 a0_3) := (blk_cell BK195.out 3).trans rfl
                                    have hcz31_4 : wr.cell? ⟨gb195, 4, none⟩ = some (.int .i64 a0_4) := (blk_cell BK195.out 4).trans rfl
                                    have hfz31_0 := blk_frozen BK195.out 0
                                    have hfz31_1 := blk_frozen BK195.out 1
                                    have hfz31_2 := blk_frozen BK195.out 2
                                    have hfz31_3 := blk_frozen BK195.out 3
                                    have hfz31_4 := blk_frozen BK195.out 4
                                    go_wp2
                                    repeat (go_quiet (fail); try go_wp2)
                                    go_ret
                                    exact ⟨by first | rfl | (simp [errW_none, errW_some] <;> rfl) | (simp [*, errW_none, errW_some] <;> rfl), by repeat (first | (with_reducible first | exact HB.out | apply below_alloc | apply pw_below_drewN | apply below_drew1 | refine below_set ?_ GE195.out) | exact HB.out)⟩
                                  · rw [if_neg c30] at H
                                    have c30b0 : (((rd_T36 l1 x5_2).f0) == 2) = false := beq_eq_false_iff_ne.mpr c30
                                    have c30b1 : (((rd_T36 l1 x5_2).f0) != 2) = true := bne_iff_ne.mpr c30
                                    have H' := Aside0.mk H
                                    clear H
                                    have p197 : 0 ≤ (x5_2 : Int) := of_decide_eq_true (by first | (with_reducible assumption) | assumption)
                                    have q197 : x5_2 < (l1.length : Int) := of_decide_eq_true (by first | (with_reducible assumption) | assumption)
                                    obtain ⟨ad197, e197, hx197_0, hx197_1⟩ := at_T36 HR1.out x5_2 p197 q197
                                    cases e197
                                    replace hx197_0 := (HB.out.cell (World.block_lt_of_cell? w _ hx197_0)).trans hx197_0
                                    replace hx197_1 := (HB.out.cell (World.block_lt_of_cell? w _ hx197_1)).trans hx197_1
                                    replace p197 := eq_true p197
                                    replace q197 := eq_true q197
                                    have p198 : 0 ≤ (x5_2 : Int) := of_decide_eq_true (by first | (with_reducible assumption) | assumption)
                                    have q198 : x5_2 < (l1.length : Int) := of_decide_eq_true (by first | (with_reducible assumption) | assumption)
                                    obtain ⟨ad198, e198, hx198_0, hx198_1⟩ := at_T36 HR1.out x5_2 p198 q198
                                    obtain rfl : ad197 = ad198 := (by injection e198)
                                    replace hx198_0 := (HB.out.cell (World.block_lt_of_cell? w _ hx198_0)).trans hx198_0
                                    replace hx198_1 := (HB.out.cell (World.block_lt_of_cell? w _ hx198_1)).trans hx198_1
                                    replace p198 := eq_true p198
                                    replace q198 := eq_true q198
                                    have hcz32_0 : wr.cell? ⟨gb195, 0, none⟩ = some (.int .i64 a0_0) := (blk_cell BK195.out 0).trans rfl
                                    have hcz32_1 : wr.cell? ⟨gb195, 1, none⟩ = some (.int .i64 a0_1) := (blk_cell BK195.out 1).trans rfl
                                    have hcz32_2 : wr.cell? ⟨gb195, 2, none⟩ = some (.int .i64 a0_2) := (blk_cell BK195.out 2).trans rfl
                                    have hcz32_3 : wr.cell? ⟨gb195, 3, none⟩ = some (.int .i64 a0_3) := (blk_cell BK195.out 3).trans rfl
                                    have hcz32_4 : wr.cell? ⟨gb195, 4, none⟩ = some (.int .i64 a0_4) := (blk_cell BK195.out 4).trans rfl
                                    have hfz32_0 := blk_frozen BK195.out 0
                                    have hfz32_1 := blk_frozen BK195.out 1
                                    have hfz32_2 := blk_frozen BK195.out 2
                                    have hfz32_3 := blk_frozen BK195.out 3
                                    have hfz32_4 := blk_frozen BK195.out 4
                                    go_wp2
                                    repeat (go_quiet (fail); try go_wp2)
                                    go_roundg k2
                                    case measure => have := HJ2.out; have := HK2.out; omega
                                    case rel => exact ⟨(wrap64 (x5_2 + 1)), (by first | rfl | (simp; done) | (simp [*]; done)), H', ⟨by have := HJ2.out; have := HK2.out; omega⟩, ⟨by (with_reducible repeat (first | refine blk_drewN ?_ _ | refine blk_drew ?_ | refine blk_alloc ?_ _)); exact BK195.out⟩, ⟨by repeat (first | (with_reducible first | exact HB.out | apply below_alloc | apply pw_below_drewN | apply below_drew1 | refine below_set ?_ GE195.out) | exact HB.out)⟩⟩
                              · rw [if_neg c27] at H
                                have c27b0 : (((rd_T36 l1 x5_2).f0) == 1) = false := beq_eq_false_iff_ne.mpr c27
                                have c27b1 : (((rd_T36 l1 x5_2).f0) != 1) = true := bne_iff_ne.mpr c27
                                by_cases c33 : ((rd_T36 l1 x5_2).f0) = 2
                                · rw [if_pos c33] at H
                                  have c33b0 : (((rd_T36 l1 x5_2).f0) == 2) = true := beq_iff_eq.mpr c33
                                  have c33b1 : (((rd_T36 l1 x5_2).f0) != 2) = false := bne_eq_false_iff_eq.mpr c33
                                  clear c33
                                  by_cases c34 : ((rd_T36 l1 x5_2).f1) = a0_3
                                  · rw [if_pos c34] at H
                                    have c34b0 : (((rd_T36 l1 x5_2).f1) == a0_3) = true := beq_iff_eq.mpr c34
                                    have c34b1 : (((rd_T36 l1 x5_2).f1) != a0_3) = false := bne_eq_false_iff_eq.mpr c34
                                    clear c34
                                    obtain rfl := Option.some.inj H
                                    have p197 : 0 ≤ (x5_2 : Int) := of_decide_eq_true (by first | (with_reducible assumption) | assumption)
                                    have q197 : x5_2 < (l1.length : Int) := of_decide_eq_true (by first | (with_reducible assumption) | assumption)
                                    obtain ⟨ad197, e197, hx197_0, hx197_1⟩ := at_T36 HR1.out x5_2 p197 q197
                                    cases e197
                                    replace hx197_0 := (HB.out.cell (World.block_lt_of_cell? w _ hx197_0)).trans hx197_0
                                    replace hx197_1 := (HB.out.cell (World.block_lt_of_cell? w _ hx197_1)).trans hx197_1
                                    replace p197 := eq_true p197
                                    replace q197 := eq_true q197
                                    have p198 : 0 ≤ (x5_2 : Int) := of_decide_eq_true (by first | (with_reducible assumption) | assumption)
                                    have q198 : x5_2 < (l1.length : Int) := of_decide_eq_true (by first | (with_reducible assumption) | assumption)
                                    obtain ⟨ad198, e198, hx198_0, hx198_1⟩ := at_T36 HR1.out x5_2 p198 q198
                                    obtain rfl : ad197 = ad198 := (by injection e198)
                                    replace hx198_0 := (HB.out.cell (World.block_lt_of_cell? w _ hx198_0)).trans hx198_0
                                    replace hx198_1 := (HB.out.cell (World.block_lt_of_cell? w _ hx198_1)).trans hx198_1
                                    replace p198 := eq_true p198
                                    replace q198 := eq_true q198
                                    have hcz35_0 : wr.cell? ⟨gb195, 0, none⟩ = some (.int .i64 a0_0) := (blk_cell BK195.out 0).trans rfl
                                    have hcz35_1 : wr.cell? ⟨gb195, 1, none⟩ = some (.int .i64 a0_1) := (blk_cell BK195.out 1).trans rfl
                                    have hcz35_2 : wr.cell? ⟨gb195, 2, none⟩ = some (.int .i64 a0_2) := (blk_cell BK195.out 2).trans rfl
                                    have hcz35_3 : wr.cell? ⟨gb195, 3, none⟩ = some (.int .i64 a0_3) := (blk_cell BK195.out 3).trans rfl
                                    have hcz35_4 : wr.cell? ⟨gb195, 4, none⟩ = some (.int .i64 a0_4) := (blk_cell BK195.out 4).trans rfl
                                    have hfz35_0 := blk_frozen BK195.out 0
                                    have hfz35_1 := blk_frozen BK195.out 1
                                    have hfz35_2 := blk_frozen BK195.out 2
                                    have hfz35_3 := blk_frozen BK195.out 3
                                    have hfz35_4 := blk_frozen BK195.out 4
                                    go_wp2
                                    repeat (go_quiet (fail); try go_wp2)
                                    go_ret
                                    exact ⟨by first | rfl | (simp [errW_none, errW_some] <;> rfl) | (simp [*, errW_none, errW_some] <;> rfl), by repeat (first | (with_reducible first | exact HB.out | apply below_alloc | apply pw_below_drewN | apply below_drew1 | refine below_set ?_ GE195.out) | exact HB.out)⟩
                                  · rw [if_neg c34] at H
                                    have c34b0 : (((rd_T36 l1 x5_2).f1) == a0_3) = false := beq_eq_false_iff_ne.mpr c34
                                    have c34b1 : (((rd_T36 l1 x5_2).f1) != a0_3) = true := bne_iff_ne.mpr c34
                                    obtain rfl := Option.some.inj H
                                    have p197 : 0 ≤ (x5_2 : Int) := of_decide_eq_true (by first | (with_reducible assumption) | assumption)
                                    have q197 : x5_2 < (l1.length : Int) := of_decide_eq_true (by first | (with_reducible assumption) | assumption)
                                    obtain ⟨ad197, e197, hx197_0, hx197_1⟩ := at_T36 HR1.out x5_2 p197 q197
                                    cases e197
                                    replace hx197_0 := (HB.out.cell (World.block_lt_of_cell? w _ hx197_0)).trans hx197_0
                                    replace hx197_1 := (HB.out.cell (World.block_lt_of_cell? w _ hx197_1)).trans hx197_1
                                    replace p197 := eq_true p197
                                    replace q197 := eq_true q197
                                    have p198 : 0 ≤ (x5_2 : Int) := of_decide_eq_true (by first | (with_reducible assumption) | assumption)
                                    have q198 : x5_2 < (l1.length : Int) := of_decide_eq_true (by first | (with_reducible assumption) | assumption)
                                    obtain ⟨ad198, e198, hx198_0, hx198_1⟩ := at_T36 HR1.out x5_2 p198 q198
                                    obtain rfl : ad197 = ad198 := (by injection e198)
                                    replace hx198_0 := (HB.out.cell (World.block_lt_of_cell? w _ hx198_0)).trans hx198_0
                                    replace hx198_1 := (HB.out.cell (World.block_lt_of_cell? w _ hx198_1)).trans hx198_1
                                    replace p198 := eq_true p198
                                    replace q198 := eq_true q198
                                    have hcz36_0 : wr.cell? ⟨gb195, 0, none⟩ = some (.int .i64 a0_0) := (blk_cell BK195.out 0).trans rfl
                                    have hcz36_1 : wr.cell? ⟨gb195, 1, none⟩ = some (.int .i64 a0_1) := (blk_cell BK195.out 1).trans rfl
                                    have hcz36_2 : wr.cell? ⟨gb195, 2, none⟩ = some (.int .i64 a0_2) := (blk_cell BK195.out 2).trans rfl
                                    have hcz36_3 : wr.cell? ⟨gb195, 3, none⟩ = some (.int .i64 a0_3) := (blk_cell BK195.out 3).trans rfl
                                    have hcz36_4 : wr.cell? ⟨gb195, 4, none⟩ = some (.int .i64 a0_4) := (blk_cell BK195.out 4).trans rfl
                                    have hfz36_0 := blk_frozen BK195.out 0
                                    have hfz36_1 := blk_frozen BK195.out 1
                                    have hfz36_2 := blk_frozen BK195.out 2
                                    have hfz36_3 := blk_frozen BK195.out 3
                                    have hfz36_4 := blk_frozen BK195.out 4
                                    go_wp2
                                    repeat (go_quiet (fail); try go_wp2)
                                    go_ret
                                    exact ⟨by first | rfl | (simp [errW_none, errW_some] <;> rfl) | (simp [*, errW_none, errW_some] <;> rfl), by repeat (first | (with_reducible first | exact HB.out | apply below_alloc | apply pw_below_drewN | apply below_drew1 | refine below_set ?_ GE195.out) | exact HB.out)⟩
                                · rw [if_neg c33] at H
                                  have c33b0 : (((rd_T36 l1 x5_2).f0) == 2) = false := beq_eq_false_iff_ne.mpr c33
                                  have c33b1 : (((rd_T36 l1 x5_2).f0) != 2) = true := bne_iff_ne.mpr c33
                                  have H' := Aside0.mk H
                                  clear H
                                  have p197 : 0 ≤ (x5_2 : Int) := of_decide_eq_true (by first | (with_reducible assumption) | assumption)
                                  have q197 : x5_2 < (l1.length : Int) := of_decide_eq_true (by first | (with_reducible assumption) | assumption)
                                  obtain ⟨ad197, e197, hx197_0, hx197_1⟩ := at_T36 HR1.out x5_2 p197 q197
                                  cases e197
                                  replace hx197_0 := (HB.out.cell (World.block_lt_of_cell? w _ hx197_0)).trans hx197_0
                                  replace hx197_1 := (HB.out.cell (World.block_lt_of_cell? w _ hx197_1)).trans hx197_1
                                  replace p197 := eq_true p197
                                  replace q197 := eq_true q197
                                  have p198 : 0 ≤ (x5_2 : Int) := of_decide_eq_true (by first | (with_reducible assumption) | assumption)
                                  have q198 : x5_2 < (l1.length : Int) := of_decide_eq_true (by first | (with_reducible assumption) | assumption)
                                  obtain ⟨ad198, e198, hx198_0, hx198_1⟩ := at_T36 HR1.out x5_2 p198 q198
                                  obtain rfl : ad197 = ad198 := (by injection e198)
                                  replace hx198_0 := (HB.out.cell (World.block_lt_of_cell? w _ hx198_0)).trans hx198_0
                                  replace hx198_1 := (HB.out.cell (World.block_lt_of_cell? w _ hx198_1)).trans hx198_1
                                  replace p198 := eq_true p198
                                  replace q198 := eq_true q198
                                  have hcz37_0 : wr.cell? ⟨gb195, 0, none⟩ = some (.int .i64 a0_0) := (blk_cell BK195.out 0).trans rfl
                                  have hcz37_1 : wr.cell? ⟨gb195, 1, none⟩ = some (.int .i64 a0_1) := (blk_cell BK195.out 1).trans rfl
                                  have hcz37_2 : wr.cell? ⟨gb195, 2, none⟩ = some (.int .i64 a0_2) := (blk_cell BK195.out 2).trans rfl
                                  have hcz37_3 : wr.cell? ⟨gb195, 3, none⟩ = some (.int .i64 a0_3) := (blk_cell BK195.out 3).trans rfl
                                  have hcz37_4 : wr.cell? ⟨gb195, 4, none⟩ = some (.int .i64 a0_4) := (blk_cell BK195.out 4).trans rfl
                                  have hfz37_0 := blk_frozen BK195.out 0
                                  have hfz37_1 := blk_frozen BK195.out 1
                                  have hfz37_2 := blk_frozen BK195.out 2
                                  have hfz37_3 := blk_frozen BK195.out 3
                                  have hfz37_4 := blk_frozen BK195.out 4
                                  go_wp2
                                  repeat (go_quiet (fail); try go_wp2)
                                  go_roundg k2
                                  case measure => have := HJ2.out; have := HK2.out; omega
                                  case rel => exact ⟨(wrap64 (x5_2 + 1)), (by first | rfl | (simp; done) | (simp [*]; done)), H', ⟨by have := HJ2.out; have := HK2.out; omega⟩, ⟨by (with_reducible repeat (first | refine blk_drewN ?_ _ | refine blk_drew ?_ | refine blk_alloc ?_ _)); exact BK195.out⟩, ⟨by repeat (first | (with_reducible first | exact HB.out | apply below_alloc | apply pw_below_drewN | apply below_drew1 | refine below_set ?_ GE195.out) | exact HB.out)⟩⟩
                            · rw [if_neg c26] at H
                              have c26b0 : (((rd_T36 l1 x5_2).f1) == 0) = false := beq_eq_false_iff_ne.mpr c26
                              have c26b1 : (((rd_T36 l1 x5_2).f1) != 0) = true := bne_iff_ne.mpr c26
                              obtain rfl := Option.some.inj H
                              have p197 : 0 ≤ (x5_2 : Int) := of_decide_eq_true (by first | (with_reducible assumption) | assumption)
                              have q197 : x5_2 < (l1.length : Int) := of_decide_eq_true (by first | (with_reducible assumption) | assumption)
                              obtain ⟨ad197, e197, hx197_0, hx197_1⟩ := at_T36 HR1.out x5_2 p197 q197
                              cases e197
                              replace hx197_0 := (HB.out.cell (World.block_lt_of_cell? w _ hx197_0)).trans hx197_0
                              replace hx197_1 := (HB.out.cell (World.block_lt_of_cell? w _ hx197_1)).trans hx197_1
                              replace p197 := eq_true p197
                              replace q197 := eq_true q197
                              have p198 : 0 ≤ (x5_2 : Int) := of_decide_eq_true (by first | (with_reducible assumption) | assumption)
                              have q198 : x5_2 < (l1.length : Int) := of_decide_eq_true (by first | (with_reducible assumption) | assumption)
                              obtain ⟨ad198, e198, hx198_0, hx198_1⟩ := at_T36 HR1.out x5_2 p198 q198
                              obtain rfl : ad197 = ad198 := (by injection e198)
                              replace hx198_0 := (HB.out.cell (World.block_lt_of_cell? w _ hx198_0)).trans hx198_0
                              replace hx198_1 := (HB.out.cell (World.block_lt_of_cell? w _ hx198_1)).trans hx198_1
                              replace p198 := eq_true p198
                              replace q198 := eq_true q198
                              have hcz38_0 : wr.cell? ⟨gb195, 0, none⟩ = some (.int .i64 a0_0) := (blk_cell BK195.out 0).trans rfl
                              have hcz38_1 : wr.cell? ⟨gb195, 1, none⟩ = some (.int .i64 a0_1) := (blk_cell BK195.out 1).trans rfl
                              have hcz38_2 : wr.cell? ⟨gb195, 2, none⟩ = some (.int .i64 a0_2) := (blk_cell BK195.out 2).trans rfl
                              have hcz38_3 : wr.cell? ⟨gb195, 3, none⟩ = some (.int .i64 a0_3) := (blk_cell BK195.out 3).trans rfl
                              have hcz38_4 : wr.cell? ⟨gb195, 4, none⟩ = some (.int .i64 a0_4) := (blk_cell BK195.out 4).trans rfl
                              have hfz38_0 := blk_frozen BK195.out 0
                              have hfz38_1 := blk_frozen BK195.out 1
                              have hfz38_2 := blk_frozen BK195.out 2
                              have hfz38_3 := blk_frozen BK195.out 3
                              have hfz38_4 := blk_frozen BK195.out 4
                              go_wp2
                              repeat (go_quiet (fail); try go_wp2)
                              go_ret
                              exact ⟨by first | rfl | (simp [errW_none, errW_some] <;> rfl) | (simp [*, errW_none, errW_some] <;> rfl), by repeat (first | (with_reducible first | exact HB.out | apply below_alloc | apply pw_below_drewN | apply below_drew1 | refine below_set ?_ GE195.out) | exact HB.out)⟩
                          · rw [if_neg c25] at H
                            have c25b0 : (((rd_T36 l1 x5_2).f0) == 0) = false := beq_eq_false_iff_ne.mpr c25
                            have c25b1 : (((rd_T36 l1 x5_2).f0) != 0) = true := bne_iff_ne.mpr c25
                            by_cases c39 : ((rd_T36 l1 x5_2).f0) = 1
                            · rw [if_pos c39] at H
                              have c39b0 : (((rd_T36 l1 x5_2).f0) == 1) = true := beq_iff_eq.mpr c39
                              have c39b1 : (((rd_T36 l1 x5_2).f0) != 1) = false := bne_eq_false_iff_eq.mpr c39
                              clear c39
                              by_cases c40 : ((rd_T36 l1 x5_2).f1) = a0_3
                              · rw [if_pos c40] at H
                                have c40b0 : (((rd_T36 l1 x5_2).f1) == a0_3) = true := beq_iff_eq.mpr c40
                                have c40b1 : (((rd_T36 l1 x5_2).f1) != a0_3) = false := bne_eq_false_iff_eq.mpr c40
                                clear c40
                                obtain rfl := Option.some.inj H
                                have p197 : 0 ≤ (x5_2 : Int) := of_decide_eq_true (by first | (with_reducible assumption) | assumption)
                                have q197 : x5_2 < (l1.length : Int) := of_decide_eq_true (by first | (with_reducible assumption) | assumption)
                                obtain ⟨ad197, e197, hx197_0, hx197_1⟩ := at_T36 HR1.out x5_2 p197 q197
                                cases e197
                                replace hx197_0 := (HB.out.cell (World.block_lt_of_cell? w _ hx197_0)).trans hx197_0
                                replace hx197_1 := (HB.out.cell (World.block_lt_of_cell? w _ hx197_1)).trans hx197_1
                                replace p197 := eq_true p197
                                replace q197 := eq_true q197
                                have p198 : 0 ≤ (x5_2 : Int) := of_decide_eq_true (by first | (with_reducible assumption) | assumption)
                                have q198 : x5_2 < (l1.length : Int) := of_decide_eq_true (by first | (with_reducible assumption) | assumption)
                                obtain ⟨ad198, e198, hx198_0, hx198_1⟩ := at_T36 HR1.out x5_2 p198 q198
                                obtain rfl : ad197 = ad198 := (by injection e198)
                                replace hx198_0 := (HB.out.cell (World.block_lt_of_cell? w _ hx198_0)).trans hx198_0
                                replace hx198_1 := (HB.out.cell (World.block_lt_of_cell? w _ hx198_1)).trans hx198_1
                                replace p198 := eq_true p198
                                replace q198 := eq_true q198
                                have hcz41_0 : wr.cell? ⟨gb195, 0, none⟩ = some (.int .i64 a0_0) := (blk_cell BK195.out 0).trans rfl
                                have hcz41_1 : wr.cell? ⟨gb195, 1, none⟩ = some (.int .i64 a0_1) := (blk_cell BK195.out 1).trans rfl
                                have hcz41_2 : wr.cell? ⟨gb195, 2, none⟩ = some (.int .i64 a0_2) := (blk_cell BK195.out 2).trans rfl
                                have hcz41_3 : wr.cell? ⟨gb195, 3, none⟩ = some (.int .i64 a0_3) := (blk_cell BK195.out 3).trans rfl
                                have hcz41_4 : wr.cell? ⟨gb195, 4, none⟩ = some (.int .i64 a0_4) := (blk_cell BK195.out 4).trans rfl
                                have hfz41_0 := blk_frozen BK195.out 0
                                have hfz41_1 := blk_frozen BK195.out 1
                                have hfz41_2 := blk_frozen BK195.out 2
                                have hfz41_3 := blk_frozen BK195.out 3
                                have hfz41_4 := blk_frozen BK195.out 4
                                go_wp2
                                repeat (go_quiet (fail); try go_wp2)
                                go_ret
                                exact ⟨by first | rfl | (simp [errW_none, errW_some] <;> rfl) | (simp [*, errW_none, errW_some] <;> rfl), by repeat (first | (with_reducible first | exact HB.out | apply below_alloc | apply pw_below_drewN | apply below_drew1 | refine below_set ?_ GE195.out) | exact HB.out)⟩
                              · rw [if_neg c40] at H
                                have c40b0 : (((rd_T36 l1 x5_2).f1) == a0_3) = false := beq_eq_false_iff_ne.mpr c40
                                have c40b1 : (((rd_T36 l1 x5_2).f1) != a0_3) = true := bne_iff_ne.mpr c40
                                by_cases c42 : ((rd_T36 l1 x5_2).f0) = 2
                                · rw [if_pos c42] at H
                                  have c42b0 : (((rd_T36 l1 x5_2).f0) == 2) = true := beq_iff_eq.mpr c42
                                  have c42b1 : (((rd_T36 l1 x5_2).f0) != 2) = false := bne_eq_false_iff_eq.mpr c42
                                  clear c42
                                  by_cases c43 : ((rd_T36 l1 x5_2).f1) = 0
                                  · rw [if_pos c43] at H
                                    have c43b0 : (((rd_T36 l1 x5_2).f1) == 0) = true := beq_iff_eq.mpr c43
                                    have c43b1 : (((rd_T36 l1 x5_2).f1) != 0) = false := bne_eq_false_iff_eq.mpr c43
                                    clear c43
                                    obtain rfl := Option.some.inj H
                                    have p197 : 0 ≤ (x5_2 : Int) := of_decide_eq_true (by first | (with_reducible assumption) | assumption)
                                    have q197 : x5_2 < (l1.length : Int) := of_decide_eq_true (by first | (with_reducible assumption) | assumption)
                                    obtain ⟨ad197, e197, hx197_0, hx197_1⟩ := at_T36 HR1.out x5_2 p197 q197
                                    cases e197
                                    replace hx197_0 := (HB.out.cell (World.block_lt_of_cell? w _ hx197_0)).trans hx197_0
                                    replace hx197_1 := (HB.out.cell (World.block_lt_of_cell? w _ hx197_1)).trans hx197_1
                                    replace p197 := eq_true p197
                                    replace q197 := eq_true q197
                                    have p198 : 0 ≤ (x5_2 : Int) := of_decide_eq_true (by first | (with_reducible assumption) | assumption)
                                    have q198 : x5_2 < (l1.length : Int) := of_decide_eq_true (by first | (with_reducible assumption) | assumption)
                                    obtain ⟨ad198, e198, hx198_0, hx198_1⟩ := at_T36 HR1.out x5_2 p198 q198
                                    obtain rfl : ad197 = ad198 := (by injection e198)
                                    replace hx198_0 := (HB.out.cell (World.block_lt_of_cell? w _ hx198_0)).trans hx198_0
                                    replace hx198_1 := (HB.out.cell (World.block_lt_of_cell? w _ hx198_1)).trans hx198_1
                                    replace p198 := eq_true p198
                                    replace q198 := eq_true q198
                                    have hcz44_0 : wr.cell? ⟨gb195, 0, none⟩ = some (.int .i64 a0_0) := (blk_cell BK195.out 0).trans rfl
                                    have hcz44_1 : wr.cell? ⟨gb195, 1, none⟩ = some (.int .i64 a0_1) := (blk_cell BK195.out 1).trans rfl
                                    have hcz44_2 : wr.cell? ⟨gb195, 2, none⟩ = some (.int .i64 a0_2) := (blk_cell BK195.out 2).trans rfl
                                    have hcz44_3 : wr.cell? ⟨gb195, 3, none⟩ = some (.int .i64 a0_3) := (blk_cell BK195.out 3).trans rfl
                                    have hcz44_4 : wr.cell? ⟨gb195, 4, none⟩ = some (.int .i64 a0_4) := (blk_cell BK195.out 4).trans rfl
                                    have hfz44_0 := blk_frozen BK195.out 0
                                    have hfz44_1 := blk_frozen BK195.out 1
                                    have hfz44_2 := blk_frozen BK195.out 2
                                    have hfz44_3 := blk_frozen BK195.out 3
                                    have hfz44_4 := blk_frozen BK195.out 4
                                    go_wp2
                                    repeat (go_quiet (fail); try go_wp2)
                                    go_ret
                                    exact ⟨by first | rfl | (simp [errW_none, errW_some] <;> rfl) | (simp [*, errW_none, errW_some] <;> rfl), by repeat (first | (with_reducible first | exact HB.out | apply below_alloc | apply pw_below_drewN | apply below_drew1 | refine below_set ?_ GE195.out) | exact HB.out)⟩
                                  · rw [if_neg c43] at H
                                    have c43b0 : (((rd_T36 l1 x5_2).f1) == 0) = false := beq_eq_false_iff_ne.mpr c43
                                    have c43b1 : (((rd_T36 l1 x5_2).f1) != 0) = true := bne_iff_ne.mpr c43
                                    have H' := Aside0.mk H
                                    clear H
                                    have p197 : 0 ≤ (x5_2 : Int) := of_decide_eq_true (by first | (with_reducible assumption) | assumption)
                                    have q197 : x5_2 < (l1.length : Int) := of_decide_eq_true (by first | (with_reducible assumption) | assumption)
                                    obtain ⟨ad197, e197, hx197_0, hx197_1⟩ := at_T36 HR1.out x5_2 p197 q197
                                    cases e197
                                    replace hx197_0 := (HB.out.cell (World.block_lt_of_cell? w _ hx197_0)).trans hx197_0
                                    replace hx197_1 := (HB.out.cell (World.block_lt_of_cell? w _ hx197_1)).trans hx197_1
                                    replace p197 := eq_true p197
                                    replace q197 := eq_true q197
                                    have p198 : 0 ≤ (x5_2 : Int) := of_decide_eq_true (by first | (with_reducible assumption) | assumption)
                                    have q198 : x5_2 < (l1.length : Int) := of_decide_eq_true (by first | (with_reducible assumption) | assumption)
                                    obtain ⟨ad198, e198, hx198_0, hx198_1⟩ := at_T36 HR1.out x5_2 p198 q198
                                    obtain rfl : ad197 = ad198 := (by injection e198)
                                    replace hx198_0 := (HB.out.cell (World.block_lt_of_cell? w _ hx198_0)).trans hx198_0
                                    replace hx198_1 := (HB.out.cell (World.block_lt_of_cell? w _ hx198_1)).trans hx198_1
                                    replace p198 := eq_true p198
                                    replace q198 := eq_true q198
                                    have hcz45_0 : wr.cell? ⟨gb195, 0, none⟩ = some (.int .i64 a0_0) := (blk_cell BK195.out 0).trans rfl
                                    have hcz45_1 : wr.cell? ⟨gb195, 1, none⟩ = some (.int .i64 a0_1) := (blk_cell BK195.out 1).trans rfl
                                    have hcz45_2 : wr.cell? ⟨gb195, 2, none⟩ = some (.int .i64 a0_2) := (blk_cell BK195.out 2).trans rfl
                                    have hcz45_3 : wr.cell? ⟨gb195, 3, none⟩ = some (.int .i64 a0_3) := (blk_cell BK195.out 3).trans rfl
                                    have hcz45_4 : wr.cell? ⟨gb195, 4, none⟩ = some (.int .i64 a0_4) := (blk_cell BK195.out 4).trans rfl
                                    have hfz45_0 := blk_frozen BK195.out 0
                                    have hfz45_1 := blk_frozen BK195.out 1
                                    have hfz45_2 := blk_frozen BK195.out 2
                                    have hfz45_3 := blk_frozen BK195.out 3
                                    have hfz45_4 := blk_frozen BK195.out 4
                                    go_wp2
                                    repeat (go_quiet (fail); try go_wp2)
                                    go_roundg k2
                                    case measure => have := HJ2.out; have := HK2.out; omega
                                    case rel => exact ⟨(wrap64 (x5_2 + 1)), (by first | rfl | (simp; done) | (simp [*]; done)), H', ⟨by have := HJ2.out; have := HK2.out; omega⟩, ⟨by (with_reducible repeat (first | refine blk_drewN ?_ _ | refine blk_drew ?_ | refine blk_alloc ?_ _)); exact BK195.out⟩, ⟨by repeat (first | (with_reducible first | exact HB.out | apply below_alloc | apply pw_below_drewN | apply below_drew1 | refine below_set ?_ GE195.out) | exact HB.out)⟩⟩
                                · rw [if_neg c42] at H
                                  have c42b0 : (((rd_T36 l1 x5_2).f0) == 2) = false := beq_eq_false_iff_ne.mpr c42
                                  have c42b1 : (((rd_T36 l1 x5_2).f0) != 2) = true := bne_iff_ne.mpr c42
                                  have H' := Aside0.mk H
                                  clear H
                                  have p197 : 0 ≤ (x5_2 : Int) := of_decide_eq_true (by first | (with_reducible assumption) | assumption)
                                  have q197 : x5_2 < (l1.length : Int) := of_decide_eq_true (by first | (with_reducible assumption) | assumption)
                                  obtain ⟨ad197, e197, hx197_0, hx197_1⟩ := at_T36 HR1.out x5_2 p197 q197
                                  cases e197
                                  replace hx197_0 := (HB.out.cell (World.block_lt_of_cell? w _ hx197_0)).trans hx197_0
                                  replace hx197_1 := (HB.out.cell (World.block_lt_of_cell? w _ hx197_1)).trans hx197_1
                                  replace p197 := eq_true p197
                                  replace q197 := eq_true q197
                                  have p198 : 0 ≤ (x5_2 : Int) := of_decide_eq_true (by first | (with_reducible assumption) | assumption)
                                  have q198 : x5_2 < (l1.length : Int) := of_decide_eq_true (by first | (with_reducible assumption) | assumption)
                                  obtain ⟨ad198, e198, hx198_0, hx198_1⟩ := at_T36 HR1.out x5_2 p198 q198
                                  obtain rfl : ad197 = ad198 := (by injection e198)
                                  replace hx198_0 := (HB.out.cell (World.block_lt_of_cell? w _ hx198_0)).trans hx198_0
                                  replace hx198_1 := (HB.out.cell (World.block_lt_of_cell? w _ hx198_1)).trans hx198_1
                                  replace p198 := eq_true p198
                                  replace q198 := eq_true q198
                                  have hcz46_0 : wr.cell? ⟨gb195, 0, none⟩ = some (.int .i64 a0_0) := (blk_cell BK195.out 0).trans rfl
                                  have hcz46_1 : wr.cell? ⟨gb195, 1, none⟩ = some (.int .i64 a0_1) := (blk_cell BK195.out 1).trans rfl
                                  have hcz46_2 : wr.cell? ⟨gb195, 2, none⟩ = some (.int .i64 a0_2) := (blk_cell BK195.out 2).trans rfl
                                  have hcz46_3 : wr.cell? ⟨gb195, 3, none⟩ = some (.int .i64 a0_3) := (blk_cell BK195.out 3).trans rfl
                                  have hcz46_4 : wr.cell? ⟨gb195, 4, none⟩ = some (.int .i64 a0_4) := (blk_cell BK195.out 4).trans rfl
                                  have hfz46_0 := blk_frozen BK195.out 0
                                  have hfz46_1 := blk_frozen BK195.out 1
                                  have hfz46_2 := blk_frozen BK195.out 2
                                  have hfz46_3 := blk_frozen BK195.out 3
                                  have hfz46_4 := blk_frozen BK195.out 4
                                  go_wp2
                                  repeat (go_quiet (fail); try go_wp2)
                                  go_roundg k2
                                  case measure => have := HJ2.out; have := HK2.out; omega
                                  case rel => exact ⟨(wrap64 (x5_2 + 1)), (by first | rfl | (simp; done) | (simp [*]; done)), H', ⟨by have := HJ2.out; have := HK2.out; omega⟩, ⟨by (with_reducible repeat (first | refine blk_drewN ?_ _ | refine blk_drew ?_ | refine blk_alloc ?_ _)); exact BK195.out⟩, ⟨by repeat (first | (with_reducible first | exact HB.out | apply below_alloc | apply pw_below_drewN | apply below_drew1 | refine below_set ?_ GE195.out) | exact HB.out)⟩⟩
                            · rw [if_neg c39] at H
                              have c39b0 : (((rd_T36 l1 x5_2).f0) == 1) = false := beq_eq_false_iff_ne.mpr c39
                              have c39b1 : (((rd_T36 l1 x5_2).f0) != 1) = true := bne_iff_ne.mpr c39
                              by_cases c47 : ((rd_T36 l1 x5_2).f0) = 2
                              · rw [if_pos c47] at H
                                have c47b0 : (((rd_T36 l1 x5_2).f0) == 2) = true := beq_iff_eq.mpr c47
                                have c47b1 : (((rd_T36 l1 x5_2).f0) != 2) = false := bne_eq_false_iff_eq.mpr c47
                                clear c47
                                by_cases c48 : ((rd_T36 l1 x5_2).f1) = a0_3
                                · rw [if_pos c48] at H
                                  have c48b0 : (((rd_T36 l1 x5_2).f1) == a0_3) = true := beq_iff_eq.mpr c48
                                  have c48b1 : (((rd_T36 l1 x5_2).f1) != a0_3) = false := bne_eq_false_iff_eq.mpr c48
                                  clear c48
                                  obtain rfl := Option.some.inj H
                                  have p197 : 0 ≤ (x5_2 : Int) := of_decide_eq_true (by first | (with_reducible assumption) | assumption)
                                  have q197 : x5_2 < (l1.length : Int) := of_decide_eq_true (by first | (with_reducible assumption) | assumption)
                                  obtain ⟨ad197, e197, hx197_0, hx197_1⟩ := at_T36 HR1.out x5_2 p197 q197
                                  cases e197
                                  replace hx197_0 := (HB.out.cell (World.block_lt_of_cell? w _ hx197_0)).trans hx197_0
                                  replace hx197_1 := (HB.out.cell (World.block_lt_of_cell? w _ hx197_1)).trans hx197_1
                                  replace p197 := eq_true p197
                                  replace q197 := eq_true q197
                                  have p198 : 0 ≤ (x5_2 : Int) := of_decide_eq_true (by first | (with_reducible assumption) | assumption)
                                  have q198 : x5_2 < (l1.length : Int) := of_decide_eq_true (by first | (with_reducible assumption) | assumption)
                                  obtain ⟨ad198, e198, hx198_0, hx198_1⟩ := at_T36 HR1.out x5_2 p198 q198
                                  obtain rfl : ad197 = ad198 := (by injection e198)
                                  replace hx198_0 := (HB.out.cell (World.block_lt_of_cell? w _ hx198_0)).trans hx198_0
                                  replace hx198_1 := (HB.out.cell (World.block_lt_of_cell? w _ hx198_1)).trans hx198_1
                                  replace p198 := eq_true p198
                                  replace q198 := eq_true q198
                                  have hcz49_0 : wr.cell? ⟨gb195, 0, none⟩ = some (.int .i64 a0_0) := (blk_cell BK195.out 0).trans rfl
                                  have hcz49_1 : wr.cell? ⟨gb195, 1, none⟩ = some (.int .i64 a0_1) := (blk_cell BK195.out 1).trans rfl
                                  have hcz49_2 : wr.cell? ⟨gb195, 2, none⟩ = some (.int .i64 a0_2) := (blk_cell BK195.out 2).trans rfl
                                  have hcz49_3 : wr.cell? ⟨gb195, 3, none⟩ = some (.int .i64 a0_3) := (blk_cell BK195.out 3).trans rfl
                                  have hcz49_4 : wr.cell? ⟨gb195, 4, none⟩ = some (.int .i64 a0_4) := (blk_cell BK195.out 4).trans rfl
                                  have hfz49_0 := blk_frozen BK195.out 0
                                  have hfz49_1 := blk_frozen BK195.out 1
                                  have hfz49_2 := blk_frozen BK195.out 2
                                  have hfz49_3 := blk_frozen BK195.out 3
                                  have hfz49_4 := blk_frozen BK195.out 4
                                  go_wp2
                                  repeat (go_quiet (fail); try go_wp2)
                                  go_ret
                                  exact ⟨by first | rfl | (simp [errW_none, errW_some] <;> rfl) | (simp [*, errW_none, errW_some] <;> rfl), by repeat (first | (with_reducible first | exact HB.out | apply below_alloc | apply pw_below_drewN | apply below_drew1 | refine below_set ?_ GE195.out) | exact HB.out)⟩
                                · rw [if_neg c48] at H
                                  have c48b0 : (((rd_T36 l1 x5_2).f1) == a0_3) = false := beq_eq_false_iff_ne.mpr c48
                                  have c48b1 : (((rd_T36 l1 x5_2).f1) != a0_3) = true := bne_iff_ne.mpr c48
                                  by_cases c50 : ((rd_T36 l1 x5_2).f1) = 0
                                  · rw [if_pos c50] at H
                                    have c50b0 : (((rd_T36 l1 x5_2).f1) == 0) = true := beq_iff_eq.mpr c50
                                    have c50b1 : (((rd_T36 l1 x5_2).f1) != 0) = false := bne_eq_false_iff_eq.mpr c50
                                    clear c50
                                    obtain rfl := Option.some.inj H
                                    have p197 : 0 ≤ (x5_2 : Int) := of_decide_eq_true (by first | (with_reducible assumption) | assumption)
                                    have q197 : x5_2 < (l1.length : Int) := of_decide_eq_true (by first | (with_reducible assumption) | assumption)
                                    obtain ⟨ad197, e197, hx197_0, hx197_1⟩ := at_T36 HR1.out x5_2 p197 q197
                                    cases e197
                                    replace hx197_0 := (HB.out.cell (World.block_lt_of_cell? w _ hx197_0)).trans hx197_0
                                    replace hx197_1 := (HB.out.cell (World.block_lt_of_cell? w _ hx197_1)).trans hx197_1
                                    replace p197 := eq_true p197
                                    replace q197 := eq_true q197
                                    have p198 : 0 ≤ (x5_2 : Int) := of_decide_eq_true (by first | (with_reducible assumption) | assumption)
                                    have q198 : x5_2 < (l1.length : Int) := of_decide_eq_true (by first | (with_reducible assumption) | assumption)
                                    obtain ⟨ad198, e198, hx198_0, hx198_1⟩ := at_T36 HR1.out x5_2 p198 q198
                                    obtain rfl : ad197 = ad198 := (by injection e198)
                                    replace hx198_0 := (HB.out.cell (World.block_lt_of_cell? w _ hx198_0)).trans hx198_0
                                    replace hx198_1 := (HB.out.cell (World.block_lt_of_cell? w _ hx198_1)).trans hx198_1
                                    replace p198 := eq_true p198
                                    replace q198 := eq_true q198
                                    have hcz51_0 : wr.cell? ⟨gb195, 0, none⟩ = some (.int .i64 a0_0) := (blk_cell BK195.out 0).trans rfl
                                    have hcz51_1 : wr.cell? ⟨gb195, 1, none⟩ = some (.int .i64 a0_1) := (blk_cell BK195.out 1).trans rfl
                                    have hcz51_2 : wr.cell? ⟨gb195, 2, none⟩ = some (.int .i64 a0_2) := (blk_cell BK195.out 2).trans rfl
                                    have hcz51_3 : wr.cell? ⟨gb195, 3, none⟩ = some (.int .i64 a0_3) := (blk_cell BK195.out 3).trans rfl
                                    have hcz51_4 : wr.cell? ⟨gb195, 4, none⟩ = some (.int .i64 a0_4) := (blk_cell BK195.out 4).trans rfl
                                    have hfz51_0 := blk_frozen BK195.out 0
                                    have hfz51_1 := blk_frozen BK195.out 1
                                    have hfz51_2 := blk_frozen BK195.out 2
                                    have hfz51_3 := blk_frozen BK195.out 3
                                    have hfz51_4 := blk_frozen BK195.out 4
                                    go_wp2
                                    repeat (go_quiet (fail); try go_wp2)
                                    go_ret
                                    exact ⟨by first | rfl | (simp [errW_none, errW_some] <;> rfl) | (simp [*, errW_none, errW_some] <;> rfl), by repeat (first | (with_reducible first | exact HB.out | apply below_alloc | apply pw_below_drewN | apply below_drew1 | refine below_set ?_ GE195.out) | exact HB.out)⟩
                                  · rw [if_neg c50] at H
                                    have c50b0 : (((rd_T36 l1 x5_2).f1) == 0) = false := beq_eq_false_iff_ne.mpr c50
                                    have c50b1 : (((rd_T36 l1 x5_2).f1) != 0) = true := bne_iff_ne.mpr c50
                                    have H' := Aside0.mk H
                                    clear H
                                    have p197 : 0 ≤ (x5_2 : Int) := of_decide_eq_true (by first | (with_reducible assumption) | assumption)
                                    have q197 : x5_2 < (l1.length : Int) := of_decide_eq_true (by first | (with_reducible assumption) | assumption)
                                    obtain ⟨ad197, e197, hx197_0, hx197_1⟩ := at_T36 HR1.out x5_2 p197 q197
                                    cases e197
                                    replace hx197_0 := (HB.out.cell (World.block_lt_of_cell? w _ hx197_0)).trans hx197_0
                                    replace hx197_1 := (HB.out.cell (World.block_lt_of_cell? w _ hx197_1)).trans hx197_1
                                    replace p197 := eq_true p197
                                    replace q197 := eq_true q197
                                    have p198 : 0 ≤ (x5_2 : Int) := of_decide_eq_true (by first | (with_reducible assumption) | assumption)
                                    have q198 : x5_2 < (l1.length : Int) := of_decide_eq_true (by first | (with_reducible assumption) | assumption)
                                    obtain ⟨ad198, e198, hx198_0, hx198_1⟩ := at_T36 HR1.out x5_2 p198 q198
                                    obtain rfl : ad197 = ad198 := (by injection e198)
                                    replace hx198_0 := (HB.out.cell (World.block_lt_of_cell? w _ hx198_0)).trans hx198_0
                                    replace hx198_1 := (HB.out.cell (World.block_lt_of_cell? w _ hx198_1)).trans hx198_1
                                    replace p198 := eq_true p198
                                    replace q198 := eq_true q198
                                    have hcz52_0 : wr.cell? ⟨gb195, 0, none⟩ = some (.int .i64 a0_0) := (blk_cell BK195.out 0).trans rfl
                                    have hcz52_1 : wr.cell? ⟨gb195, 1, none⟩ = some (.int .i64 a0_1) := (blk_cell BK195.out 1).trans rfl
                                    have hcz52_2 : wr.cell? ⟨gb195, 2, none⟩ = some (.int .i64 a0_2) := (blk_cell BK195.out 2).trans rfl
                                    have hcz52_3 : wr.cell? ⟨gb195, 3, none⟩ = some (.int .i64 a0_3) := (blk_cell BK195.out 3).trans rfl
                                    have hcz52_4 : wr.cell? ⟨gb195, 4, none⟩ = some (.int .i64 a0_4) := (blk_cell BK195.out 4).trans rfl
                                    have hfz52_0 := blk_frozen BK195.out 0
                                    have hfz52_1 := blk_frozen BK195.out 1
                                    have hfz52_2 := blk_frozen BK195.out 2
                                    have hfz52_3 := blk_frozen BK195.out 3
                                    have hfz52_4 := blk_frozen BK195.out 4
                                    go_wp2
                                    repeat (go_quiet (fail); try go_wp2)
                                    go_roundg k2
                                    case measure => have := HJ2.out; have := HK2.out; omega
                                    case rel => exact ⟨(wrap64 (x5_2 + 1)), (by first | rfl | (simp; done) | (simp [*]; done)), H', ⟨by have := HJ2.out; have := HK2.out; omega⟩, ⟨by (with_reducible repeat (first | refine blk_drewN ?_ _ | refine blk_drew ?_ | refine blk_alloc ?_ _)); exact BK195.out⟩, ⟨by repeat (first | (with_reducible first | exact HB.out | apply below_alloc | apply pw_below_drewN | apply below_drew1 | refine below_set ?_ GE195.out) | exact HB.out)⟩⟩
                              · rw [if_neg c47] at H
                                have c47b0 : (((rd_T36 l1 x5_2).f0) == 2) = false := beq_eq_false_iff_ne.mpr c47
                                have c47b1 : (((rd_T36 l1 x5_2).f0) != 2) = true := bne_iff_ne.mpr c47
                                have H' := Aside0.mk H
                                clear H
                                have p197 : 0 ≤ (x5_2 : Int) := of_decide_eq_true (by first | (with_reducible assumption) | assumption)
                                have q197 : x5_2 < (l1.length : Int) := of_decide_eq_true (by first | (with_reducible assumption) | assumption)
                                obtain ⟨ad197, e197, hx197_0, hx197_1⟩ := at_T36 HR1.out x5_2 p197 q197
                                cases e197
                                replace hx197_0 := (HB.out.cell (World.block_lt_of_cell? w _ hx197_0)).trans hx197_0
                                replace hx197_1 := (HB.out.cell (World.block_lt_of_cell? w _ hx197_1)).trans hx197_1
                                replace p197 := eq_true p197
                                replace q197 := eq_true q197
                                have p198 : 0 ≤ (x5_2 : Int) := of_decide_eq_true (by first | (with_reducible assumption) | assumption)
                                have q198 : x5_2 < (l1.length : Int) := of_decide_eq_true (by first | (with_reducible assumption) | assumption)
                                obtain ⟨ad198, e198, hx198_0, hx198_1⟩ := at_T36 HR1.out x5_2 p198 q198
                                obtain rfl : ad197 = ad198 := (by injection e198)
                                replace hx198_0 := (HB.out.cell (World.block_lt_of_cell? w _ hx198_0)).trans hx198_0
                                replace hx198_1 := (HB.out.cell (World.block_lt_of_cell? w _ hx198_1)).trans hx198_1
                                replace p198 := eq_true p198
                                replace q198 := eq_true q198
                                have hcz53_0 : wr.cell? ⟨gb195, 0, none⟩ = some (.int .i64 a0_0) := (blk_cell BK195.out 0).trans rfl
                                have hcz53_1 : wr.cell? ⟨gb195, 1, none⟩ = some (.int .i64 a0_1) := (blk_cell BK195.out 1).trans rfl
                                have hcz53_2 : wr.cell? ⟨gb195, 2, none⟩ = some (.int .i64 a0_2) := (blk_cell BK195.out 2).trans rfl
                                have hcz53_3 : wr.cell? ⟨gb195, 3, none⟩ = some (.int .i64 a0_3) := (blk_cell BK195.out 3).trans rfl
                                have hcz53_4 : wr.cell? ⟨gb195, 4, none⟩ = some (.int .i64 a0_4) := (blk_cell BK195.out 4).trans rfl
                                have hfz53_0 := blk_frozen BK195.out 0
                                have hfz53_1 := blk_frozen BK195.out 1
                                have hfz53_2 := blk_frozen BK195.out 2
                                have hfz53_3 := blk_frozen BK195.out 3
                                have hfz53_4 := blk_frozen BK195.out 4
                                go_wp2
                                repeat (go_quiet (fail); try go_wp2)
                                go_roundg k2
                                case measure => have := HJ2.out; have := HK2.out; omega
                                case rel => exact ⟨(wrap64 (x5_2 + 1)), (by first | rfl | (simp; done) | (simp [*]; done)), H', ⟨by have := HJ2.out; have := HK2.out; omega⟩, ⟨by (with_reducible repeat (first | refine blk_drewN ?_ _ | refine blk_drew ?_ | refine blk_alloc ?_ _)); exact BK195.out⟩, ⟨by repeat (first | (with_reducible first | exact HB.out | apply below_alloc | apply pw_below_drewN | apply below_drew1 | refine below_set ?_ GE195.out) | exact HB.out)⟩⟩
              · rw [if_neg c11] at H
                exact absurd H (by simp)
            · rw [if_neg c10] at H
              have c10b0 : decide (x5_2 < (l1.length : Int)) = false := decide_eq_false c10
              clear c10
              obtain rfl := Option.some.inj H
              go_wp2
              repeat (go_quiet (fail); try go_wp2)
              go_ret
              exact ⟨by first | rfl | (simp [errW_none, errW_some] <;> rfl) | (simp [*, errW_none, errW_some] <;> rfl), by repeat (first | (with_reducible first | exact HB.out | apply below_alloc | apply pw_below_drewN | apply below_drew1 | refine below_set ?_ GE195.out) | exact HB.out)⟩

end Go.Proofs.Ytckobmdklpalnaa.P04
