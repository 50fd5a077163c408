/- Opening and closing a zone, and the power's going: each answers a new slice of the same zones but one (but those that were open). -/
import Derived.Test.YtckobmdklpalnaaG04b
namespace Go.Proofs.Ytckobmdklpalnaa.P04
open Go.RowKit Go.Proofs.YtckobmdklpalnaaW.PrintWords Go.Proofs.YtckobmdklpalnaaW.PrintLast Go.Proofs.YtckobmdklpalnaaW.PrintMore
set_option linter.unusedVariables false
set_option linter.unusedSimpArgs false
def shutZ (x : S36) : S36 := ⟨if x.f1 = 0 then 0 else 2, x.f1⟩
set_option maxHeartbeats 2000000 in
theorem shut_elem {g n cap : Nat} (i : Int) (q : List S36) (base : Nat) (w0 w : World) (hO : Kd.R k36 36 w base (fun _ => True) (.slice (some ⟨g, 0, none⟩) n cap) q) (hB : Below base w0 w) (hi0 : 0 ≤ i) (hi1 : i < n) :
    Calls Try.prog 35 #[.pointer (some ⟨g, i.toNat * 2, none⟩)] w fun e w' => e = .returned (.tuple #[]) ∧ Kd.R k36 36 w' base (fun _ => True) (.slice (some ⟨g, 0, none⟩) n cap) (q.set i.toNat (shutZ (rd_T36 q i))) ∧ Below base w0 w' ∧ w.grownBy w' (some g) := by
  have hn := (Kd.R_reads' hO).1
  have h1' : i < (q.length : Int) := by omega
  have h0 := eq_true hi0
  have h1 := eq_true hi1
  have h1q := Aside0.mk h1'
  have HO8 := Aside0.mk hO
  have HB := Aside0.mk hB
  clear hO hB hi0 hi1 h1' hn
  obtain ⟨⟨e0, e1⟩, ef0, ef1⟩ := zone_cells HO8.out i (of_eq_true h0) (of_eq_true h1)
  have e1' := Aside0.mk e1
  by_cases c : (rd_T36 q i).f1 = 0
  · have hs : shutZ (rd_T36 q i) = ⟨0, (rd_T36 q i).f1⟩ := by unfold shutZ; rw [if_pos c]
    have HS := Aside0.mk hs
    clear hs
    have cb : ((rd_T36 q i).f1 == 0) = true := beq_iff_eq.2 c
    clear c
    go_enter Try.func35, Try.ntmps35
    go_wp2_with (first | ((with_reducible refine gate_store (t := 3) (p := 4) rfl ?_); refine zone_store (w0 := w0) base rfl rfl (.tmp 4) (.const (.int .i64 2)) rfl i 0 q (2) (⟨2, (rd_T36 q i).f1⟩ : S36) rfl (by omega) rfl (Or.inl ⟨rfl, rfl⟩) HO8.out (of_eq_true h0) (of_eq_true h1) HB.out ?_; intro ws ho hb hg; have G1 := Aside0.mk hg; have no_ := Aside0.mk ho; clear HO8; have HO8 := no_; clear no_; have nb_ := Aside0.mk hb; clear HB; have HB := nb_; clear nb_ ho hb hg; obtain ⟨⟨s0, s1⟩, sf0, sf1⟩ := zone_cells HO8.out i (of_eq_true h0) (of_eq_true h1); rw [rd_set36 (by first | exact h1q.out | (simp only [List.length_set]; exact h1q.out)) (of_eq_true h0)] at s0 s1) | ((with_reducible refine gate_store (t := 3) (p := 12) rfl ?_); refine zone_store (w0 := w0) base rfl rfl (.tmp 12) (.const (.int .i64 0)) rfl i 0 (q.set i.toNat (⟨2, (rd_T36 q i).f1⟩ : S36)) (0) (⟨0, (rd_T36 q i).f1⟩ : S36) rfl (by omega) rfl (Or.inl ⟨rfl, by rw [rd_set36 h1q.out (of_eq_true h0)]⟩) HO8.out (of_eq_true h0) (of_eq_true h1) HB.out ?_; intro wt ho hb hg; have G2 := Aside0.mk hg; have no_ := Aside0.mk ho; clear HO8; have HO8 := no_; clear no_; have nb_ := Aside0.mk hb; clear HB; have HB := nb_; clear nb_ ho hb hg; obtain ⟨⟨t0, t1⟩, tf0, tf1⟩ := zone_cells HO8.out i (of_eq_true h0) (of_eq_true h1); rw [rd_set36 (by first | exact h1q.out | (simp only [List.length_set]; exact h1q.out)) (of_eq_true h0)] at t0 t1))
    go_end0
    exact ⟨rfl, by have h_ := HO8.out; simp only [List.set_set] at h_; rw [HS.out]; exact h_, HB.out, World.grownBy.trans G1.out G2.out⟩
  · have hs : shutZ (rd_T36 q i) = ⟨2, (rd_T36 q i).f1⟩ := by unfold shutZ; rw [if_neg c]
    have HS := Aside0.mk hs
    clear hs
    have cb : ((rd_T36 q i).f1 == 0) = false := beq_eq_false_iff_ne.2 c
    clear c
    go_enter Try.func35, Try.ntmps35
    go_wp2_with (first | ((with_reducible refine gate_store (t := 3) (p := 4) rfl ?_); refine zone_store (w0 := w0) base rfl rfl (.tmp 4) (.const (.int .i64 2)) rfl i 0 q (2) (⟨2, (rd_T36 q i).f1⟩ : S36) rfl (by omega) rfl (Or.inl ⟨rfl, rfl⟩) HO8.out (of_eq_true h0) (of_eq_true h1) HB.out ?_; intro ws ho hb hg; have G1 := Aside0.mk hg; have no_ := Aside0.mk ho; clear HO8; have HO8 := no_; clear no_; have nb_ := Aside0.mk hb; clear HB; have HB := nb_; clear nb_ ho hb hg; obtain ⟨⟨s0, s1⟩, sf0, sf1⟩ := zone_cells HO8.out i (of_eq_true h0) (of_eq_true h1); rw [rd_set36 (by first | exact h1q.out | (simp only [List.length_set]; exact h1q.out)) (of_eq_true h0)] at s0 s1))
    go_wp2
    go_end0
    exact ⟨rfl, by rw [HS.out]; exact HO8.out, HB.out, G1.out⟩

def zone_Open.f (k : Nat) (g0 g1 g2 g3 g4 : Int) (l1 : List S36) (z : Int) : Option (List S36 × Int) :=
  (api_Zone.f l1).bind fun _ => (zone_sequential.f k g0 g1 g2 g3 g4 z).bind fun t =>
    if ¬ t = 0 then some (l1, t)
    else if 0 ≤ z ∧ z < (l1.length : Int) then
      if (rd_T36 l1 z).f0 = 3 then some (l1, 3)
      else if (rd_T36 l1 z).f0 = 1 then some (l1, 0)
      else (zone_open.f k l1).bind fun n => if n ≥ g4 then some (l1, 5) else some (l1.set z.toNat ⟨1, (rd_T36 l1 z).f1⟩, 0)
    else none
theorem zone_Open.mono : ∀ a0 a1 a2 a3 a4 a5 a6 k, LeO (zone_Open.f k a0 a1 a2 a3 a4 a5 a6) (zone_Open.f (k + 1) a0 a1 a2 a3 a4 a5 a6) := by
  intro a0 a1 a2 a3 a4 a5 a6 k
  unfold zone_Open.f
  repeat' first
    | (with_reducible exact zone_sequential.mono _ _ _ _ _ _ _)
    | (with_reducible exact zone_open.mono _ _)
    | (with_reducible exact LeO.refl _)
    | (with_reducible refine LeO.ite ?_ ?_)
    | (with_reducible refine LeO.bind ?_ (fun _ => ?_))
set_option maxHeartbeats 8000000 in
set_option maxRecDepth 100000 in
theorem zone_Open.calls (k : Nat) (a0_0 a0_1 a0_2 a0_3 a0_4 : Int) (A1 : Option Addr) (c1 : Nat) (l1 : List (S36)) (a2 : Int) (r1 : List (S36)) (r2 : Int) (w : World) (hr1 : Kd.C k36 w A1 l1.length l1) (hc1 : l1.length ≤ c1) (h : zone_Open.f k a0_0 a0_1 a0_2 a0_3 a0_4 l1 a2 = some (r1, r2)) :
    Calls Try.prog 31 #[.agg #[.int .i64 a0_0, .int .i64 a0_1, .int .i64 a0_2, .int .i64 a0_3, .int .i64 a0_4], .slice A1 l1.length c1, .int .i64 a2] w fun e w' => ∃ v0_ : Value, e = .returned (.tuple #[v0_, .int .i64 r2]) ∧ Kd.R k36 36 w' w.heap.size (fun _ => True) v0_ r1 ∧ Below w.heap.size w w' := by
  unfold zone_Open.f at h
  have hu23 := Try.underlying23
  have HR := Aside0.mk hr1
  have HC := Aside0.mk hc1
  clear hr1 hc1
  have HB := Aside0.mk (Below.refl w.heap.size w)
  obtain ⟨q, hq, h⟩ := Option.bind_eq_some_iff.1 h
  have HQ := Aside0.mk hq
  clear hq
  obtain rfl := clone_same HQ.out
  obtain ⟨t, ht, h⟩ := Option.bind_eq_some_iff.1 h
  have HT := Aside0.mk ht
  clear ht
  by_cases ct : t = 0
  · rw [if_neg (fun hh => hh ct)] at h
    subst ct
    by_cases hz : 0 ≤ a2 ∧ a2 < (q.length : Int)
    · rw [if_pos hz] at h
      have h0 := eq_true hz.1
      have h1 := eq_true hz.2
      clear hz
      by_cases c3 : (rd_T36 q a2).f0 = 3
      · rw [if_pos c3] at h
        simp only [Option.some.injEq, Prod.mk.injEq] at h
        obtain ⟨rfl, rfl⟩ := h
        have c3b : ((rd_T36 q a2).f0 == 3) = true := beq_iff_eq.2 c3
        clear c3
        go_enter Try.func31, Try.ntmps31
        go_wp2_with (first | ((with_reducible refine gate_dst (N := 3) rfl ?_); refine box_event ?hg (N := 3) ?hd (cs := #[.int .i64 a0_0, .int .i64 a0_1, .int .i64 a0_2, .int .i64 a0_3, .int .i64 a0_4]) (t := 23) ?hr ?_; (case hd => rfl); (case hg => rfl); (case hr => first | (go_simp; done) | (go_simp; rfl)); intro gb3 hgb w3 hbx hbb; have BK3 := Aside0.mk hbx; have n_ := Aside0.mk (below_step HB.out hbb); clear HB; have HB := n_; clear n_ hbb hbx hgb) | (go_at_call 24; (with_reducible refine (api_Zone.calls _ _ _ _ _ (Kd.C_below HR.out (by repeat (first | exact HB.out | apply pw_below_drewN | apply below_drew1))) HC.out HQ.out).mono ?_); rintro e w8 ⟨v8, rfl, ho, hb⟩; have HO8 := Aside0.mk (Kd.R_lower ho (below_size (by repeat (first | exact HB.out | apply pw_below_drewN | apply below_drew1)))); have m3_ := Aside0.mk (blk_below (by (with_reducible repeat (first | refine blk_drewN ?_ _ | refine blk_drew ?_)); exact BK3.out) hb); clear BK3; have BK3 := m3_; clear m3_; have n_ := Aside0.mk (below_step (by repeat (first | exact HB.out | apply pw_below_drewN | apply below_drew1)) hb); clear HB; have HB := n_; clear n_; clear hb ho; have a3_0 := (blk_cell BK3.out 0).trans rfl; have a3_1 := (blk_cell BK3.out 1).trans rfl; have a3_2 := (blk_cell BK3.out 2).trans rfl; have a3_3 := (blk_cell BK3.out 3).trans rfl; have a3_4 := (blk_cell BK3.out 4).trans rfl) | (go_at_call 27; (with_reducible refine (zone_sequential.calls k _ _ _ _ _ _ _ _ HT.out).mono ?_); rintro e w9 he9; obtain ⟨rfl, hb⟩ := he9; have no_ := Aside0.mk (Kd.R_below (w := _) (by (with_reducible repeat (first | apply Kd.R_drewN | apply Kd.R_drew)); exact HO8.out) hb); clear HO8; have HO8 := no_; clear no_; have m3_ := Aside0.mk (blk_below (by (with_reducible repeat (first | refine blk_drewN ?_ _ | refine blk_drew ?_)); exact BK3.out) hb); clear BK3; have BK3 := m3_; clear m3_; have n_ := Aside0.mk (below_step (by repeat (first | exact HB.out | apply pw_below_drewN | apply below_drew1)) hb); clear HB; have HB := n_; clear n_; clear hb; obtain ⟨g8, cap8, rfl, gb8, gl8, cl8, hG8⟩ := Kd.R_form HO8.out (by have a_ := of_eq_true h0; have b_ := of_eq_true h1; omega); have GB8 := Aside0.mk gb8; clear gb8 gl8 hG8; obtain ⟨⟨e0, e1⟩, ef0, ef1⟩ := zone_cells HO8.out a2 (of_eq_true h0) (of_eq_true h1); have b3_0 := (blk_cell BK3.out 0).trans rfl; have b3_1 := (blk_cell BK3.out 1).trans rfl; have b3_2 := (blk_cell BK3.out 2).trans rfl; have b3_3 := (blk_cell BK3.out 3).trans rfl; have b3_4 := (blk_cell BK3.out 4).trans rfl))
        go_ret2
        exact ⟨_, rfl, (by (with_reducible repeat (first | apply Kd.R_drewN | apply Kd.R_drew)); exact HO8.out), (by repeat (first | exact HB.out | apply pw_below_drewN | apply below_drew1))⟩
      rw [if_neg c3] at h
      have c3b : ((rd_T36 q a2).f0 == 3) = false := beq_eq_false_iff_ne.2 c3
      clear c3
      by_cases c1 : (rd_T36 q a2).f0 = 1
      · rw [if_pos c1] at h
        simp only [Option.some.injEq, Prod.mk.injEq] at h
        obtain ⟨rfl, rfl⟩ := h
        have c1b : ((rd_T36 q a2).f0 == 1) = true := beq_iff_eq.2 c1
        clear c1
        go_enter Try.func31, Try.ntmps31
        go_wp2_with (first | ((with_reducible refine gate_dst (N := 3) rfl ?_); refine box_event ?hg (N := 3) ?hd (cs := #[.int .i64 a0_0, .int .i64 a0_1, .int .i64 a0_2, .int .i64 a0_3, .int .i64 a0_4]) (t := 23) ?hr ?_; (case hd => rfl); (case hg => rfl); (case hr => first | (go_simp; done) | (go_simp; rfl)); intro gb3 hgb w3 hbx hbb; have BK3 := Aside0.mk hbx; have n_ := Aside0.mk (below_step HB.out hbb); clear HB; have HB := n_; clear n_ hbb hbx hgb) | (go_at_call 24; (with_reducible refine (api_Zone.calls _ _ _ _ _ (Kd.C_below HR.out (by repeat (first | exact HB.out | apply pw_below_drewN | apply below_drew1))) HC.out HQ.out).mono ?_); rintro e w8 ⟨v8, rfl, ho, hb⟩; have HO8 := Aside0.mk (Kd.R_lower ho (below_size (by repeat (first | exact HB.out | apply pw_below_drewN | apply below_drew1)))); have m3_ := Aside0.mk (blk_below (by (with_reducible repeat (first | refine blk_drewN ?_ _ | refine blk_drew ?_)); exact BK3.out) hb); clear BK3; have BK3 := m3_; clear m3_; have n_ := Aside0.mk (below_step (by repeat (first | exact HB.out | apply pw_below_drewN | apply below_drew1)) hb); clear HB; have HB := n_; clear n_; clear hb ho; have a3_0 := (blk_cell BK3.out 0).trans rfl; have a3_1 := (blk_cell BK3.out 1).trans rfl; have a3_2 := (blk_cell BK3.out 2).trans rfl; have a3_3 := (blk_cell BK3.out 3).trans rfl; have a3_4 := (blk_cell BK3.out 4).trans rfl) | (go_at_call 27; (with_reducible refine (zone_sequential.calls k _ _ _ _ _ _ _ _ HT.out).mono ?_); rintro e w9 he9; obtain ⟨rfl, hb⟩ := he9; have no_ := Aside0.mk (Kd.R_below (w := _) (by (with_reducible repeat (first | apply Kd.R_drewN | apply Kd.R_drew)); exact HO8.out) hb); clear HO8; have HO8 := no_; clear no_; have m3_ := Aside0.mk (blk_below (by (with_reducible repeat (first | refine blk_drewN ?_ _ | refine blk_drew ?_)); exact BK3.out) hb); clear BK3; have BK3 := m3_; clear m3_; have n_ := Aside0.mk (below_step (by repeat (first | exact HB.out | apply pw_below_drewN | apply below_drew1)) hb); clear HB; have HB := n_; clear n_; clear hb; obtain ⟨g8, cap8, rfl, gb8, gl8, cl8, hG8⟩ := Kd.R_form HO8.out (by have a_ := of_eq_true h0; have b_ := of_eq_true h1; omega); have GB8 := Aside0.mk gb8; clear gb8 gl8 hG8; obtain ⟨⟨e0, e1⟩, ef0, ef1⟩ := zone_cells HO8.out a2 (of_eq_true h0) (of_eq_true h1); have b3_0 := (blk_cell BK3.out 0).trans rfl; have b3_1 := (blk_cell BK3.out 1).trans rfl; have b3_2 := (blk_cell BK3.out 2).trans rfl; have b3_3 := (blk_cell BK3.out 3).trans rfl; have b3_4 := (blk_cell BK3.out 4).trans rfl))
        go_ret2
        exact ⟨_, rfl, (by (with_reducible repeat (first | apply Kd.R_drewN | apply Kd.R_drew)); exact HO8.out), (by repeat (first | exact HB.out | apply pw_below_drewN | apply below_drew1))⟩
      rw [if_neg c1] at h
      have c1b : ((rd_T36 q a2).f0 == 1) = false := beq_eq_false_iff_ne.2 c1
      clear c1
      obtain ⟨n, hn, h⟩ := Option.bind_eq_some_iff.1 h
      have HN := Aside0.mk hn
      clear hn
      by_cases c6 : n ≥ a0_4
      · rw [if_pos c6] at h
        simp only [Option.some.injEq, Prod.mk.injEq] at h
        obtain ⟨rfl, rfl⟩ := h
        have c6b : decide (a0_4 ≤ n) = true := decide_eq_true c6
        clear c6
        go_enter Try.func31, Try.ntmps31
        go_wp2_with (first | ((with_reducible refine gate_dst (N := 3) rfl ?_); refine box_event ?hg (N := 3) ?hd (cs := #[.int .i64 a0_0, .int .i64 a0_1, .int .i64 a0_2, .int .i64 a0_3, .int .i64 a0_4]) (t := 23) ?hr ?_; (case hd => rfl); (case hg => rfl); (case hr => first | (go_simp; done) | (go_simp; rfl)); intro gb3 hgb w3 hbx hbb; have BK3 := Aside0.mk hbx; have n_ := Aside0.mk (below_step HB.out hbb); clear HB; have HB := n_; clear n_ hbb hbx hgb) | (go_at_call 24; (with_reducible refine (api_Zone.calls _ _ _ _ _ (Kd.C_below HR.out (by repeat (first | exact HB.out | apply pw_below_drewN | apply below_drew1))) HC.out HQ.out).mono ?_); rintro e w8 ⟨v8, rfl, ho, hb⟩; have HO8 := Aside0.mk (Kd.R_lower ho (below_size (by repeat (first | exact HB.out | apply pw_below_drewN | apply below_drew1)))); have m3_ := Aside0.mk (blk_below (by (with_reducible repeat (first | refine blk_drewN ?_ _ | refine blk_drew ?_)); exact BK3.out) hb); clear BK3; have BK3 := m3_; clear m3_; have n_ := Aside0.mk (below_step (by repeat (first | exact HB.out | apply pw_below_drewN | apply below_drew1)) hb); clear HB; have HB := n_; clear n_; clear hb ho; have a3_0 := (blk_cell BK3.out 0).trans rfl; have a3_1 := (blk_cell BK3.out 1).trans rfl; have a3_2 := (blk_cell BK3.out 2).trans rfl; have a3_3 := (blk_cell BK3.out 3).trans rfl; have a3_4 := (blk_cell BK3.out 4).trans rfl) | (go_at_call 27; (with_reducible refine (zone_sequential.calls k _ _ _ _ _ _ _ _ HT.out).mono ?_); rintro e w9 he9; obtain ⟨rfl, hb⟩ := he9; have no_ := Aside0.mk (Kd.R_below (w := _) (by (with_reducible repeat (first | apply Kd.R_drewN | apply Kd.R_drew)); exact HO8.out) hb); clear HO8; have HO8 := no_; clear no_; have m3_ := Aside0.mk (blk_below (by (with_reducible repeat (first | refine blk_drewN ?_ _ | refine blk_drew ?_)); exact BK3.out) hb); clear BK3; have BK3 := m3_; clear m3_; have n_ := Aside0.mk (below_step (by repeat (first | exact HB.out | apply pw_below_drewN | apply below_drew1)) hb); clear HB; have HB := n_; clear n_; clear hb; obtain ⟨g8, cap8, rfl, gb8, gl8, cl8, hG8⟩ := Kd.R_form HO8.out (by have a_ := of_eq_true h0; have b_ := of_eq_true h1; omega); have GB8 := Aside0.mk gb8; clear gb8 gl8 hG8; obtain ⟨⟨e0, e1⟩, ef0, ef1⟩ := zone_cells HO8.out a2 (of_eq_true h0) (of_eq_true h1); have b3_0 := (blk_cell BK3.out 0).trans rfl; have b3_1 := (blk_cell BK3.out 1).trans rfl; have b3_2 := (blk_cell BK3.out 2).trans rfl; have b3_3 := (blk_cell BK3.out 3).trans rfl; have b3_4 := (blk_cell BK3.out 4).trans rfl))
        go_region_held3 (fun W => W.cell? ⟨gb3, 4, none⟩ = some (.int .i64 a0_4) ∧ W.cell? ⟨g8, a2.toNat * 2, none⟩ = some (.int .i64 (rd_T36 q a2).f0)) (first | go_keep | exact ⟨c3_4, u0⟩) ((first | (go_at_call 26; (with_reducible refine (zone_open.calls k _ _ _ _ _ (Kd.C_below HR.out (by repeat (first | exact HB.out | apply pw_below_drewN | apply below_drew1))) HC.out HN.out).mono ?_); rintro e w9 he9; obtain ⟨rfl, hb⟩ := he9; have no_ := Aside0.mk (Kd.R_below (w := _) (by (with_reducible repeat (first | apply Kd.R_drewN | apply Kd.R_drew)); exact HO8.out) hb); clear HO8; have HO8 := no_; clear no_; have m3_ := Aside0.mk (blk_below (by (with_reducible repeat (first | refine blk_drewN ?_ _ | refine blk_drew ?_)); exact BK3.out) hb); clear BK3; have BK3 := m3_; clear m3_; have n_ := Aside0.mk (below_step (by repeat (first | exact HB.out | apply pw_below_drewN | apply below_drew1)) hb); clear HB; have HB := n_; clear n_; clear hb; obtain ⟨⟨u0, u1⟩, uf0, uf1⟩ := zone_cells HO8.out a2 (of_eq_true h0) (of_eq_true h1); have c3_0 := (blk_cell BK3.out 0).trans rfl; have c3_1 := (blk_cell BK3.out 1).trans rfl; have c3_2 := (blk_cell BK3.out 2).trans rfl; have c3_3 := (blk_cell BK3.out 3).trans rfl; have c3_4 := (blk_cell BK3.out 4).trans rfl)))
        go_wp2
        go_ret2
        exact ⟨_, rfl, (by (with_reducible repeat (first | apply Kd.R_drewN | apply Kd.R_drew)); exact HO8.out), (by repeat (first | exact HB.out | apply pw_below_drewN | apply below_drew1))⟩
      · rw [if_neg c6] at h
        simp only [Option.some.injEq, Prod.mk.injEq] at h
        obtain ⟨rfl, rfl⟩ := h
        have c6b : decide (a0_4 ≤ n) = false := decide_eq_false c6
        clear c6
        go_enter Try.func31, Try.ntmps31
        go_wp2_with (first | ((with_reducible refine gate_dst (N := 3) rfl ?_); refine box_event ?hg (N := 3) ?hd (cs := #[.int .i64 a0_0, .int .i64 a0_1, .int .i64 a0_2, .int .i64 a0_3, .int .i64 a0_4]) (t := 23) ?hr ?_; (case hd => rfl); (case hg => rfl); (case hr => first | (go_simp; done) | (go_simp; rfl)); intro gb3 hgb w3 hbx hbb; have BK3 := Aside0.mk hbx; have n_ := Aside0.mk (below_step HB.out hbb); clear HB; have HB := n_; clear n_ hbb hbx hgb) | (go_at_call 24; (with_reducible refine (api_Zone.calls _ _ _ _ _ (Kd.C_below HR.out (by repeat (first | exact HB.out | apply pw_below_drewN | apply below_drew1))) HC.out HQ.out).mono ?_); rintro e w8 ⟨v8, rfl, ho, hb⟩; have HO8 := Aside0.mk (Kd.R_lower ho (below_size (by repeat (first | exact HB.out | apply pw_below_drewN | apply below_drew1)))); have m3_ := Aside0.mk (blk_below (by (with_reducible repeat (first | refine blk_drewN ?_ _ | refine blk_drew ?_)); exact BK3.out) hb); clear BK3; have BK3 := m3_; clear m3_; have n_ := Aside0.mk (below_step (by repeat (first | exact HB.out | apply pw_below_drewN | apply below_drew1)) hb); clear HB; have HB := n_; clear n_; clear hb ho; have a3_0 := (blk_cell BK3.out 0).trans rfl; have a3_1 := (blk_cell BK3.out 1).trans rfl; have a3_2 := (blk_cell BK3.out 2).trans rfl; have a3_3 := (blk_cell BK3.out 3).trans rfl; have a3_4 := (blk_cell BK3.out 4).trans rfl) | (go_at_call 27; (with_reducible refine (zone_sequential.calls k _ _ _ _ _ _ _ _ HT.out).mono ?_); rintro e w9 he9; obtain ⟨rfl, hb⟩ := he9; have no_ := Aside0.mk (Kd.R_below (w := _) (by (with_reducible repeat (first | apply Kd.R_drewN | apply Kd.R_drew)); exact HO8.out) hb); clear HO8; have HO8 := no_; clear no_; have m3_ := Aside0.mk (blk_below (by (with_reducible repeat (first | refine blk_drewN ?_ _ | refine blk_drew ?_)); exact BK3.out) hb); clear BK3; have BK3 := m3_; clear m3_; have n_ := Aside0.mk (below_step (by repeat (first | exact HB.out | apply pw_below_drewN | apply below_drew1)) hb); clear HB; have HB := n_; clear n_; clear hb; obtain ⟨g8, cap8, rfl, gb8, gl8, cl8, hG8⟩ := Kd.R_form HO8.out (by have a_ := of_eq_true h0; have b_ := of_eq_true h1; omega); have GB8 := Aside0.mk gb8; clear gb8 gl8 hG8; obtain ⟨⟨e0, e1⟩, ef0, ef1⟩ := zone_cells HO8.out a2 (of_eq_true h0) (of_eq_true h1); have b3_0 := (blk_cell BK3.out 0).trans rfl; have b3_1 := (blk_cell BK3.out 1).trans rfl; have b3_2 := (blk_cell BK3.out 2).trans rfl; have b3_3 := (blk_cell BK3.out 3).trans rfl; have b3_4 := (blk_cell BK3.out 4).trans rfl))
        go_region_held3 (fun W => W.cell? ⟨gb3, 4, none⟩ = some (.int .i64 a0_4) ∧ W.cell? ⟨g8, a2.toNat * 2, none⟩ = some (.int .i64 (rd_T36 q a2).f0)) (first | go_keep | exact ⟨c3_4, u0⟩) ((first | (go_at_call 26; (with_reducible refine (zone_open.calls k _ _ _ _ _ (Kd.C_below HR.out (by repeat (first | exact HB.out | apply pw_below_drewN | apply below_drew1))) HC.out HN.out).mono ?_); rintro e w9 he9; obtain ⟨rfl, hb⟩ := he9; have no_ := Aside0.mk (Kd.R_below (w := _) (by (with_reducible repeat (first | apply Kd.R_drewN | apply Kd.R_drew)); exact HO8.out) hb); clear HO8; have HO8 := no_; clear no_; have m3_ := Aside0.mk (blk_below (by (with_reducible repeat (first | refine blk_drewN ?_ _ | refine blk_drew ?_)); exact BK3.out) hb); clear BK3; have BK3 := m3_; clear m3_; have n_ := Aside0.mk (below_step (by repeat (first | exact HB.out | apply pw_below_drewN | apply below_drew1)) hb); clear HB; have HB := n_; clear n_; clear hb; obtain ⟨⟨u0, u1⟩, uf0, uf1⟩ := zone_cells HO8.out a2 (of_eq_true h0) (of_eq_true h1); have c3_0 := (blk_cell BK3.out 0).trans rfl; have c3_1 := (blk_cell BK3.out 1).trans rfl; have c3_2 := (blk_cell BK3.out 2).trans rfl; have c3_3 := (blk_cell BK3.out 3).trans rfl; have c3_4 := (blk_cell BK3.out 4).trans rfl)))
        go_wp2_with (first | ((with_reducible refine gate_store (t := 3) (p := 25) rfl ?_); refine zone_store (w0 := w) w.heap.size rfl rfl (.tmp 25) (.const (.int .i64 1)) rfl a2 0 q (1) (⟨1, (rd_T36 q a2).f1⟩ : S36) rfl (by omega) rfl (Or.inl ⟨rfl, rfl⟩) (by (with_reducible repeat (first | apply Kd.R_drewN | apply Kd.R_drew)); exact HO8.out) (of_eq_true h0) (of_eq_true h1) (by repeat (first | exact HB.out | apply pw_below_drewN | apply below_drew1)) ?_; intro ws ho hb hg; have m3_ := Aside0.mk (blk_grown (by (with_reducible repeat (first | refine blk_drewN ?_ _ | refine blk_drew ?_)); exact BK3.out) hg (by have h_ := Kd.R_ne HO8.out BK3.out (by decide); intro e_; exact h_ (by rw [e_]; rfl))); clear BK3; have BK3 := m3_; clear m3_; have no_ := Aside0.mk ho; clear HO8; have HO8 := no_; clear no_; have nb_ := Aside0.mk hb; clear HB; have HB := nb_; clear nb_ ho hb hg; obtain ⟨⟨s0, s1⟩, sf0, sf1⟩ := zone_cells HO8.out a2 (of_eq_true h0) (of_eq_true h1); rw [rd_set36 (by first | exact of_eq_true h1 | (simp only [List.length_set]; exact of_eq_true h1)) (of_eq_true h0)] at s0 s1; have sz3_0 := (blk_cell BK3.out 0).trans rfl; have sz3_1 := (blk_cell BK3.out 1).trans rfl; have sz3_2 := (blk_cell BK3.out 2).trans rfl; have sz3_3 := (blk_cell BK3.out 3).trans rfl; have sz3_4 := (blk_cell BK3.out 4).trans rfl))
        go_ret2
        exact ⟨_, rfl, (by (with_reducible repeat (first | apply Kd.R_drewN | apply Kd.R_drew)); exact HO8.out), (by repeat (first | exact HB.out | apply pw_below_drewN | apply below_drew1))⟩
    · rw [if_neg hz] at h
      exact absurd h (by simp)
  · rw [if_pos ct] at h
    simp only [Option.some.injEq, Prod.mk.injEq] at h
    obtain ⟨rfl, rfl⟩ := h
    have ctb : (t != 0) = true := bne_iff_ne.2 ct
    clear ct
    go_enter Try.func31, Try.ntmps31
    go_wp2_with (first | ((with_reducible refine gate_dst (N := 3) rfl ?_); refine box_event ?hg (N := 3) ?hd (cs := #[.int .i64 a0_0, .int .i64 a0_1, .int .i64 a0_2, .int .i64 a0_3, .int .i64 a0_4]) (t := 23) ?hr ?_; (case hd => rfl); (case hg => rfl); (case hr => first | (go_simp; done) | (go_simp; rfl)); intro gb3 hgb w3 hbx hbb; have BK3 := Aside0.mk hbx; have n_ := Aside0.mk (below_step HB.out hbb); clear HB; have HB := n_; clear n_ hbb hbx hgb) | (go_at_call 24; (with_reducible refine (api_Zone.calls _ _ _ _ _ (Kd.C_below HR.out (by repeat (first | exact HB.out | apply pw_below_drewN | apply below_drew1))) HC.out HQ.out).mono ?_); rintro e w8 ⟨v8, rfl, ho, hb⟩; have HO8 := Aside0.mk (Kd.R_lower ho (below_size (by repeat (first | exact HB.out | apply pw_below_drewN | apply below_drew1)))); have m3_ := Aside0.mk (blk_below (by (with_reducible repeat (first | refine blk_drewN ?_ _ | refine blk_drew ?_)); exact BK3.out) hb); clear BK3; have BK3 := m3_; clear m3_; have n_ := Aside0.mk (below_step (by repeat (first | exact HB.out | apply pw_below_drewN | apply below_drew1)) hb); clear HB; have HB := n_; clear n_; clear hb ho; have a3_0 := (blk_cell BK3.out 0).trans rfl; have a3_1 := (blk_cell BK3.out 1).trans rfl; have a3_2 := (blk_cell BK3.out 2).trans rfl; have a3_3 := (blk_cell BK3.out 3).trans rfl; have a3_4 := (blk_cell BK3.out 4).trans rfl) | (go_at_call 27; (with_reducible refine (zone_sequential.calls k _ _ _ _ _ _ _ _ HT.out).mono ?_); rintro e w9 he9; obtain ⟨rfl, hb⟩ := he9; have no_ := Aside0.mk (Kd.R_below (w := _) (by (with_reducible repeat (first | apply Kd.R_drewN | apply Kd.R_drew)); exact HO8.out) hb); clear HO8; have HO8 := no_; clear no_; have m3_ := Aside0.mk (blk_below (by (with_reducible repeat (first | refine blk_drewN ?_ _ | refine blk_drew ?_)); exact BK3.out) hb); clear BK3; have BK3 := m3_; clear m3_; have n_ := Aside0.mk (below_step (by repeat (first | exact HB.out | apply pw_below_drewN | apply below_drew1)) hb); clear HB; have HB := n_; clear n_; clear hb; have b3_0 := (blk_cell BK3.out 0).trans rfl; have b3_1 := (blk_cell BK3.out 1).trans rfl; have b3_2 := (blk_cell BK3.out 2).trans rfl; have b3_3 := (blk_cell BK3.out 3).trans rfl; have b3_4 := (blk_cell BK3.out 4).trans rfl))
    go_ret2
    exact ⟨_, rfl, (by (with_reducible repeat (first | apply Kd.R_drewN | apply Kd.R_drew)); exact HO8.out), (by repeat (first | exact HB.out | apply pw_below_drewN | apply below_drew1))⟩

def zone_Close.f (k : Nat) (g0 g1 g2 g3 g4 : Int) (l1 : List S36) (z : Int) : Option (List S36 × Int) :=
  (api_Zone.f l1).bind fun _ => (zone_sequential.f k g0 g1 g2 g3 g4 z).bind fun t =>
    if ¬ t = 0 then some (l1, t)
    else if 0 ≤ z ∧ z < (l1.length : Int) then
      if ¬ (rd_T36 l1 z).f0 = 1 then some (l1, 3)
      else some (l1.set z.toNat (shutZ (rd_T36 l1 z)), 0)
    else none
theorem zone_Close.mono : ∀ a0 a1 a2 a3 a4 a5 a6 k, LeO (zone_Close.f k a0 a1 a2 a3 a4 a5 a6) (zone_Close.f (k + 1) a0 a1 a2 a3 a4 a5 a6) := by
  intro a0 a1 a2 a3 a4 a5 a6 k
  unfold zone_Close.f
  repeat' first
    | (with_reducible exact zone_sequential.mono _ _ _ _ _ _ _)
    | (with_reducible exact zone_open.mono _ _)
    | (with_reducible exact LeO.refl _)
    | (with_reducible refine LeO.ite ?_ ?_)
    | (with_reducible refine LeO.bind ?_ (fun _ => ?_))
set_option maxHeartbeats 8000000 in
set_option maxRecDepth 100000 in
theorem zone_Close.calls (k : Nat) (a0_0 a0_1 a0_2 a0_3 a0_4 : Int) (A1 : Option Addr) (c1 : Nat) (l1 : List (S36)) (a2 : Int) (r1 : List (S36)) (r2 : Int) (w : World) (hr1 : Kd.C k36 w A1 l1.length l1) (hc1 : l1.length ≤ c1) (h : zone_Close.f k a0_0 a0_1 a0_2 a0_3 a0_4 l1 a2 = some (r1, r2)) :
    Calls Try.prog 32 #[.agg #[.int .i64 a0_0, .int .i64 a0_1, .int .i64 a0_2, .int .i64 a0_3, .int .i64 a0_4], .slice A1 l1.length c1, .int .i64 a2] w fun e w' => ∃ v0_ : Value, e = .returned (.tuple #[v0_, .int .i64 r2]) ∧ Kd.R k36 36 w' w.heap.size (fun _ => True) v0_ r1 ∧ Below w.heap.size w w' := by
  unfold zone_Close.f at h
  have hu23 := Try.underlying23
  have HR := Aside0.mk hr1
  have HC := Aside0.mk hc1
  clear hr1 hc1
  have HB := Aside0.mk (Below.refl w.heap.size w)
  obtain ⟨q, hq, h⟩ := Option.bind_eq_some_iff.1 h
  have HQ := Aside0.mk hq
  clear hq
  obtain rfl := clone_same HQ.out
  obtain ⟨t, ht, h⟩ := Option.bind_eq_some_iff.1 h
  have HT := Aside0.mk ht
  clear ht
  by_cases ct : t = 0
  · rw [if_neg (fun hh => hh ct)] at h
    subst ct
    by_cases hz : 0 ≤ a2 ∧ a2 < (q.length : Int)
    · rw [if_pos hz] at h
      have h0 := eq_true hz.1
      have h1 := eq_true hz.2
      clear hz
      by_cases c1 : (rd_T36 q a2).f0 = 1
      · rw [if_neg (fun hh => hh c1)] at h
        simp only [Option.some.injEq, Prod.mk.injEq] at h
        obtain ⟨rfl, rfl⟩ := h
        have c1b : ((rd_T36 q a2).f0 != 1) = false := bne_eq_false_iff_eq.2 c1
        clear c1
        go_enter Try.func32, Try.ntmps32
        go_wp2_with (first | ((with_reducible refine gate_dst (N := 3) rfl ?_); refine box_event ?hg (N := 3) ?hd (cs := #[.int .i64 a0_0, .int .i64 a0_1, .int .i64 a0_2, .int .i64 a0_3, .int .i64 a0_4]) (t := 23) ?hr ?_; (case hd => rfl); (case hg => rfl); (case hr => first | (go_simp; done) | (go_simp; rfl)); intro gb3 hgb w3 hbx hbb; have BK3 := Aside0.mk hbx; have n_ := Aside0.mk (below_step HB.out hbb); clear HB; have HB := n_; clear n_ hbb hbx hgb) | (go_at_call 24; (with_reducible refine (api_Zone.calls _ _ _ _ _ (Kd.C_below HR.out (by repeat (first | exact HB.out | apply pw_below_drewN | apply below_drew1))) HC.out HQ.out).mono ?_); rintro e w8 ⟨v8, rfl, ho, hb⟩; have HO8 := Aside0.mk (Kd.R_lower ho (below_size (by repeat (first | exact HB.out | apply pw_below_drewN | apply below_drew1)))); have m3_ := Aside0.mk (blk_below (by (with_reducible repeat (first | refine blk_drewN ?_ _ | refine blk_drew ?_)); exact BK3.out) hb); clear BK3; have BK3 := m3_; clear m3_; have n_ := Aside0.mk (below_step (by repeat (first | exact HB.out | apply pw_below_drewN | apply below_drew1)) hb); clear HB; have HB := n_; clear n_; clear hb ho; have a3_0 := (blk_cell BK3.out 0).trans rfl; have a3_1 := (blk_cell BK3.out 1).trans rfl; have a3_2 := (blk_cell BK3.out 2).trans rfl; have a3_3 := (blk_cell BK3.out 3).trans rfl; have a3_4 := (blk_cell BK3.out 4).trans rfl) | (go_at_call 27; (with_reducible refine (zone_sequential.calls k _ _ _ _ _ _ _ _ HT.out).mono ?_); rintro e w9 he9; obtain ⟨rfl, hb⟩ := he9; have no_ := Aside0.mk (Kd.R_below (w := _) (by (with_reducible repeat (first | apply Kd.R_drewN | apply Kd.R_drew)); exact HO8.out) hb); clear HO8; have HO8 := no_; clear no_; have m3_ := Aside0.mk (blk_below (by (with_reducible repeat (first | refine blk_drewN ?_ _ | refine blk_drew ?_)); exact BK3.out) hb); clear BK3; have BK3 := m3_; clear m3_; have n_ := Aside0.mk (below_step (by repeat (first | exact HB.out | apply pw_below_drewN | apply below_drew1)) hb); clear HB; have HB := n_; clear n_; clear hb; obtain ⟨g8, cap8, rfl, gb8, gl8, cl8, hG8⟩ := Kd.R_form HO8.out (by have a_ := of_eq_true h0; have b_ := of_eq_true h1; omega); have GB8 := Aside0.mk gb8; clear gb8 gl8 hG8; obtain ⟨⟨e0, e1⟩, ef0, ef1⟩ := zone_cells HO8.out a2 (of_eq_true h0) (of_eq_true h1); have b3_0 := (blk_cell BK3.out 0).trans rfl; have b3_1 := (blk_cell BK3.out 1).trans rfl; have b3_2 := (blk_cell BK3.out 2).trans rfl; have b3_3 := (blk_cell BK3.out 3).trans rfl; have b3_4 := (blk_cell BK3.out 4).trans rfl) | (go_at_call 35; (with_reducible refine (shut_elem a2 q w.heap.size w _ HO8.out HB.out (of_eq_true h0) (of_eq_true h1)).mono ?_); rintro e w10 ⟨rfl, ho, hb, hg⟩; have no_ := Aside0.mk ho; clear HO8; have HO8 := no_; clear no_; have nb_ := Aside0.mk hb; clear HB; have HB := nb_; clear nb_ ho hb hg))
        go_ret2
        exact ⟨_, rfl, (by (with_reducible repeat (first | apply Kd.R_drewN | apply Kd.R_drew)); exact HO8.out), (by repeat (first | exact HB.out | apply pw_below_drewN | apply below_drew1))⟩
      · rw [if_pos c1] at h
        simp only [Option.some.injEq, Prod.mk.injEq] at h
        obtain ⟨rfl, rfl⟩ := h
        have c1b : ((rd_T36 q a2).f0 != 1) = true := bne_iff_ne.2 c1
        clear c1
        go_enter Try.func32, Try.ntmps32
        go_wp2_with (first | ((with_reducible refine gate_dst (N := 3) rfl ?_); refine box_event ?hg (N := 3) ?hd (cs := #[.int .i64 a0_0, .int .i64 a0_1, .int .i64 a0_2, .int .i64 a0_3, .int .i64 a0_4]) (t := 23) ?hr ?_; (case hd => rfl); (case hg => rfl); (case hr => first | (go_simp; done) | (go_simp; rfl)); intro gb3 hgb w3 hbx hbb; have BK3 := Aside0.mk hbx; have n_ := Aside0.mk (below_step HB.out hbb); clear HB; have HB := n_; clear n_ hbb hbx hgb) | (go_at_call 24; (with_reducible refine (api_Zone.calls _ _ _ _ _ (Kd.C_below HR.out (by repeat (first | exact HB.out | apply pw_below_drewN | apply below_drew1))) HC.out HQ.out).mono ?_); rintro e w8 ⟨v8, rfl, ho, hb⟩; have HO8 := Aside0.mk (Kd.R_lower ho (below_size (by repeat (first | exact HB.out | apply pw_below_drewN | apply below_drew1)))); have m3_ := Aside0.mk (blk_below (by (with_reducible repeat (first | refine blk_drewN ?_ _ | refine blk_drew ?_)); exact BK3.out) hb); clear BK3; have BK3 := m3_; clear m3_; have n_ := Aside0.mk (below_step (by repeat (first | exact HB.out | apply pw_below_drewN | apply below_drew1)) hb); clear HB; have HB := n_; clear n_; clear hb ho; have a3_0 := (blk_cell BK3.out 0).trans rfl; have a3_1 := (blk_cell BK3.out 1).trans rfl; have a3_2 := (blk_cell BK3.out 2).trans rfl; have a3_3 := (blk_cell BK3.out 3).trans rfl; have a3_4 := (blk_cell BK3.out 4).trans rfl) | (go_at_call 27; (with_reducible refine (zone_sequential.calls k _ _ _ _ _ _ _ _ HT.out).mono ?_); rintro e w9 he9; obtain ⟨rfl, hb⟩ := he9; have no_ := Aside0.mk (Kd.R_below (w := _) (by (with_reducible repeat (first | apply Kd.R_drewN | apply Kd.R_drew)); exact HO8.out) hb); clear HO8; have HO8 := no_; clear no_; have m3_ := Aside0.mk (blk_below (by (with_reducible repeat (first | refine blk_drewN ?_ _ | refine blk_drew ?_)); exact BK3.out) hb); clear BK3; have BK3 := m3_; clear m3_; have n_ := Aside0.mk (below_step (by repeat (first | exact HB.out | apply pw_below_drewN | apply below_drew1)) hb); clear HB; have HB := n_; clear n_; clear hb; obtain ⟨g8, cap8, rfl, gb8, gl8, cl8, hG8⟩ := Kd.R_form HO8.out (by have a_ := of_eq_true h0; have b_ := of_eq_true h1; omega); have GB8 := Aside0.mk gb8; clear gb8 gl8 hG8; obtain ⟨⟨e0, e1⟩, ef0, ef1⟩ := zone_cells HO8.out a2 (of_eq_true h0) (of_eq_true h1); have b3_0 := (blk_cell BK3.out 0).trans rfl; have b3_1 := (blk_cell BK3.out 1).trans rfl; have b3_2 := (blk_cell BK3.out 2).trans rfl; have b3_3 := (blk_cell BK3.out 3).trans rfl; have b3_4 := (blk_cell BK3.out 4).trans rfl))
        go_ret2
        exact ⟨_, rfl, (by (with_reducible repeat (first | apply Kd.R_drewN | apply Kd.R_drew)); exact HO8.out), (by repeat (first | exact HB.out | apply pw_below_drewN | apply below_drew1))⟩
    · rw [if_neg hz] at h
      exact absurd h (by simp)
  · rw [if_pos ct] at h
    simp only [Option.some.injEq, Prod.mk.injEq] at h
    obtain ⟨rfl, rfl⟩ := h
    have ctb : (t != 0) = true := bne_iff_ne.2 ct
    clear ct
    go_enter Try.func32, Try.ntmps32
    go_wp2_with (first | ((with_reducible refine gate_dst (N := 3) rfl ?_); refine box_event ?hg (N := 3) ?hd (cs := #[.int .i64 a0_0, .int .i64 a0_1, .int .i64 a0_2, .int .i64 a0_3, .int .i64 a0_4]) (t := 23) ?hr ?_; (case hd => rfl); (case hg => rfl); (case hr => first | (go_simp; done) | (go_simp; rfl)); intro gb3 hgb w3 hbx hbb; have BK3 := Aside0.mk hbx; have n_ := Aside0.mk (below_step HB.out hbb); clear HB; have HB := n_; clear n_ hbb hbx hgb) | (go_at_call 24; (with_reducible refine (api_Zone.calls _ _ _ _ _ (Kd.C_below HR.out (by repeat (first | exact HB.out | apply pw_below_drewN | apply below_drew1))) HC.out HQ.out).mono ?_); rintro e w8 ⟨v8, rfl, ho, hb⟩; have HO8 := Aside0.mk (Kd.R_lower ho (below_size (by repeat (first | exact HB.out | apply pw_below_drewN | apply below_drew1)))); have m3_ := Aside0.mk (blk_below (by (with_reducible repeat (first | refine blk_drewN ?_ _ | refine blk_drew ?_)); exact BK3.out) hb); clear BK3; have BK3 := m3_; clear m3_; have n_ := Aside0.mk (below_step (by repeat (first | exact HB.out | apply pw_below_drewN | apply below_drew1)) hb); clear HB; have HB := n_; clear n_; clear hb ho; have a3_0 := (blk_cell BK3.out 0).trans rfl; have a3_1 := (blk_cell BK3.out 1).trans rfl; have a3_2 := (blk_cell BK3.out 2).trans rfl; have a3_3 := (blk_cell BK3.out 3).trans rfl; have a3_4 := (blk_cell BK3.out 4).trans rfl) | (go_at_call 27; (with_reducible refine (zone_sequential.calls k _ _ _ _ _ _ _ _ HT.out).mono ?_); rintro e w9 he9; obtain ⟨rfl, hb⟩ := he9; have no_ := Aside0.mk (Kd.R_below (w := _) (by (with_reducible repeat (first | apply Kd.R_drewN | apply Kd.R_drew)); exact HO8.out) hb); clear HO8; have HO8 := no_; clear no_; have m3_ := Aside0.mk (blk_below (by (with_reducible repeat (first | refine blk_drewN ?_ _ | refine blk_drew ?_)); exact BK3.out) hb); clear BK3; have BK3 := m3_; clear m3_; have n_ := Aside0.mk (below_step (by repeat (first | exact HB.out | apply pw_below_drewN | apply below_drew1)) hb); clear HB; have HB := n_; clear n_; clear hb; have b3_0 := (blk_cell BK3.out 0).trans rfl; have b3_1 := (blk_cell BK3.out 1).trans rfl; have b3_2 := (blk_cell BK3.out 2).trans rfl; have b3_3 := (blk_cell BK3.out 3).trans rfl; have b3_4 := (blk_cell BK3.out 4).trans rfl))
    go_ret2
    exact ⟨_, rfl, (by (with_reducible repeat (first | apply Kd.R_drewN | apply Kd.R_drew)); exact HO8.out), (by repeat (first | exact HB.out | apply pw_below_drewN | apply below_drew1))⟩

def powerZ (x : S36) : S36 := if x.f0 = 1 then shutZ x else x
def powerL (l : List S36) (j : Nat) : List S36 := (l.take j).map powerZ ++ l.drop j
theorem powerL_len (l : List S36) (j : Nat) : (powerL l j).length = l.length := by
  unfold powerL; simp; omega
theorem powerL_rd (l : List S36) (j : Nat) (hj : j < l.length) : rd_T36 (powerL l j) j = rd_T36 l j := by
  unfold powerL rd_T36
  simp only [Int.toNat_natCast]
  rw [List.getD_eq_getElem?_getD, List.getD_eq_getElem?_getD, List.getElem?_append_right (by simp; omega)]
  simp [Nat.min_eq_left (Nat.le_of_lt hj)]
theorem powerL_set (l : List S36) (j : Nat) (hj : j < l.length) : (powerL l j).set j (powerZ (rd_T36 l j)) = powerL l (j + 1) := by
  apply List.ext_getElem?
  intro i
  unfold powerL rd_T36
  simp only [Int.toNat_natCast]
  rw [List.getD_eq_getElem?_getD, List.getElem?_eq_getElem hj, Option.getD_some, List.take_succ_eq_append_getElem hj, List.map_append]
  rcases Nat.lt_trichotomy i j with h | h | h
  · rw [List.getElem?_set_ne (by omega), List.getElem?_append_left (by simp; omega), List.getElem?_append_left (by simp; omega), List.getElem?_append_left (by simp; omega)]
  · subst h
    rw [List.getElem?_set_self (by simp; omega), List.getElem?_append_left (by simp; omega), List.getElem?_append_right (by simp; omega)]
    simp [Nat.min_eq_left (Nat.le_of_lt hj)]
  · rw [List.getElem?_set_ne (by omega), List.getElem?_append_right (by simp; omega), List.getElem?_append_right (by simp; omega)]
    simp only [List.getElem?_drop, List.length_map, List.length_take, List.length_append, List.length_singleton, List.map_cons, List.map_nil, List.length_cons, List.length_nil]
    congr 1
    omega
theorem powerL_same (l : List S36) (j : Nat) (hj : j < l.length) (h : powerZ (rd_T36 l j) = rd_T36 l j) : powerL l (j + 1) = powerL l j := by
  rw [← powerL_set l j hj, h]
  have := powerL_rd l j hj
  unfold rd_T36 at this ⊢
  simp only [Int.toNat_natCast] at this ⊢
  rw [← this, List.getD_eq_getElem?_getD, List.getElem?_eq_getElem (by rw [powerL_len]; exact hj), Option.getD_some, List.set_getElem_self]
def zone_Power.f (l0 : List S36) : Option (List S36) := (api_Zone.f l0).bind fun l => some (l.map powerZ)
set_option maxHeartbeats 8000000 in
set_option maxRecDepth 100000 in
theorem zone_Power.calls (A0 : Option Addr) (c0 : Nat) (l0 : List (S36)) (r : List (S36)) (w : World) (hr0 : Kd.C k36 w A0 l0.length l0) (hc0 : l0.length ≤ c0) (h : zone_Power.f l0 = some r) :
    Calls Try.prog 20 #[.slice A0 l0.length c0] w fun e w' => ∃ v0_ : Value, e = .returned (v0_) ∧ Kd.R k36 36 w' w.heap.size (fun _ => True) v0_ r ∧ Below w.heap.size w w' := by
  unfold zone_Power.f at h
  have HR := Aside0.mk hr0
  have HC := Aside0.mk hc0
  clear hr0 hc0
  have HB := Aside0.mk (Below.refl w.heap.size w)
  obtain ⟨q, hq, hx⟩ := Option.bind_eq_some_iff.1 h
  clear h
  have HQ := Aside0.mk hq
  clear hq
  obtain rfl := clone_same HQ.out
  obtain rfl := Option.some.inj hx
  clear hx
  have HLIM := Aside0.mk (show q.length ≤ 9223372036854775807 from HR.out.2.1)
  go_enter Try.func20, Try.ntmps20
  go_wp2_with (first | (go_at_call 24; (with_reducible refine (api_Zone.calls _ _ _ _ _ HR.out HC.out HQ.out).mono ?_); rintro e w8 ⟨v8, rfl, ho, hb⟩; have HO8 := Aside0.mk ho; have nb_ := Aside0.mk hb; clear HB; have HB := nb_; clear nb_ hb ho; obtain ⟨A8, cap8, rfl⟩ := Kd.R_slice HO8.out))
  go_loopg [9] q.length (fun kq v9 w' => ∃ j : Nat, v9 = .int .i64 j ∧ Aside0 (j ≤ q.length) ∧ Aside0 (kq = q.length - j) ∧ Aside0 (Kd.R k36 36 w' w.heap.size (fun _ => True) (.slice A8 q.length cap8) (powerL q j)) ∧ Aside0 (Below w.heap.size w w'))
  case atStart => exact ⟨0, rfl, ⟨Nat.zero_le _⟩, ⟨rfl⟩, ⟨by unfold powerL; simpa using HO8.out⟩, HB⟩
  case round =>
    obtain ⟨j, rfl, HJ, HK, HP, HBr⟩ := hrel
    clear HO8 HB
    have HO8 := HP
    have HB := HBr
    clear HP HBr
    by_cases hj : j < q.length
    · have hjb : decide ((j : Int) < (q.length : Int)) = true := decide_eq_true (by omega)
      have h0 := eq_true (show 0 ≤ (j : Int) by omega)
      have h1 := eq_true (show (j : Int) < (q.length : Int) by omega)
      have HJ2 := Aside0.mk hj
      have hjw : IntKind.i64.wrap ((j : Int) + 1) = (j : Int) + 1 := IntWalk.i64_in _ (by have := HLIM.out; have := HJ2.out; omega)
      have hjw2 : wrap64 ((j : Int) + 1) = (j : Int) + 1 := by have := HLIM.out; have := HJ2.out; unfold wrap64; omega
      obtain ⟨g8, cap9, e8, gb8, gl8, cl8, hG8⟩ := Kd.R_form HO8.out (by rw [powerL_len]; have := HJ2.out; omega)
      rw [powerL_len] at e8
      obtain ⟨rfl, _, rfl⟩ : A8 = some ⟨g8, 0, none⟩ ∧ q.length = q.length ∧ cap8 = cap9 := by simpa using e8
      clear e8 gb8 gl8 hG8 hj
      obtain ⟨⟨e0, e1⟩, ef0, ef1⟩ := zone_cells HO8.out j (of_eq_true h0) (by rw [of_eq_true h1 |> fun h => (rfl : q.length = q.length)]; exact of_eq_true h1)
      rw [powerL_rd q j HJ2.out] at e0 e1
      simp only [Int.toNat_natCast] at e0 e1 ef0 ef1
      by_cases c1 : (rd_T36 q j).f0 = 1
      · have c1b : ((rd_T36 q j).f0 == 1) = true := beq_iff_eq.2 c1
        have HZ := Aside0.mk (show powerZ (rd_T36 q j) = shutZ (rd_T36 q j) by unfold powerZ; rw [if_pos c1])
        clear c1
        go_wp2_with (first | (go_at_call 35; have hs_ := shut_elem (g := g8) (n := q.length) (cap := cap8) (j : Int) (powerL q j) w.heap.size w _ HO8.out HB.out (of_eq_true h0) (of_eq_true h1); rw [powerL_rd q j HJ2.out, ← HZ.out, Int.toNat_natCast, powerL_set q j HJ2.out] at hs_; (with_reducible refine hs_.mono ?_); clear hs_; rintro e w10 ⟨rfl, ho, hb, hg⟩; have no_ := Aside0.mk ho; clear HO8; have HO8 := no_; clear no_; have nb_ := Aside0.mk hb; clear HB; have HB := nb_; clear nb_ ho hb hg))
        go_roundg (q.length - (j + 1))
        case measure => have := HK.out; have := HJ2.out; omega
        case rel => exact ⟨j + 1, by go_num, ⟨HJ2.out⟩, ⟨rfl⟩, HO8, HB⟩
      · have c1b : ((rd_T36 q j).f0 == 1) = false := beq_eq_false_iff_ne.2 c1
        have HZ := Aside0.mk (show powerZ (rd_T36 q j) = rd_T36 q j by unfold powerZ; rw [if_neg c1])
        clear c1
        go_wp2
        go_roundg (q.length - (j + 1))
        case measure => have := HK.out; have := HJ2.out; omega
        case rel => exact ⟨j + 1, by go_num, ⟨HJ2.out⟩, ⟨rfl⟩, ⟨by rw [powerL_same q j HJ2.out HZ.out]; exact HO8.out⟩, HB⟩
    · have hjb : decide ((j : Int) < (q.length : Int)) = false := decide_eq_false (by omega)
      have hjb2 : decide (j < q.length) = false := decide_eq_false hj
      have hjn : j = q.length := by have := HJ.out; omega
      have HJN := Aside0.mk hjn
      clear hj hjn
      go_wp2
      go_ret
      exact ⟨_, rfl, by have h_ := HO8.out; rw [HJN.out] at h_; unfold powerL at h_; simpa using h_, HB.out⟩
end Go.Proofs.Ytckobmdklpalnaa.P04
