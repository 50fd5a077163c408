/- slices.Delete, walked. -/
import Derived.Test.YtegcfbmleimcfaaTJ
namespace Go.AX
open Go.Proofs Go.Shelf Go.RowKit Go.Lib
set_option autoImplicit false
set_option linter.unusedVariables false
set_option linter.unusedSimpArgs false
set_option maxRecDepth 100000
set_option maxHeartbeats 4000000
theorem delTI : TIok Try.prog 24 ⟨3, 40, true, false, [.int .i64, .int .i64, .slc 34], .struct [(0, 3), (1, 3), (2, 22)]⟩ := okTI_ok (by kernel_rfl)
theorem step_append_runI {P : Program} {ops : Array Oper} {o : Oper} {a : Act} {w : World} {K : Act → World → Prop} {Q : Exit → Act → World → Prop} {E : Prop}
    (hg : o.guard = none) (s x : Operand) (t tn : TypeId) (ho : o.op = .call { callee := .builtin .append, args := #[s, x], argTypes := #[t, tn] }) (vs vx : Value) (hs : a.eval s = vs) (hx : a.eval x = vx)
    {v' : Value} {w' : World} (hr : (Builtin.append_ #[t, tn] o.type #[vs, vx]).run P w = .ok v' w') (hK : K (a.put o.dst v') w') :
    if Region.wanted o (yielded ops a.tmps) = true then Oper.wp P o a w K Q else E := by
  have hw : Region.wanted o (yielded ops a.tmps) = true := by simp [Region.wanted, hg]
  rw [if_pos hw]
  exact Lib.wp_append_run w s x t tn ho vs vx hs hx v' w' hr hK
theorem delId (base : Option Addr) (n c i : Nat) (w : World) (hi : i ≤ n) (hnc : n ≤ c) (hc63 : c ≤ 9223372036854775807) :
    Calls Try.prog 33 #[.slice base n c, .int .i64 i, .int .i64 i] w fun e w' => e = .returned (.slice base n c) ∧ w' = w := by
  have mixed : Try.prog.follows .mixedOrders = true := by kernel_rfl
  have hic : i ≤ c := by omega
  go_enter Try.func33, Try.ntmps33
  go_wp2
  all_goals (go_ret; exact ⟨rfl, rfl⟩)
theorem delSh (b n c i j : Nat) (cc : Array Value) (w : World) (hij : i < j) (hjn : j ≤ n) (hnc : n ≤ c) (hc63 : c ≤ 9223372036854775807) (hb : w.heap[b]? = some (.cells cc 24 (0, 0))) (hcs : cc.size = c * 3)
    (h1 : ∀ v ∈ cc.toList, v.oneCell' = true) (z : Value) (inf : TypeInfo) (hinf : Try.prog.info? 24 = some inf) (hz : ∀ w, (zeroValue 24).run Try.prog w = .ok z w) (hzs : inf.size = 3) (hz3 : z.cells.size = 3) (hz1 : ∀ q, ∀ u ∈ (Builtin.zeroCells z.cells q).toList, u.oneCell' = true) (X1 X2 : Array Value)
    (hX1 : X1 = (cc.toList.take (i * 3) ++ (cc.toList.drop (j * 3)).take ((n - j) * 3) ++ cc.toList.drop (i * 3 + (n - j) * 3)).toArray)
    (hX2 : X2 = (X1.toList.take ((i + (n - j)) * 3) ++ (Builtin.zeroCells z.cells (n - (i + (n - j)))).toList ++ X1.toList.drop ((i + (n - j)) * 3 + (n - (i + (n - j))) * 3)).toArray) :
    Calls Try.prog 33 #[.slice (some ⟨b, 0, none⟩) n c, .int .i64 i, .int .i64 j] w fun e w' =>
      e = .returned (.slice (some ⟨b, 0, none⟩) (i + (n - j)) c) ∧ w' = (w.drew.setRow b X1).setRow b X2 := by
  have mixed : Try.prog.follows .mixedOrders = true := by kernel_rfl
  have hcl : cc.toList.length = c * 3 := by simpa using hcs
  have hl : ((cc.toList.drop (j * 3)).take ((n - j) * 3)).length = (n - j) * 3 := by
    rw [List.length_take, List.length_drop]; omega
  have hap : ∀ (ty : TypeId) (a : Addr) (m2 : Nat), (∀ k u, ((cc.toList.drop (j * 3)).take ((n - j) * 3))[k]? = some u → w.drew.cell? (a.add k) = some u) → (Builtin.append_ #[37, 37] ty #[.slice (some ⟨b, 0, none⟩) i c, .slice (some a) (n - j) m2]).run Try.prog w.drew = .ok (.slice (some ⟨b, 0, none⟩) (i + (n - j)) c) (w.drew.setRow b X1) := fun ty a m2 hsrc => by
    have := run_append_room (P := Try.prog) w.drew 37 ty 24 inf Try.underlying37 hinf b i c cc hb a (n - j) m2 _ (by rw [hl, hzs]) hsrc (fun u hu => h1 u (List.mem_of_mem_drop (List.mem_of_mem_take hu))) (by omega) (by rw [hzs, hl]; omega)
    rw [hzs, hl, ← hX1] at this
    exact this
  have hX1s : X1.size = c * 3 := by
    rw [hX1]; simp only [List.size_toArray, List.length_append, List.length_take, List.length_drop, hcl]; omega
  obtain ⟨W1, hW1⟩ : ∃ W1, W1 = w.drew.setRow b X1 := ⟨_, rfl⟩
  have hb1 : W1.heap[b]? = some (.cells X1 24 (0, 0)) := by rw [hW1]; exact setRow_heap w.drew b cc X1 24 (0, 0) hb
  have hzl : ((Builtin.zeroCells z.cells (n - (i + (n - j)))).toList).length = (n - (i + (n - j))) * 3 := by
    rw [Array.length_toList, size_zeroCells, hz3]
  have hclr : ∀ ty cp, (Builtin.clear_ #[37] ty #[.slice (some ⟨b, (i + (n - j)) * 3, none⟩) (n - (i + (n - j))) cp]).run Try.prog W1 = .ok (.tuple #[]) (W1.setRow b X2) := fun ty cp => by
    have := run_clear_at (P := Try.prog) (w := W1) (ty := ty) Try.underlying37 (hz W1) b ((i + (n - j)) * 3) (n - (i + (n - j))) cp X1 24 _ hb1 rfl (by rw [hzl]; omega) (hz1 _)
    rw [hzl, if_neg (by omega), ← hX2] at this
    exact this
  rw [← hW1] at hap ⊢
  have hic : i ≤ c := by omega
  have hjc : j ≤ c := by omega
  have hij' : i ≤ j := by omega
  have hin : i ≤ n := by omega
  have hne : ¬ ((i : Int) = (j : Int)) := by omega
  have hne2 : ¬ (i = j) := by omega
  have hm1 : i + (n - j) ≤ n := by omega
  have hm2 : ¬ (c = i + (n - j)) := by omega
  have hm3 : i + (n - j) ≤ c := by omega
  have sp1 : Hid (∀ k u, ((cc.toList.drop (j * 3)).take ((n - j) * 3))[k]? = some u → w.drew.cell? ((⟨b, j * 3, none⟩ : Addr).add k) = some u) := by
    intro k u hk
    have hb' : w.drew.heap[b]? = some (.cells cc 24 (0, 0)) := hb
    exact cells_at (o := j * 3) hb' ((n - j) * 3) k u (by simpa using hk)
  have sp2 : Hid (c = j → ∀ k u, ((cc.toList.drop (j * 3)).take ((n - j) * 3))[k]? = some u → w.drew.cell? ((⟨b, 0, none⟩ : Addr).add k) = some u) := by
    intro hcj k u hk
    have : ((cc.toList.drop (j * 3)).take ((n - j) * 3)).length = 0 := by rw [hl]; omega
    rw [List.length_eq_zero_iff.1 this] at hk
    simp at hk
  clear hX1s hb1 hzl hX1 hX2 hW1 hl hcl
  by_cases hcj : c = j
  · have sp3 : Hid _ := sp2.out hcj
    clear sp2 sp1
    obtain rfl : n = j := by omega
    subst hcj
    simp only [Nat.sub_self, Nat.add_zero] at hap hclr hm1 hm2 hm3 sp3 ⊢
    clear hm1 hm3 hnc hjc hjn
    go_enter Try.func33, Try.ntmps33
    go_wp2_with fail
    go_region_law_o (refine step_append_runI rfl (.tmp 22) (.tmp 25) 37 37 rfl (.slice (some ⟨b, 0, none⟩) i c) (.slice (some ⟨b, 0, none⟩) 0 0) (by simp [Act.eval, Act.put]) (by simp [Act.eval, Act.put]) (hap _ _ _ sp3.out) ?_)
    go_wp2
    go_ret
    exact ⟨rfl, rfl⟩
  · clear sp2
    go_enter Try.func33, Try.ntmps33
    go_wp2_with fail
    go_region_law_o (refine step_append_runI rfl (.tmp 22) (.tmp 25) 37 37 rfl (.slice (some ⟨b, 0, none⟩) i c) (.slice (some ⟨b, j * 3, none⟩) (n - j) (c - j)) (by simp [Act.eval, Act.put]) (by simp [Act.eval, Act.put]) (hap _ _ _ sp1.out) ?_)
    go_wp2
    go_ret
    exact ⟨rfl, rfl⟩
theorem dele_fin {X : Emb} {w w' : World} {c c' : List D} {n' : Nat} (hW : WR w (mine X [(0, .row c 3 24)]) X [(0, .row c 3 24)] 1 w) {b' cap' : Nat} {cc' : Array Value}
    (hx : X.ρ 0 = some (some b')) (hg : w.grownBy w' (some b')) (hb : w'.heap[b']? = some (.cells cc' 24 (0, 0))) (hs : cc'.size = cap' * 3) (h1 : ∀ x ∈ cc'.toList, x.oneCell' = true)
    (hd : repDs X.H c' cc'.toList) (hn : n' ≤ cap') (hm : cap' ≤ maxLen) :
    Did [(0, .row c 3 24)] X 1 w ⟨.own 1 n' 3, [(1, .row c' 3 24), (0, .dead)], 1, True⟩ (X.add 1 (some b') (cap' * 3)) w' (.slice (some ⟨b', 0, none⟩) n' cap') := by
  refine Did.fresh hW (x := some b') (κ := cap' * 3) (row := some b') ?_ ?_ hg ?_ ?_ ?_
  · intro i y h
    simp only [look_cons] at h
    split at h
    · cases h; rfl
    · cases h
  · intro b hb'
    cases hb'
    exact .inr ⟨0, _, hx, rfl, rfl, rfl⟩
  · intro k hk
    cases hk
    exact ⟨0, _, hx, rfl, rfl, rfl⟩
  · exact .inr ⟨b', cc', Emb.add_new, hb, by rw [Emb.add_κ, hs], h1, repDs_mono (Emb.le_add hW.none_n).2.2 _ _ hd⟩
  · simp only [repV]
    exact .inr ⟨b', cap', Emb.add_new, rfl, hn, hm, Emb.add_κ⟩
theorem dele33 {l l' : List TTrans} {c c' : List D} {n n' : Nat} {i j : Int} (hl : IsL eTrans c n l) (hl' : IsL eTrans c' n' l') (h : dele? l i j = some l') : SpecM Try.prog 33 1 [(0, .row c 3 24)] [.own 0 n 3, .d (.int .i64 i), .d (.int .i64 j)] ⟨.own 1 n' 3, [(1, .row c' 3 24), (0, .dead)], 1, True⟩ := by
  unfold dele? at h
  split at h
  case isFalse => cases h
  rename_i hc
  obtain ⟨hi0, hi1, hj1⟩ := hc
  obtain rfl := (Option.some.inj h).symm
  obtain ⟨i', rfl⟩ := Int.eq_ofNat_of_zero_le hi0
  obtain ⟨j', rfl⟩ := Int.eq_ofNat_of_zero_le (Int.le_trans hi0 hi1)
  obtain ⟨rfl, rfl⟩ := hl
  obtain ⟨rfl, rfl⟩ := hl'
  simp only [Int.toNat_natCast] at *
  have hij : i' ≤ j' := by omega
  have hj : j' ≤ l.length := by omega
  clear hi0 hi1 hj1
  refine ⟨⟨_, Try.func33, rfl, rfl⟩, fun X w xs hW hX hargs => ?_⟩
  obtain ⟨va, vi, vv, hxs, ha, hiv, hvv⟩ := repVs_three hargs
  have hxs' : xs = #[va, vi, vv] := Array.toList_inj.1 hxs
  subst hxs'
  simp only [repV, repD] at hiv hvv
  subst hiv
  subst hvv
  simp only [repV] at ha
  have hB := hW.blk 0 _ rfl
  rcases ha with ⟨h1, h0, rfl⟩ | ⟨b, cap, h1, rfl, h3, h4, h5⟩
  · have hl0 : l = [] := List.eq_nil_of_length_eq_zero h0
    subst hl0
    obtain rfl : j' = 0 := by simpa using hj
    obtain rfl : i' = 0 := by omega
    refine (delId none 0 0 0 w (Nat.le_refl _) (Nat.le_refl _) (by omega)).mono ?_
    rintro e' w' ⟨rfl, rfl⟩
    refine ⟨_, X.add 1 none 0, rfl, ?_⟩
    refine Did.fresh hW (x := none) (κ := 0) (row := none) ?_ ?_ (grownBy_refl _ _) ?_ ?_ ?_
    · intro i y h
      simp only [look_cons] at h
      split at h
      · cases h; rfl
      · cases h
    · intro b hb'; cases hb'
    · intro k hk; cases hk
    · exact .inl ⟨Emb.add_new, rfl⟩
    · simp only [repV]
      exact .inl ⟨Emb.add_new, by simp, trivial⟩
  · have hcc : ∃ cc, w.heap[b]? = some (.cells cc 24 (0, 0)) ∧ cc.size = X.κ 0 ∧ (∀ x ∈ cc.toList, x.oneCell' = true) ∧ repDs X.H (encL eTrans l) cc.toList := by
      rcases hB with ⟨q, _⟩ | ⟨b', cx, q1, q2, q3, q4, q5⟩
      · rw [h1] at q; cases q
      · rw [h1] at q1; cases q1; exact ⟨cx, q2, q3, q4, q5⟩
    obtain ⟨cc, d1, d2, d3, d4⟩ := hcc
    have hcs : cc.size = cap * 3 := by rw [d2, h5]
    have hcl : cc.toList.length = cap * 3 := by simpa using hcs
    have hcap : cap ≤ 9223372036854775807 := by unfold maxLen at h4; omega
    have hEl : (encL eTrans l).length = l.length * 3 := encL_len eTrans_len l
    by_cases heq : i' = j'
    · subst heq
      refine (delId (some ⟨b, 0, none⟩) l.length cap i' w hj h3 hcap).mono ?_
      rintro e' w' ⟨rfl, rfl⟩
      refine ⟨_, X.add 1 (some b) (cap * 3), rfl, ?_⟩
      rw [List.take_append_drop]
      exact dele_fin hW h1 (grownBy_refl _ _) d1 hcs d3 d4 h3 h4
    · obtain ⟨inf, z, dd, g1, g2, g3, g4, g5, _, _, _, g8, _⟩ := delTI.info
      have g2 : inf.size = 3 := g2
      have hz3 : z.cells.size = 3 := g8
      have hzr := repC_one _ _ (g5 X)
      have hlen' : (l.take i' ++ l.drop j').length = i' + (l.length - j') := by simp; omega
      have henc : encL eTrans (l.take i' ++ l.drop j') = (encL eTrans l).take (i' * 3) ++ (encL eTrans l).drop (j' * 3) := by
        rw [encL_take eTrans_len, encL_drop eTrans_len, encL_app]
      obtain ⟨X1, hX1⟩ : ∃ R : Array Value, R = (cc.toList.take (i' * 3) ++ (cc.toList.drop (j' * 3)).take ((l.length - j') * 3) ++ cc.toList.drop (i' * 3 + (l.length - j') * 3)).toArray := ⟨_, rfl⟩
      obtain ⟨X2, hX2⟩ : ∃ R : Array Value, R = (X1.toList.take ((i' + (l.length - j')) * 3) ++ (Builtin.zeroCells z.cells (l.length - (i' + (l.length - j')))).toList ++ X1.toList.drop ((i' + (l.length - j')) * 3 + (l.length - (i' + (l.length - j'))) * 3)).toArray := ⟨_, rfl⟩
      have hAl : (cc.toList.take (i' * 3)).length = i' * 3 := by rw [List.length_take]; omega
      have hAl' : ((encL eTrans l).take (i' * 3)).length = i' * 3 := by rw [List.length_take]; omega
      have hCl : ((cc.toList.drop (j' * 3)).take ((l.length - j') * 3)).length = (l.length - j') * 3 := by rw [List.length_take, List.length_drop]; omega
      have hZl : ((Builtin.zeroCells z.cells (l.length - (i' + (l.length - j')))).toList).length = (l.length - (i' + (l.length - j'))) * 3 := by rw [Array.length_toList, size_zeroCells, hz3]
      have repA : repDs X.H ((encL eTrans l).take (i' * 3)) (cc.toList.take (i' * 3)) := repDs_take d4 _
      have repC' : repDs X.H ((encL eTrans l).drop (j' * 3)) ((cc.toList.drop (j' * 3)).take ((l.length - j') * 3)) := by
        have := repDs_take (repDs_drop d4 (j' * 3)) ((l.length - j') * 3)
        rwa [List.take_of_length_le (l := (encL eTrans l).drop (j' * 3)) (by rw [List.length_drop]; omega)] at this
      have hx1 : X1.toList.take ((i' + (l.length - j')) * 3) = cc.toList.take (i' * 3) ++ (cc.toList.drop (j' * 3)).take ((l.length - j') * 3) := by
        rw [hX1]
        exact takeAA (by rw [List.length_append, hAl, hCl]; omega)
      have hx1m : ∀ x ∈ X1.toList, x.oneCell' = true := by
        intro x hx
        rw [hX1] at hx
        exact mem_cut (cv := cc) (fun y hy => List.mem_of_mem_take hy) (fun y hy => List.mem_of_mem_drop (List.mem_of_mem_take hy)) (fun y hy => List.mem_of_mem_drop hy) d3 d3 (by simpa using hx)
      have hX1s : X1.size = cap * 3 := by
        rw [hX1]; simp only [List.size_toArray, List.length_append, List.length_drop, hAl, hCl, hcl]; omega
      refine (delSh b l.length cap i' j' cc w (by omega) hj h3 hcap d1 hcs d3 z inf g1 ?_ g2 hz3 (fun q u hu => zeroCells_one hzr _ u (Array.mem_toList_iff.1 hu)) X1 X2 hX1 hX2).mono ?_
      · intro W
        simp [zeroValue, typeInfo, g1, g4]
      rintro e' w' ⟨rfl, rfl⟩
      refine ⟨_, X.add 1 (some b) (cap * 3), rfl, ?_⟩
      rw [hlen', henc]
      have hh := setRow_heap w.drew b cc X1 24 (0, 0) d1
      have hh2 := setRow_heap (w.drew.setRow b X1) b X1 X2 24 (0, 0) hh
      have hgb := grTrans (grownBy_setRow w.drew b X1) (grownBy_setRow (w.drew.setRow b X1) b X2)
      refine dele_fin hW h1 ⟨hgb.os, hgb.tape, hgb.output, hgb.size, hgb.block⟩ hh2 ?_ ?_ ?_ (by omega) h4
      · rw [hX2]
        have : X1.toList.length = cap * 3 := by rw [Array.length_toList, hX1s]
        simp only [List.size_toArray, List.length_append, List.length_take, List.length_drop, hZl, this]; omega
      · intro x hx
        rw [hX2] at hx
        rcases List.mem_append.1 hx with hx | hx
        · rcases List.mem_append.1 hx with hx | hx
          · exact hx1m x (List.mem_of_mem_take hx)
          · exact zeroCells_one hzr _ x (Array.mem_toList_iff.1 hx)
        · exact hx1m x (List.mem_of_mem_drop hx)
      · rw [hX2, List.toList_toArray, hx1, List.append_assoc]
        exact repDs_pre (repDs_app repA (by rw [hAl, hAl']) repC')
end Go.AX
