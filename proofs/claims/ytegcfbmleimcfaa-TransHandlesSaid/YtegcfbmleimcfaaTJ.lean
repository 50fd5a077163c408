/- slices.Insert of one element: in the executor's words. -/
import Derived.Test.YtegcfbmleimcfaaTI
namespace Go.AX
open Go.Proofs
set_option autoImplicit false
set_option linter.unusedVariables false
set_option linter.unusedSimpArgs false
set_option maxRecDepth 100000
set_option maxHeartbeats 4000000

theorem grTrans {a b c : World} {row : Option Nat} (h : a.grownBy b row) (k : b.grownBy c row) : a.grownBy c row := ⟨k.os.trans h.os, k.tape.trans h.tape, k.output.trans h.output, Nat.le_trans h.size k.size, fun j hj hr => (k.block j (Nat.lt_of_lt_of_le hj h.size) hr).trans (h.block j hj hr)⟩
theorem ins_fin {X : Emb} {w w' : World} {c cv c' : List D} {n' : Nat} (hW : WR w (mine X [(0, .row c 34 28), (1, .row cv 34 28)]) X [(0, .row c 34 28), (1, .row cv 34 28)] 2 w) {b' cap' : Nat} {cc' : Array Value} {row : Option Nat}
    (hx : (w.heap.size ≤ b' ∧ b' < w'.heap.size) ∨ X.ρ 0 = some (some b')) (hg : w.grownBy w' row) (hrow : ∀ k, row = some k → X.ρ 0 = some (some k)) (hb : w'.heap[b']? = some (.cells cc' 28 (0, 0))) (hs : cc'.size = cap' * 34) (h1 : ∀ x ∈ cc'.toList, x.oneCell' = true)
    (hd : repDs X.H c' cc'.toList) (hn : n' ≤ cap') (hm : cap' ≤ maxLen) :
    Did [(0, .row c 34 28), (1, .row cv 34 28)] X 2 w ⟨.own 2 n' 34, [(2, .row c' 34 28), (1, .dead), (0, .dead)], 1, True⟩ (X.add 2 (some b') (cap' * 34)) w' (.slice (some ⟨b', 0, none⟩) n' cap') := by
  refine Did.fresh hW (x := some b') (κ := cap' * 34) (row := row) ?_ ?_ hg ?_ ?_ ?_
  · intro i y h
    simp only [look_cons] at h
    split at h
    · cases h; rfl
    · split at h
      · cases h; rfl
      · cases h
  · intro b hb'
    cases hb'
    rcases hx with h | h
    · exact .inl h
    · exact .inr ⟨0, _, h, rfl, rfl, rfl⟩
  · intro k hk
    exact ⟨0, _, hrow k hk, rfl, rfl, rfl⟩
  · exact .inr ⟨b', cc', Emb.add_new, hb, by rw [Emb.add_κ, hs], h1, repDs_mono (Emb.le_add hW.none_n).2.2 _ _ hd⟩
  · simp only [repV]
    exact .inr ⟨b', cap', Emb.add_new, rfl, hn, hm, Emb.add_κ⟩
theorem mem_cut {A B C : List Value} {cc cv : Array Value} {x : Value} (hA : ∀ y ∈ A, y ∈ cc.toList) (hB : ∀ y ∈ B, y ∈ cv.toList) (hC : ∀ y ∈ C, y ∈ cc.toList) (h1 : ∀ v ∈ cc.toList, v.oneCell' = true) (h1v : ∀ v ∈ cv.toList, v.oneCell' = true) (hx : x ∈ A ++ B ++ C) : x.oneCell' = true := by
  rcases List.mem_append.1 hx with h | h
  · rcases List.mem_append.1 h with h | h
    · exact h1 x (hA x h)
    · exact h1v x (hB x h)
  · exact h1 x (hC x h)
theorem dropAA {α : Type} {A B : List α} {k : Nat} (h : A.length = k) : (A ++ B).drop k = B := by subst h; exact List.drop_left
theorem takeAA {α : Type} {A B : List α} {k : Nat} (h : A.length = k) : (A ++ B).take k = A := by subst h; exact List.take_left
theorem shift_list (cc cv : List Value) (i n c : Nat) (hi : i < n) (hroom : n + 1 ≤ c) (hl : cc.length = c * 34) (hv : 34 ≤ cv.length) (X1 : List Value) (hX1 : X1 = cc.take ((i + 1) * 34) ++ (cc.drop (i * 34)).take ((n - i) * 34) ++ cc.drop ((i + 1) * 34 + (n - i) * 34)) :
    X1.take (i * 34) ++ cv.take 34 ++ X1.drop (i * 34 + 34) = (cc.take (i * 34) ++ cv.take 34 ++ (cc.drop (i * 34)).take ((n - i) * 34)) ++ cc.drop ((i + 1) * 34 + (n - i) * 34) := by
  have t1 : (cc.take ((i + 1) * 34)).length = i * 34 + 34 := by rw [List.length_take]; omega
  have e1 : X1.take (i * 34) = cc.take (i * 34) := by
    rw [hX1, List.append_assoc, List.take_append_of_le_length (by omega), List.take_take]
    congr 1; omega
  have e2 : X1.drop (i * 34 + 34) = (cc.drop (i * 34)).take ((n - i) * 34) ++ cc.drop ((i + 1) * 34 + (n - i) * 34) := by
    rw [hX1, List.append_assoc, dropAA t1]
  rw [e1, e2]
  simp only [List.append_assoc]
theorem grow_list (A B C Z : List Value) (i n : Nat) (hA : A.length = i * 34) (hB : B.length = 34) (hC : C.length = (n - i) * 34) (hi : i < n) (R0 R1 R2 : List Value) (hR0 : R0 = A ++ Z) (hR1 : R1 = R0.take (i * 34) ++ B ++ R0.drop (i * 34 + 34)) (hR2 : R2 = R1.take ((i + 1) * 34) ++ C ++ R1.drop ((i + 1) * 34 + (n - i) * 34)) :
    R2 = (A ++ B ++ C) ++ Z.drop (34 + (n - i) * 34) := by
  have e0 : R0.take (i * 34) = A := by rw [hR0, takeAA hA]
  have e00 : R0.drop (i * 34 + 34) = Z.drop 34 := by rw [hR0, ← List.drop_drop, dropAA hA]
  have hAB : (A ++ B).length = (i + 1) * 34 := by simp only [List.length_append]; omega
  rw [e0, e00] at hR1
  have e2 : R1.take ((i + 1) * 34) = A ++ B := by rw [hR1, takeAA hAB]
  have e3 : R1.drop ((i + 1) * 34 + (n - i) * 34) = Z.drop (34 + (n - i) * 34) := by
    rw [hR1, ← List.drop_drop, dropAA hAB, List.drop_drop]
  rw [hR2, e2, e3]

theorem ins30 {l lv l' : List TWrite} {c cv c' : List D} {n nv n' : Nat} {i : Int} (hl : IsL eWrite c n l) (hv : IsL eWrite cv nv lv) (hl' : IsL eWrite c' n' l') (h : ins? 48 l i lv = some l') : SpecM Try.prog 30 2 [(0, .row c 34 28), (1, .row cv 34 28)] [.own 0 n 34, .d (.int .i64 i), .own 1 nv 34] ⟨.own 2 n' 34, [(2, .row c' 34 28), (1, .dead), (0, .dead)], 1, True⟩ := by
  unfold ins? at h
  split at h
  case isFalse => cases h
  rename_i hc
  obtain ⟨⟨hi0, hi1⟩, hlv, hbig⟩ := hc
  obtain rfl := (Option.some.inj h).symm
  obtain ⟨j, rfl⟩ := Int.eq_ofNat_of_zero_le hi0
  obtain ⟨rfl, rfl⟩ := hl
  obtain ⟨rfl, rfl⟩ := hv
  obtain ⟨rfl, rfl⟩ := hl'
  simp only [Int.toNat_natCast] at *
  have hj : j ≤ l.length := by omega
  refine ⟨⟨_, Try.func30, rfl, rfl⟩, fun X w xs hW hX hargs => ?_⟩
  obtain ⟨va, vi, vv, hxs, ha, hiv, hvv⟩ := repVs_three hargs
  have hxs' : xs = #[va, vi, vv] := Array.toList_inj.1 hxs
  subst hxs'
  simp only [repV, repD] at hiv
  subst hiv
  simp only [repV] at hvv ha
  have hB := hW.blk 0 _ rfl
  have hBv := hW.blk 1 _ rfl
  rcases hvv with ⟨_, q, _⟩ | ⟨vb, vcap, v1, rfl, v3, v4, v5⟩
  · omega
  have hvc : ∃ cvv, w.heap[vb]? = some (.cells cvv 28 (0, 0)) ∧ cvv.size = X.κ 1 ∧ (∀ x ∈ cvv.toList, x.oneCell' = true) ∧ repDs X.H (encL eWrite lv) cvv.toList := by
    rcases hBv with ⟨q, _⟩ | ⟨b', cx, q1, q2, q3, q4, q5⟩
    · rw [v1] at q; cases q
    · rw [v1] at q1; cases q1; exact ⟨cx, q2, q3, q4, q5⟩
  obtain ⟨cvv, c1, c2, c3, c4⟩ := hvc
  have hvs : 34 ≤ cvv.size := by rw [c2, v5]; omega
  have hvl : cvv.toList.length = cvv.size := by simp
  have hlv1 : (encL eWrite lv).length = 34 := by rw [encL_len eWrite_len, hlv]
  have repB : repDs X.H (encL eWrite lv) (cvv.toList.take 34) := by
    have := repDs_take c4 34
    rwa [List.take_of_length_le (by omega)] at this
  have hBl : (cvv.toList.take 34).length = 34 := by rw [List.length_take]; omega
  have hlen' : (l.take j ++ lv ++ l.drop j).length = l.length + 1 := by simp [hlv]; omega
  have henc : encL eWrite (l.take j ++ lv ++ l.drop j) = (encL eWrite l).take (j * 34) ++ encL eWrite lv ++ (encL eWrite l).drop (j * 34) := by
    rw [encL_take eWrite_len, encL_drop eWrite_len, encL_app, encL_app]
  have hEl : (encL eWrite l).length = l.length * 34 := encL_len eWrite_len l
  have hinf := insTI.info
  obtain ⟨inf, z, dd, g1, g2, g3, g4, g5, _, _, _, g8, _⟩ := hinf
  have hz34 : z.cells.size = 34 := g8
  have g2 : inf.size = 34 := g2
  have g3 : inf.bytes = 48 := g3
  have hzr := repC_one _ _ (g5 X)
  rcases ha with ⟨h1, h0, rfl⟩ | ⟨b, cap, h1, rfl, h3, h4, h5⟩
  · have hl0 : l = [] := List.eq_nil_of_length_eq_zero h0
    subst hl0
    obtain rfl : j = 0 := by simpa using hj
    have hnew := cells_at (o := 0) c1 34
    have hr := fun ty => run_append_nil (P := Try.prog) w 22 ty 28 inf z Try.underlying22 g1 g4 ⟨vb, 0, none⟩ 1 vcap (cvv.toList.take 34) (by rw [hBl, g2]) (by simpa using hnew) (by omega) (by omega) (by rw [g3]; omega)
    have hge := grownCap_ge w 1 0 28
    have hcm := grownCap_le_maxLen w 1 0 28 (by unfold maxLen; omega)
    have hsize : ((cvv.toList.take 34).toArray ++ Builtin.zeroCells z.cells (grownCap w 1 0 28 - 1)).size = grownCap w 1 0 28 * 34 := by
      simp only [Array.size_append, List.size_toArray, size_zeroCells, hz34, hBl]; omega
    have hlt : w.heap.size < (w.drew.alloc (.cells ((cvv.toList.take 34).toArray ++ Builtin.zeroCells z.cells (grownCap w 1 0 28 - 1)) 28)).heap.size := by show _ < (w.heap.push _).size; simp
    rw [hlv]
    refine (insEnd none 0 0 vb vcap w (fun _ => rfl) (Nat.le_refl _) _ _ hr).mono ?_
    rintro e' w' ⟨rfl, rfl⟩
    refine ⟨_, X.add 2 (some w.heap.size) (grownCap w 1 0 28 * 34), rfl, ?_⟩
    rw [hlen', henc]
    refine ins_fin hW (row := none) (.inl ⟨Nat.le_refl _, hlt⟩) ⟨rfl, rfl, rfl, by show _ ≤ (w.heap.push _).size; simp, fun k hk _ => heap_alloc_old w.drew _ hk⟩ (fun k hk => by cases hk) (heap_alloc_new w.drew _) hsize ?_ ?_ hge hcm
    · intro x hx
      simp only [Array.toList_append, List.mem_append] at hx
      rcases hx with hx | hx
      · exact c3 x (List.mem_of_mem_take (by simpa using hx))
      · exact zeroCells_one hzr _ x (by simpa using hx)
    · simp only [Array.toList_append]
      have : (encL eWrite ([] : List TWrite)).take (0 * 34) ++ encL eWrite lv ++ (encL eWrite ([] : List TWrite)).drop (0 * 34) = encL eWrite lv := by simp [encL]
      rw [this]
      exact repDs_pre repB
  · have hcc : ∃ cc, w.heap[b]? = some (.cells cc 28 (0, 0)) ∧ cc.size = X.κ 0 ∧ (∀ x ∈ cc.toList, x.oneCell' = true) ∧ repDs X.H (encL eWrite l) cc.toList := by
      rcases hB with ⟨q, _⟩ | ⟨b', cx, q1, q2, q3, q4, q5⟩
      · rw [h1] at q; cases q
      · rw [h1] at q1; cases q1; exact ⟨cx, q2, q3, q4, q5⟩
    obtain ⟨cc, d1, d2, d3, d4⟩ := hcc
    have hcs : cc.size = cap * 34 := by rw [d2, h5]
    have hcl : cc.toList.length = cap * 34 := by simpa using hcs
    have hvb : vb ≠ b := fun q => by
      have := hW.inj 1 0 vb _ _ rfl rfl rfl rfl v1 (by rw [q]; exact h1)
      cases this
    have hcap : cap ≤ 9223372036854775807 := by unfold maxLen at h4; omega
    have repA : repDs X.H ((encL eWrite l).take (j * 34)) (cc.toList.take (j * 34)) := repDs_take d4 _
    have hAl : (cc.toList.take (j * 34)).length = j * 34 := by rw [List.length_take]; omega
    have hAl' : ((encL eWrite l).take (j * 34)).length = j * 34 := by rw [List.length_take]; omega
    have repC' : repDs X.H ((encL eWrite l).drop (j * 34)) ((cc.toList.drop (j * 34)).take ((l.length - j) * 34)) := by
      have := repDs_take (repDs_drop d4 (j * 34)) ((l.length - j) * 34)
      rwa [List.take_of_length_le (l := (encL eWrite l).drop (j * 34)) (by rw [List.length_drop]; omega)] at this
    have repAll : repDs X.H ((encL eWrite l).take (j * 34) ++ encL eWrite lv ++ (encL eWrite l).drop (j * 34)) (cc.toList.take (j * 34) ++ cvv.toList.take 34 ++ (cc.toList.drop (j * 34)).take ((l.length - j) * 34)) :=
      repDs_app (repDs_app repA (by rw [hAl, hAl']) repB) (by simp only [List.length_append, hAl, hAl', hlv1, hBl]) repC'
    have oneAll : ∀ (rest : List Value), (∀ x ∈ rest, x.oneCell' = true) → ∀ x ∈ (cc.toList.take (j * 34) ++ cvv.toList.take 34 ++ (cc.toList.drop (j * 34)).take ((l.length - j) * 34)) ++ rest, x.oneCell' = true := by
      intro rest hrest x hx
      rcases List.mem_append.1 hx with hx | hx
      · exact mem_cut (fun y hy => List.mem_of_mem_take hy) (fun y hy => List.mem_of_mem_take hy) (fun y hy => List.mem_of_mem_drop (List.mem_of_mem_take hy)) d3 c3 hx
      · exact hrest x hx
    rw [hlv, hlen', henc]
    by_cases hjn : j = l.length
    · subst hjn
      have hnew := cells_at (o := 0) c1 34
      have hC0 : (cc.toList.drop (l.length * 34)).take ((l.length - l.length) * 34) = [] := by simp
      rw [hC0, List.append_nil] at repAll oneAll
      by_cases hroom : l.length + 1 ≤ cap
      · have hr := fun ty => run_append_room (P := Try.prog) w 22 ty 28 inf Try.underlying22 g1 b l.length cap cc d1 ⟨vb, 0, none⟩ 1 vcap (cvv.toList.take 34) (by rw [hBl, g2]) (by simpa using hnew) (fun u hu => c3 u (List.mem_of_mem_take hu)) hroom (by rw [g2, hBl]; omega)
        rw [g2] at hr
        refine (insEnd (some ⟨b, 0, none⟩) l.length cap vb vcap w (fun q => by cases q) h3 _ _ hr).mono ?_
        rintro e' w' ⟨rfl, rfl⟩
        refine ⟨_, X.add 2 (some b) (cap * 34), rfl, ?_⟩
        refine ins_fin hW (row := some b) (.inr h1) (grownBy_setRow w b _) (fun k hk => by cases hk; exact h1) (setRow_heap w b cc _ 28 _ d1) ?_ ?_ ?_ hroom h4
        · simp only [List.size_toArray, List.length_append, List.length_drop, hAl, hBl]; omega
        · exact oneAll _ (fun x hx => d3 x (List.mem_of_mem_drop hx))
        · exact repDs_pre repAll
      · have hr := fun ty => run_append_grow (P := Try.prog) w 22 ty 28 inf z Try.underlying22 g1 g4 ⟨b, 0, none⟩ l.length cap (cc.toList.take (l.length * 34)) (by rw [hAl, g2]) (by simpa using cells_at (o := 0) d1 (l.length * 34)) ⟨vb, 0, none⟩ 1 vcap (cvv.toList.take 34) (by rw [hBl, g2]) (by simpa using hnew) (by omega) (by omega) (growslice_fits (by omega) (by rw [g3]; exact hbig))
        have hge := grownCap_ge w (l.length + 1) cap 28
        have hcm := grownCap_le_maxLen w (l.length + 1) cap 28 (by unfold maxLen; omega)
        refine (insEnd (some ⟨b, 0, none⟩) l.length cap vb vcap w (fun q => by cases q) h3 _ _ hr).mono ?_
        rintro e' w' ⟨rfl, rfl⟩
        refine ⟨_, X.add 2 (some w.heap.size) (grownCap w (l.length + 1) cap 28 * 34), rfl, ?_⟩
        refine ins_fin hW (row := none) (.inl ⟨Nat.le_refl _, by show _ < (w.heap.push _).size; simp⟩) ⟨rfl, rfl, rfl, by show _ ≤ (w.heap.push _).size; simp, fun k hk _ => heap_alloc_old w.drew _ hk⟩ (fun k hk => by cases hk) (heap_alloc_new w.drew _) ?_ ?_ ?_ hge hcm
        · simp only [Array.size_append, List.size_toArray, List.length_append, size_zeroCells, hz34, hAl, hBl]; omega
        · intro x hx
          simp only [Array.toList_append] at hx
          exact oneAll _ (fun x hx => zeroCells_one hzr _ x (Array.mem_toList_iff.1 hx)) x hx
        · simp only [Array.toList_append]
          exact repDs_pre repAll
    · have hjl : j < l.length := by omega
      by_cases hroom : l.length + 1 ≤ cap
      · obtain ⟨X1, hX1⟩ : ∃ R : Array Value, R = (cc.toList.take ((j + 1) * 34) ++ (cc.toList.drop (j * 34)).take ((l.length - j) * 34) ++ cc.toList.drop ((j + 1) * 34 + (l.length - j) * 34)).toArray := ⟨_, rfl⟩
        obtain ⟨X2, hX2⟩ : ∃ R : Array Value, R = (X1.toList.take (j * 34) ++ cvv.toList.take 34 ++ X1.toList.drop (j * 34 + 34)).toArray := ⟨_, rfl⟩
        refine (insShift b l.length cap j vb vcap cc cvv w hjl hroom hcap hvb d1 hcs c1 hvs d3 c3 X1 X2 hX1 hX2).mono ?_
        rintro e' w' ⟨rfl, rfl⟩
        refine ⟨_, X.add 2 (some b) (cap * 34), rfl, ?_⟩
        have hlist := shift_list cc.toList cvv.toList j l.length cap hjl hroom hcl (by omega) X1.toList (by rw [hX1])
        have hx2 : X2.toList = X1.toList.take (j * 34) ++ cvv.toList.take 34 ++ X1.toList.drop (j * 34 + 34) := by rw [hX2]
        rw [← hx2] at hlist
        have hh := setRow_heap w.drew b cc X1 28 (0, 0) d1
        have hh2 := setRow_heap (w.drew.setRow b X1) b X1 X2 28 (0, 0) hh
        have hgb := grTrans (grownBy_setRow w.drew b X1) (grownBy_setRow (w.drew.setRow b X1) b X2)
        refine ins_fin hW (row := some b) (.inr h1) ⟨hgb.os, hgb.tape, hgb.output, hgb.size, hgb.block⟩ (fun k hk => by cases hk; exact h1) hh2 ?_ ?_ ?_ hroom h4
        · have : ((cc.toList.drop (j * 34)).take ((l.length - j) * 34)).length = (l.length - j) * 34 := by rw [List.length_take, List.length_drop]; omega
          rw [← Array.length_toList, hlist]
          simp only [List.size_toArray, List.length_append, List.length_drop, hAl, hBl, this]; omega
        · rw [hlist]
          exact oneAll _ (fun x hx => d3 x (List.mem_of_mem_drop hx))
        · rw [hlist]
          exact repDs_pre repAll
      · have hCl : ((cc.toList.drop (j * 34)).take ((l.length - j) * 34)).length = (l.length - j) * 34 := by rw [List.length_take, List.length_drop]; omega
        have hge := grownCap_ge w (l.length + 1) cap 28
        have hcm := grownCap_le_maxLen w (l.length + 1) cap 28 (by unfold maxLen; omega)
        obtain ⟨G, hG⟩ : ∃ G, G = grownCap w (l.length + 1) cap 28 := ⟨_, rfl⟩
        rw [← hG] at hge hcm
        obtain ⟨R0, hR0⟩ : ∃ R : Array Value, R = (cc.toList.take (j * 34)).toArray ++ Builtin.zeroCells z.cells (l.length + 1 - j) ++ Builtin.zeroCells z.cells (G - (l.length + 1)) := ⟨_, rfl⟩
        obtain ⟨R1, hR1⟩ : ∃ R : Array Value, R = (R0.toList.take (j * 34) ++ cvv.toList.take 34 ++ R0.toList.drop (j * 34 + 34)).toArray := ⟨_, rfl⟩
        obtain ⟨R2, hR2⟩ : ∃ R : Array Value, R = (R1.toList.take ((j + 1) * 34) ++ (cc.toList.drop (j * 34)).take ((l.length - j) * 34) ++ R1.toList.drop ((j + 1) * 34 + (l.length - j) * 34)).toArray := ⟨_, rfl⟩
        have hlist := grow_list (cc.toList.take (j * 34)) (cvv.toList.take 34) ((cc.toList.drop (j * 34)).take ((l.length - j) * 34)) ((Builtin.zeroCells z.cells (l.length + 1 - j)).toList ++ (Builtin.zeroCells z.cells (G - (l.length + 1))).toList) j l.length hAl hBl hCl hjl R0.toList R1.toList R2.toList (by rw [hR0]; simp only [Array.toList_append, List.append_assoc]) (by rw [hR1]) (by rw [hR2])
        have hZl : ((Builtin.zeroCells z.cells (l.length + 1 - j)).toList ++ (Builtin.zeroCells z.cells (G - (l.length + 1))).toList).length = (l.length + 1 - j) * 34 + (G - (l.length + 1)) * 34 := by
          simp only [List.length_append, Array.length_toList, size_zeroCells, hz34]
        have hZ1 : ∀ x ∈ ((Builtin.zeroCells z.cells (l.length + 1 - j)).toList ++ (Builtin.zeroCells z.cells (G - (l.length + 1))).toList), x.oneCell' = true := fun x hx => by
          rcases List.mem_append.1 hx with hx | hx
          · exact zeroCells_one hzr _ x (Array.mem_toList_iff.1 hx)
          · exact zeroCells_one hzr _ x (Array.mem_toList_iff.1 hx)
        have hR2s : R2.size = G * 34 := by
          rw [← Array.length_toList, hlist]
          simp only [List.length_append, List.length_drop, hAl, hBl, hCl]
          simp only [List.length_append] at hZl
          rw [hZl]; omega
        refine (insGrow b l.length cap j vb vcap cc cvv w hjl h3 (by omega) hbig hvb d1 hcs c1 hvs d3 c3 z inf g1 g4 g2 g3 hz34 G hG R0 R1 R2 hR0 hR1 hR2).mono ?_
        rintro e' w' ⟨rfl, rfl⟩
        refine ⟨_, X.add 2 (some w.heap.size) (G * 34), rfl, ?_⟩
        have q0 : (w.alloc (.cells R0 28)).drew.heap[w.heap.size]? = some (.cells R0 28 (0, 0)) := heap_alloc_new w _
        have q1 := setRow_heap (w.alloc (.cells R0 28)).drew w.heap.size R0 R1 28 (0, 0) q0
        have q2 := setRow_heap ((w.alloc (.cells R0 28)).drew.setRow w.heap.size R1).drew w.heap.size R1 R2 28 (0, 0) q1
        have k1 := grownBy_setRow (w.alloc (.cells R0 28)).drew w.heap.size R1
        have k2 := grownBy_setRow ((w.alloc (.cells R0 28)).drew.setRow w.heap.size R1).drew w.heap.size R2
        have hlt := (Array.getElem?_eq_some_iff.1 q2).1
        have hlt0 := (Array.getElem?_eq_some_iff.1 q0).1
        have hlt1 := (Array.getElem?_eq_some_iff.1 q1).1
        refine ins_fin hW (row := none) (.inl ⟨Nat.le_refl _, hlt⟩) ⟨k2.os.trans k1.os, k2.tape.trans k1.tape, k2.output.trans k1.output, Nat.le_of_lt hlt, fun k hk _ => ?_⟩ (fun k hk => by cases hk) q2 hR2s ?_ ?_ hge hcm
        · have hne : (some k : Option Nat) ≠ some w.heap.size := fun q => by cases q; omega
          refine (k2.block k (by show k < ((w.alloc (.cells R0 28)).drew.setRow w.heap.size R1).heap.size; omega) (by first | exact hne | exact hne.symm | exact fun q => hne q.symm)).trans ((k1.block k (by omega) (by first | exact hne | exact hne.symm | exact fun q => hne q.symm)).trans (heap_alloc_old w _ hk))
        · rw [hlist]
          exact oneAll _ (fun x hx => hZ1 x (List.mem_of_mem_drop hx))
        · rw [hlist]
          exact repDs_pre repAll
end Go.AX
