/- slices.SortFunc: from the library's contract to the executor's words. -/
import Derived.Shelf.SlSortCmp.NoneTotal
import Derived.Test.YtgphlcbjgcogkaaKc
import Derived.Test.YtgphlcbjgcogkaaBT
namespace Go.AX
open Go.Proofs Go.Sort
set_option autoImplicit false
set_option linter.unusedVariables false
set_option linter.unusedSimpArgs false

def plnD : D → Bool
  | .int _ _ => true
  | .bool _ => true
  | _ => false
theorem plnD_rep {H : Nat → Option Obj} : ∀ {d : D} {v : Value}, plnD d = true → repD H d v → v = D.key d
  | .int _ _, v, _, hr => by simp only [repD] at hr; exact hr
  | .bool _, v, _, hr => by simp only [repD] at hr; exact hr
  | .str _, _, h, _ => by cases h
  | .nils, _, h, _ => by cases h
  | .lit _, _, h, _ => by cases h
  | .lst _ _, _, h, _ => by cases h
theorem plnD_mk {H : Nat → Option Obj} : ∀ {d : D}, plnD d = true → repD H d (D.key d)
  | .int _ _, _ => by simp only [repD]; rfl
  | .bool _, _ => by simp only [repD]; rfl
  | .str _, h => by cases h
  | .nils, h => by cases h
  | .lit _, h => by cases h
  | .lst _ _, h => by cases h
theorem plnD_one : ∀ {d : D}, plnD d = true → (D.key d).oneCell' = true
  | .int _ _, _ => rfl
  | .bool _, _ => rfl
  | .str _, h => by cases h
  | .nils, h => by cases h
  | .lit _, h => by cases h
  | .lst _ _, h => by cases h

/-- An element's cells, as values. -/
def keyL {α : Type} (f : α → List D) (x : α) : List Value := (f x).map D.key

section
variable {α S : Type} [Inhabited S] {f : α → List D} {k : Nat}
theorem flat_get (hf : ∀ x, (f x).length = k) (hk0 : 0 < k) (v : S → α) (d : Array S) {t : Nat} (ht : t < d.size * k) : ∃ dd, (encL f (d.toList.map v))[t]? = some dd ∧ (Go.Sort.flatK (fun x => keyL f (v x)) k d)[t]! = D.key dd := by
  have hq : t / k < d.size := (Nat.div_lt_iff_lt_mul hk0).2 ht
  have hm : t % k < k := Nat.mod_lt _ hk0
  have he := encL_get hf (l := d.toList.map v) (i := t / k) (y := v d[t / k]) (by simp [hq]) (t % k) hm
  rw [show t / k * k + t % k = t by rw [Nat.mul_comm]; exact Nat.div_add_mod t k] at he
  have hlen := hf (v d[t / k])
  have hget : (f (v d[t / k]))[t % k]? = some ((f (v d[t / k]))[t % k]'(by omega)) := List.getElem?_eq_getElem (by omega)
  refine ⟨_, he.trans hget, ?_⟩
  rw [get_flatK _ _ _ _ ht, getElem!_pos d _ hq]
  unfold keyL
  rw [getElem!_pos _ _ (by rw [List.length_map]; omega), List.getElem_map]

theorem holds_row (hf : ∀ x, (f x).length = k) (hk0 : 0 < k) (hp : ∀ x, ∀ d ∈ f x, plnD d = true) (v : S → α) (d : Array S) {w : World} {b : Nat} {c : Array Value} {e : TypeId} {H : Nat → Option Obj}
    (hb : w.heap[b]? = some (.cells c e (0, 0))) (hr : repDs H (encL f (d.toList.map v)) c.toList) : HoldsK (fun x => keyL f (v x)) k w b 0 d := by
  intro t ht
  rw [size_flatK] at ht
  obtain ⟨dd, h1, h2⟩ := flat_get hf hk0 v d ht
  obtain ⟨u, h3, h4⟩ := repDs_get _ _ hr t dd h1
  have hpl : plnD dd = true := by
    have := List.mem_of_getElem? h1
    unfold encL at this
    obtain ⟨x, _, hx⟩ := List.mem_flatMap.1 this
    exact hp x dd hx
  rw [Nat.zero_add]
  refine ⟨?_, ?_⟩
  · unfold World.cell?
    simp only [hb]
    rw [h2, ← plnD_rep hpl h4]
    simpa using h3
  · unfold World.frozen?
    simp [hb]
end

theorem specM_sort {P : Program} {α : Type} {g gv : FuncId} (hent : Enters P g) {k : Nat} (hk0 : 0 < k) (f : α → List D) (hf : ∀ x, (f x).length = k) (hp : ∀ x, ∀ d ∈ f x, plnD d = true) (cf : α → α → Int)
    (hnone : ∀ (p : Option Addr) (cap : Nat) (w : World), Calls P g #[.slice p 0 cap, .func (.func gv) #[] #[]] w fun e w' => e = .returned (.tuple #[]) ∧ w' = w)
    (hsome : ∀ (S : Type) [Inhabited S] (v : S → α) (blk cap : Nat) (d : Array S) (w : World), (∀ x y : S, ltOf (fun x y => cf (v x) (v y)) x y = false → ltOf (fun x y => cf (v x) (v y)) y x = false → x = y) →
      HoldsK (fun x => keyL f (v x)) k w blk 0 d → blk < w.heap.size → d.size < 4611686018427387904 →
      Calls P g #[.slice (some ⟨blk, 0, none⟩) d.size cap, .func (.func gv) #[] #[]] w fun e w' => e = .returned (.tuple #[]) ∧ ∃ n os, w' = sortWorldK (fun x => keyL f (v x)) k w blk 0 n (d.toList.mergeSort fun x y => !(ltOf (fun x y => cf (v x) (v y))) y x).toArray os)
    (l : List α) (hl : l.length < 4611686018427387904) (hdist : ∀ x ∈ l, ∀ y ∈ l, ¬ cf x y < 0 → ¬ cf y x < 0 → x = y) (e : TypeId) :
    SpecM P g 1 [(0, .row (encL f l) k e)] [.own 0 l.length k, .fn gv []] ⟨.tup [], [(0, .row (encL f (l.mergeSort fun x y => !decide (cf y x < 0))) k e)], 0, True⟩ := by
  refine ⟨hent, fun X w xs hW hX hargs => ?_⟩
  obtain ⟨va, vf, hxs, ha, hfv⟩ := repVs_two hargs
  have hxs' : xs = #[va, vf] := Array.toList_inj.1 hxs
  subst hxs'
  simp only [repV] at hfv
  obtain ⟨cs, rfl, hcs⟩ := hfv
  simp only [repVs] at hcs
  obtain rfl : cs = #[] := Array.toList_inj.1 hcs
  have hB := hW.blk 0 _ rfl
  have undo : repV X (.tup []) (.tuple #[]) := by simp only [repV]; exact ⟨#[], rfl, by simp [repVs]⟩
  by_cases hl0 : l = []
  · subst hl0
    have hv : ∃ p cap, va = .slice p 0 cap := by
      simp only [repV] at ha
      rcases ha with ⟨_, _, rfl⟩ | ⟨b, cap, _, rfl, _⟩
      · exact ⟨_, _, rfl⟩
      · exact ⟨_, _, rfl⟩
    obtain ⟨p, cap, rfl⟩ := hv
    refine (hnone p cap w).mono ?_
    rintro e' w' ⟨rfl, rfl⟩
    refine ⟨_, X, rfl, did_put hW (row := none) (grownBy_refl w' none) (fun b hb => by cases hb) ?_ rfl rfl undo⟩
    rw [List.mergeSort_nil]; exact hB
  · have hlp : 0 < l.length := List.length_pos_iff.2 hl0
    simp only [repV] at ha
    rcases ha with ⟨_, h0, _⟩ | ⟨b, cap, h1, rfl, h3, h4, h5⟩
    · omega
    · have hB2 : ∃ c, w.heap[b]? = some (.cells c e (0, 0)) ∧ c.size = X.κ 0 ∧ (∀ x ∈ c.toList, x.oneCell' = true) ∧ repDs X.H (encL f l) c.toList := by
        rcases hB with ⟨q, hq⟩ | ⟨b', c, q1, q2, q3, q4, q5⟩
        · rw [h1] at q; cases q
        · rw [h1] at q1
          cases q1
          exact ⟨c, q2, q3, q4, q5⟩
      obtain ⟨c, c1, c2, c3, c4⟩ := hB2
      have hbs : b < w.heap.size := (Array.getElem?_eq_some_iff.1 c1).1
      let S := { x : α // x ∈ l }
      haveI : Inhabited S := ⟨⟨l.head hl0, List.head_mem hl0⟩⟩
      have hmap : l.attach.toArray.toList.map Subtype.val = l := by simp
      have hH : HoldsK (fun x : S => keyL f x.val) k w b 0 l.attach.toArray := holds_row hf hk0 hp Subtype.val _ c1 (by rw [hmap]; exact c4)
      have hsz : l.attach.toArray.size = l.length := by simp
      have hcall := hsome S Subtype.val b cap l.attach.toArray w (fun x y hx hy => Subtype.ext (hdist x.1 x.2 y.1 y.2 (by simpa [ltOf] using hx) (by simpa [ltOf] using hy))) hH hbs (by rw [hsz]; exact hl)
      rw [hsz] at hcall
      refine hcall.mono ?_
      rintro e' w' ⟨rfl, n, os, rfl⟩
      have hm2 : (l.attach.toArray.toList.mergeSort fun x y : S => !(ltOf (fun x y : S => cf x.val y.val)) y x).toArray.toList.map Subtype.val = l.mergeSort fun x y => !decide (cf y x < 0) := by
        have := List.map_mergeSort (r := fun x y : S => !(ltOf (fun x y : S => cf x.val y.val)) y x) (s := fun x y => !decide (cf y x < 0)) (f := Subtype.val) (l := l.attach) (fun a _ b _ => rfl)
        rw [List.attach_map_subtype_val] at this
        exact this
      revert hm2
      have hsz2 : (l.attach.toArray.toList.mergeSort fun x y : S => !(ltOf (fun x y : S => cf x.val y.val)) y x).toArray.size = l.length := by simp
      revert hsz2
      generalize (l.attach.toArray.toList.mergeSort fun x y : S => !(ltOf (fun x y : S => cf x.val y.val)) y x).toArray = d'
      intro hsz2 hm2
      have hlm : (l.mergeSort fun x y => !decide (cf y x < 0)).length = l.length := by simp
      have hheap : ∀ j, j < w.heap.size → (sortWorldK (fun x : S => keyL f x.val) k w b 0 n d' os).heap[j]? = if j = b then some (.cells (putCells id 0 (flatK (fun x : S => keyL f x.val) k d') c) e (0, 0)) else w.heap[j]? := by
        intro j hj
        unfold sortWorldK putRowK putRow mapBlock grow Go.Sort.ahead
        simp only
        rw [Array.getElem?_append_left (by simpa using hj), Array.getElem?_modify]
        by_cases ej : b = j
        · subst ej
          rw [if_pos rfl, if_pos rfl, c1]
          rfl
        · rw [if_neg ej, if_neg (fun q => ej q.symm)]
      have hg : w.grownBy (sortWorldK (fun x : S => keyL f x.val) k w b 0 n d' os) (some b) := by
        refine ⟨rfl, rfl, rfl, ?_, fun j hj hne => ?_⟩
        · unfold sortWorldK putRowK putRow mapBlock grow Go.Sort.ahead
          simp
        · rw [hheap j hj, if_neg (fun q => hne (by rw [q]))]
      refine ⟨_, X, rfl, did_put hW hg (fun b' hb' => by cases hb'; exact h1) (.inr ⟨b, _, h1, by rw [hheap b hbs, if_pos rfl], ?_, ?_, ?_⟩) rfl rfl undo⟩
      · unfold putCells; simpa using c2
      · have hcl := repDs_len _ _ c4
        rw [encL_len hf] at hcl
        intro x hx
        obtain ⟨t, ht, et⟩ := List.getElem_of_mem hx
        unfold putCells at et
        simp only [Array.getElem_toList, Array.getElem_mapIdx, Nat.zero_le, true_and, Nat.zero_add, Nat.sub_zero, size_flatK, hsz2] at et
        split at et
        · rename_i hlt
          obtain ⟨dd, g1, g2⟩ := flat_get hf hk0 Subtype.val d' (t := t) (by rw [hsz2]; exact hlt)
          rw [← et]
          show ((flatK (fun x : S => keyL f x.val) k d')[t]!).oneCell' = true
          rw [g2]
          have := List.mem_of_getElem? g1
          unfold encL at this
          obtain ⟨y, _, hy⟩ := List.mem_flatMap.1 this
          exact plnD_one (hp y dd hy)
        · rw [← et]
          exact c3 _ (by simp)
      · have hcl := repDs_len _ _ c4
        rw [encL_len hf] at hcl
        refine repDs_of_get _ _ fun t dd hdd => ?_
        have ht : t < l.length * k := by
          have := (List.getElem?_eq_some_iff.1 hdd).1
          rw [encL_len hf, hlm] at this; exact this
        obtain ⟨dd', g1, g2⟩ := flat_get hf hk0 Subtype.val d' (t := t) (by rw [hsz2]; exact ht)
        rw [hm2, hdd] at g1
        cases g1
        have hpl : plnD dd = true := by
          have := List.mem_of_getElem? hdd
          unfold encL at this
          obtain ⟨y, _, hy⟩ := List.mem_flatMap.1 this
          exact hp y dd hy
        refine ⟨D.key dd, ?_, plnD_mk hpl⟩
        have hct : t < c.size := by
          have : c.toList.length = c.size := by simp
          omega
        unfold putCells
        rw [Array.toList_mapIdx, List.getElem?_mapIdx, List.getElem?_eq_getElem (by simpa using hct)]
        simp only [Option.map_some, Nat.zero_le, true_and, Nat.zero_add, Nat.sub_zero, size_flatK, hsz2]
        rw [if_pos ht]
        show some (flatK (fun x : S => keyL f x.val) k d')[t]! = _
        rw [g2]

theorem repDs_key {H : Nat → Option Obj} : ∀ (l : List D), (∀ d ∈ l, plnD d = true) → repDs H l (l.map D.key)
  | [], _ => trivial
  | d :: t, h => ⟨_, _, rfl, plnD_mk (h d (by simp)), repDs_key t fun x hx => h x (by simp [hx])⟩
theorem mat_repC {E : Emb} {ls : List Leaf} {ds : List D} {vs : List V} (h : Mat ls ds vs) : (∀ d ∈ ds, plnD d = true) → repC E vs (ds.map D.key) := by
  induction h with
  | nil => intro _; rfl
  | int h ih =>
    intro hp
    exact .inr ⟨_, _, rfl, rfl, by simp only [repV, repD]; rfl, ih fun x hx => hp x (by simp [hx])⟩
  | bool h ih =>
    intro hp
    exact .inr ⟨_, _, rfl, rfl, by simp only [repV, repD]; rfl, ih fun x hx => hp x (by simp [hx])⟩
  | slc h ih => intro hp; exact absurd (hp _ List.mem_cons_self) (by simp [plnD])
  | big hl h ih =>
    intro hp
    rw [List.map_append]
    exact .inl ⟨_, _, _, _, rfl, rfl, by simpa using hl.1, hl.1, repDs_key _ fun x hx => hp x (by simp [hx]), ih fun x hx => hp x (by simp [hx])⟩
/-- A function that answers a number and writes nothing, as the sort's contract asks it. -/
theorem spec_closed {P : Program} {g : FuncId} {args : List V} {r : Int} (h : Spec P g args ⟨.d (.int .i64 r), [], 0, True⟩) (xs : Array Value) (hx : repVs (E0 fun _ => none) args xs.toList) (W : World) :
    Calls P g xs W fun e w' => e = .returned (.int .i64 r) ∧ ∃ q os', w' = grow (W.drewN q) os' := by
  refine (h.2 (fun _ => none) W xs (fun b o hb => by cases hb) hx).mono ?_
  rintro e w' ⟨v, E', rfl, hD⟩
  have hv := hD.val
  simp only [repV, repD] at hv
  subst hv
  obtain ⟨S, hg, hS⟩ := hD.grown
  have hS0 : ∀ k, ¬ S k := by intro k hk; obtain ⟨i, y, h1, _⟩ := hS k hk; cases h1
  refine ⟨rfl, w'.drawn - W.drawn, w'.heap.extract W.heap.size, ?_⟩
  have hh : w'.heap = W.heap ++ w'.heap.extract W.heap.size := by
    apply Array.ext_getElem?
    intro k
    by_cases hk : k < W.heap.size
    · rw [Array.getElem?_append_left hk]; exact hg.block k hk (hS0 k)
    · rw [Array.getElem?_append_right (by omega), Array.getElem?_extract]
      have := hg.size
      by_cases h2 : k < w'.heap.size
      · rw [if_pos (by omega), show W.heap.size + (k - W.heap.size) = k by omega]
      · rw [if_neg (by omega), Array.getElem?_eq_none (by omega)]
  have hd := hg.drawn
  have h1 := hg.os
  have h2 := hg.tape
  have h3 := hg.output
  obtain ⟨wh, wt, wd, wo, wu⟩ := w'
  simp only at hh hd h1 h2 h3
  subst h1 h2 h3
  simp only [grow, World.drewN]
  rw [← hh, show W.drawn + (wd - W.drawn) = wd by omega]
theorem swo2 {α S : Type} (a b : α → Int) (v : S → α) : SWO (ltOf fun x y : S => cmp2 a b (v x) (v y)) where
  irrefl x := by unfold ltOf; simp [cmp2_lt]
  trans x y z h1 h2 := by unfold ltOf at *; simp only [decide_eq_true_eq, cmp2_lt] at *; omega
  ntrans x y z h1 h2 := by unfold ltOf at *; simp only [decide_eq_false_iff_not, cmp2_lt] at *; omega
end Go.AX
