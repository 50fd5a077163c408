/- What a law is handed: whatever value reads as data of a type is of that type's kind (ints within their bounds); for any struct, slice, array. -/
import Derived.Test.YtckobmdklpalnaaWWords
import Derived.Test.YtckobmdklpalnaaWArr
import Derived.Deep.Slices
import Derived.OpenShut
import Derived.Carry
import Derived.ProofKit
namespace Go.Proofs.YtckobmdklpalnaaOpn
open Go.RowKit Go.Proofs.YtckobmdklpalnaaW.PrintWords Go.WideShapes Go.Deep
/-- Whatever reads as data of type t is of kind d, within the bounds B. -/
def Opens (P : Program) (t : TypeId) {α : Type} (d : Kd α) (B : α → Prop) : Prop :=
  ∀ (H : Type) (enc : TypeId × Value → H) (w : World) (base : Nat) (spare : Nat → Bool) (held : Bool) (fuel : Nat) (cs : List Value) (y : DataW H × List MemPlace), DataW.trod enc P w base spare held fuel t cs = some y → ∃ x, d.K w x cs ∧ B x
theorem Opens.int {P : Program} {t : TypeId} {k : IntKind} (ht : P.underlying t = some (.int k)) : Opens P t (Kd.int k) (fun n => (Lit.int k n).wf = true) := by
  intro H enc w base spare held fuel cs y h
  obtain ⟨n, rfl, _, hw⟩ := DataW.trod_int ht h
  exact ⟨n, rfl, hw⟩
theorem Opens.bool {P : Program} {t : TypeId} (ht : P.underlying t = some .bool) : Opens P t Kd.bool (fun _ => True) := by
  intro H enc w base spare held fuel cs y h
  obtain ⟨b, rfl, _⟩ := DataW.trod_bool ht h
  exact ⟨b, rfl, trivial⟩
theorem Opens.string {P : Program} {t : TypeId} (ht : P.underlying t = some .string) : Opens P t Kd.string (fun s => s.size ≤ maxLen) := by
  intro H enc w base spare held fuel cs y h
  obtain ⟨s, rfl, _, hs⟩ := DataW.trod_string ht h
  exact ⟨s, rfl, hs⟩
theorem Opens.iso {P : Program} {t : TypeId} {α β : Type} {d : Kd α} {B : α → Prop} (h : Opens P t d B) (f : β → α) (g : α → β) (hfg : ∀ x, f (g x) = x) : Opens P t (Kd.iso d f) (fun y => B (f y)) := by
  intro H enc w base spare held fuel cs y hy
  obtain ⟨x, hk, hb⟩ := h H enc w base spare held fuel cs y hy
  refine ⟨g x, ?_, ?_⟩
  · show d.K w (f (g x)) cs
    rw [hfg]; exact hk
  · show B (f (g x))
    rw [hfg]; exact hb
theorem Opens.imp {P : Program} {t : TypeId} {α : Type} {d : Kd α} {B B' : α → Prop} (h : Opens P t d B) (hb : ∀ x, B x → B' x) : Opens P t d B' := by
  intro H enc w base spare held fuel cs y hy
  obtain ⟨x, hk, h1⟩ := h H enc w base spare held fuel cs y hy
  exact ⟨x, hk, hb x h1⟩
/-- The fields from an offset on. -/
def OpensFs (P : Program) (T off : Nat) (fs : List Field) {α : Type} (d : Kd α) (B : α → Prop) : Prop :=
  ∀ (H : Type) (enc : TypeId × Value → H) (w : World) (base : Nat) (spare : Nat → Bool) (held : Bool) (fuel : Nat) (cs : List Value), cs.length = T → (∀ f ∈ fs, ∃ y, DataW.trod enc P w base spare held fuel f.type ((cs.drop f.offset).take (P.cellsOf f.type)) = some y) → ∃ x, d.K w x (cs.drop off) ∧ B x
theorem OpensFs.one {P : Program} {T off n : Nat} {f : Field} {α : Type} {d : Kd α} {B : α → Prop} (ho : f.offset = off) (hn : P.cellsOf f.type = n) (hT : off + n = T) (h : Opens P f.type d B) : OpensFs P T off [f] d B := by
  intro H enc w base spare held fuel cs hl hf
  obtain ⟨y, hy⟩ := hf f (List.mem_singleton_self f)
  obtain ⟨x, hk, hb⟩ := h H enc w base spare held fuel _ y hy
  refine ⟨x, ?_, hb⟩
  rw [ho, List.take_of_length_le (by rw [List.length_drop]; omega)] at hk
  exact hk
theorem OpensFs.cons {P : Program} {T off n : Nat} {f : Field} {fs : List Field} {α β : Type} {a : Kd α} {b : Kd β} {A : α → Prop} {B : β → Prop} (ho : f.offset = off) (hn : P.cellsOf f.type = n) (h : Opens P f.type a A) (hs : OpensFs P T (off + n) fs b B) :
    OpensFs P T off (f :: fs) (Kd.pair a b) (fun x => A x.1 ∧ B x.2) := by
  intro H enc w base spare held fuel cs hl hf
  obtain ⟨y, hy⟩ := hf f List.mem_cons_self
  obtain ⟨x, hk, hb⟩ := h H enc w base spare held fuel _ y hy
  obtain ⟨z, hz, hzb⟩ := hs H enc w base spare held fuel cs hl (fun g hg => hf g (List.mem_cons_of_mem _ hg))
  refine ⟨(x, z), ⟨_, _, ?_, hk, hz⟩, hb, hzb⟩
  rw [ho, hn, ← List.drop_drop, List.take_append_drop]
theorem Opens.struct {P : Program} {t : TypeId} {fs : List Field} {α : Type} {d : Kd α} {B : α → Prop} (ht : P.underlying t = some (.struct fs.toArray)) (h : OpensFs P (P.cellsOf t) 0 fs d B) : Opens P t d B := by
  intro H enc w base spare held fuel cs y hy
  obtain ⟨xs, n, _, _, hl, hxl, hg⟩ := DataW.trod_struct ht hy
  obtain ⟨x, hk, hb⟩ := h H enc w base spare held n cs hl (fun f hf => by
    obtain ⟨i, hi, rfl⟩ := List.mem_iff_getElem.1 hf
    have h1 := hg i fs[i] (by simp [hi])
    have : i < xs.length := by rw [hxl]; simpa using hi
    rw [List.getElem?_eq_getElem this] at h1
    exact ⟨_, h1⟩)
  rw [List.drop_zero] at hk
  exact ⟨x, hk, hb⟩
theorem choose_list {α : Type} (p : Nat → α → Prop) : ∀ n, (∀ i, i < n → ∃ x, p i x) → ∃ xs : List α, xs.length = n ∧ ∀ i x, xs[i]? = some x → p i x
  | 0, _ => ⟨[], rfl, fun i x h => by simp at h⟩
  | n + 1, h => by
    obtain ⟨xs, hl, hx⟩ := choose_list p n (fun i hi => h i (by omega))
    obtain ⟨x, hp⟩ := h n (by omega)
    refine ⟨xs ++ [x], by simp [hl], fun i y hy => ?_⟩
    rcases Nat.lt_or_ge i xs.length with hi | hi
    · rw [List.getElem?_append_left hi] at hy
      exact hx i y hy
    · rw [List.getElem?_append_right hi] at hy
      have : i = n := by
        have := (List.getElem?_eq_some_iff.1 hy).1
        simp at this; omega
      subst this
      rw [hl, Nat.sub_self] at hy
      simp at hy
      rw [← hy]; exact hp
theorem Opens.slice {P : Program} {t e : TypeId} {α : Type} {d : Kd α} {B : α → Prop} (ht : P.underlying t = some (.slice e)) (hC : P.cellsOf e = d.sz) (h : Opens P e d B) : Opens P t (Kd.slice e d) (fun xs => ∀ x ∈ xs, B x) := by
  intro H enc w base spare held fuel cs y hy
  rcases open_slice ht hy with ⟨rfl, _⟩ | ⟨a, len, cap, m, n, D, Pl, rfl, hb, hl, hm, hmm, _, hi⟩
  · exact ⟨[], ⟨none, 0, rfl, Nat.le_refl _, rfl, by simp, fun hh => by simp at hh⟩, fun x hx => by simp at hx⟩
  · have hlm : len ≤ m := by rw [hmm]; split <;> omega
    obtain ⟨xs, hxl, hx⟩ := choose_list (fun i x => (∃ c, c.length = d.sz ∧ d.K w x c ∧ ∀ j u, c[j]? = some u → w.cell? (a.add (i * d.sz + j)) = some u) ∧ B x) len (fun i hil => by
      obtain ⟨cs', hc, hr⟩ := hi i (by omega)
      obtain ⟨x, hk, hB⟩ := h H enc w base spare held n cs' _ hr
      refine ⟨x, ⟨cs', d.K_len hk, hk, fun j u hj => ?_⟩, hB⟩
      obtain ⟨_, hcl, hat⟩ := World.cells?_some hc
      have hjl : j < cs'.length := (List.getElem?_eq_some_iff.1 hj).1
      rw [← hC, ← Go.Deep.add_add, hat j (by omega)]
      exact hj)
    subst hxl
    refine ⟨xs, ⟨some a, cap, rfl, hl, rfl, by unfold maxLen at hm; omega, fun _ => ⟨a, rfl, fun j p hj => (hx j p hj).1⟩⟩, fun x hxm => ?_⟩
    obtain ⟨j, hj⟩ := List.mem_iff_getElem?.1 hxm
    exact (hx j x hj).2
end Go.Proofs.YtckobmdklpalnaaOpn
