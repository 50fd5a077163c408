/- A map's keys, collected and sorted. -/
import Derived.Test.YtgphlcbjgcogkaaKc
namespace Go.AX
set_option autoImplicit false
set_option linter.unusedVariables false
set_option linter.unusedSimpArgs false

/-- Sorted by a comparison. -/
def srt {α : Type} (cf : α → α → Int) (l : List α) : List α := l.mergeSort fun x y => !decide (cf y x < 0)
/-- The keys that are asked for, sorted. -/
def mKeys {α β : Type} (f : α → List D) (q : α → Bool) (cf : α → α → Int) (m : List (α × β)) : Option (List α) :=
  if gNod f m = true ∧ m.length ≤ 1000000 then some (srt cf ((m.filter fun p => q p.1).map Prod.fst)) else none
/-- A strict weak order, and whom it holds alike are alike. -/
structure Ord {α : Type} (cf : α → α → Int) (P : α → Prop) : Prop where
  trans : ∀ x y z, P x → P y → P z → ¬ cf y x < 0 → ¬ cf z y < 0 → ¬ cf z x < 0
  total : ∀ x y, P x → P y → ¬ cf y x < 0 ∨ ¬ cf x y < 0
  anti : ∀ x y, P x → P y → ¬ cf x y < 0 → ¬ cf y x < 0 → x = y
theorem srt_perm {α : Type} {cf : α → α → Int} (h1 : ∀ x y z, ¬ cf y x < 0 → ¬ cf z y < 0 → ¬ cf z x < 0) (h2 : ∀ x y, ¬ cf y x < 0 ∨ ¬ cf x y < 0) {l m : List α} (hp : l.Perm m) (ha : ∀ x ∈ l, ∀ y ∈ l, ¬ cf x y < 0 → ¬ cf y x < 0 → x = y) : srt cf l = srt cf m := by
  have tr : ∀ (a b c : α), (!decide (cf b a < 0)) = true → (!decide (cf c b < 0)) = true → (!decide (cf c a < 0)) = true := by
    intro a b c x y
    simp only [Bool.not_eq_true', decide_eq_false_iff_not] at *
    exact h1 a b c x y
  have to : ∀ (a b : α), ((!decide (cf b a < 0)) || (!decide (cf a b < 0))) = true := by
    intro a b
    simp only [Bool.or_eq_true, Bool.not_eq_true', decide_eq_false_iff_not]
    exact h2 a b
  have s1 := List.pairwise_mergeSort (le := fun x y => !decide (cf y x < 0)) tr to l
  have s2 := List.pairwise_mergeSort (le := fun x y => !decide (cf y x < 0)) tr to m
  refine List.Perm.eq_of_pairwise ?_ s1 s2 ((List.mergeSort_perm _ _).trans (hp.trans (List.mergeSort_perm _ _).symm))
  intro a b ha' hb' h3 h4
  have a1 : a ∈ l := (List.mergeSort_perm _ _).mem_iff.1 ha'
  have b1 : b ∈ l := hp.mem_iff.2 ((List.mergeSort_perm _ _).mem_iff.1 hb')
  simp only [Bool.not_eq_true', decide_eq_false_iff_not] at h3 h4
  exact ha a a1 b b1 h4 h3

/-- What has been seen so far, of what is asked for. -/
def got {α β : Type} (q : α → Bool) (lt : List (Nat × α × β)) (seen : List Nat) : List α := (lt.filter fun p => seen.contains p.1 && q p.2.1).map fun p => p.2.1
theorem got_nil {α β : Type} {q : α → Bool} (lt : List (Nat × α × β)) : got q lt [] = [] := by
  simp [got]
theorem got_step {α β : Type} {q : α → Bool} : ∀ {lt : List (Nat × α × β)}, (lt.map Prod.fst).Nodup → ∀ {seen : List Nat} {b : Nat} {k : α} {v : β}, (b, k, v) ∈ lt → b ∉ seen →
    (got q lt (seen ++ [b])).Perm (if q k = true then got q lt seen ++ [k] else got q lt seen)
  | [], _, _, _, _, _, h, _ => by cases h
  | (b', k', v') :: t, hnd, seen, b, k, v, h, hb => by
    simp only [List.map_cons, List.nodup_cons] at hnd
    have same : b ∉ t.map Prod.fst → got q t (seen ++ [b]) = got q t seen := by
      intro hn
      unfold got
      congr 1
      refine List.filter_congr fun p hp => ?_
      have : p.1 ≠ b := fun e => hn (e ▸ List.mem_map.2 ⟨p, hp, rfl⟩)
      simp [this]
    have hcons : ∀ s : List Nat, got q ((b', k', v') :: t) s = if (s.contains b' && q k') = true then k' :: got q t s else got q t s := by
      intro s
      unfold got
      by_cases e : (s.contains b' && q k') = true
      · rw [if_pos e, List.filter_cons_of_pos (p := fun p : Nat × α × β => s.contains p.1 && q p.2.1) e]; rfl
      · rw [if_neg e, List.filter_cons_of_neg (p := fun p : Nat × α × β => s.contains p.1 && q p.2.1) e]
    rw [hcons, hcons]
    rcases List.mem_cons.1 h with e | e
    · simp only [Prod.mk.injEq] at e
      obtain ⟨rfl, rfl, rfl⟩ := e
      rw [same hnd.1]
      have c1 : (seen ++ [b]).contains b = true := by simp
      have c2 : seen.contains b = false := by simpa using hb
      rw [c1, c2]
      simp only [Bool.true_and, Bool.false_and, Bool.false_eq_true, if_false]
      by_cases hq : q k = true
      · rw [if_pos hq, if_pos hq]
        exact (List.perm_append_singleton k _).symm
      · rw [if_neg hq, if_neg hq]
    · have ne : b' ≠ b := fun r => hnd.1 (r ▸ List.mem_map.2 ⟨_, e, rfl⟩)
      have c1 : (seen ++ [b]).contains b' = seen.contains b' := by simp [ne]
      rw [c1]
      have ih := got_step (q := q) hnd.2 (seen := seen) e hb
      by_cases hq : q k = true
      · rw [if_pos hq] at ih ⊢
        by_cases hc : (seen.contains b' && q k') = true
        · rw [if_pos hc, if_pos hc]; exact ih.cons _
        · rw [if_neg hc, if_neg hc]; exact ih
      · rw [if_neg hq] at ih ⊢
        by_cases hc : (seen.contains b' && q k') = true
        · rw [if_pos hc, if_pos hc]; exact ih.cons _
        · rw [if_neg hc, if_neg hc]; exact ih
theorem got_end {α β : Type} {q : α → Bool} {lt : List (Nat × α × β)} {seen : List Nat} (h : ∀ p ∈ lt, p.1 ∈ seen) : got q lt seen = ((lt.map Prod.snd).filter fun p => q p.1).map Prod.fst := by
  unfold got
  rw [List.filter_map, List.map_map]
  congr 1
  refine List.filter_congr fun p hp => ?_
  simp [h p hp]
theorem got_len {α β : Type} (q : α → Bool) (lt : List (Nat × α × β)) (seen : List Nat) : (got q lt seen).length ≤ lt.length := by
  unfold got
  rw [List.length_map]
  exact List.length_filter_le _ _
/-- Keys that are told apart. -/
theorem gNod_inj {α β : Type} {f : α → List D} : ∀ {m : List (α × β)}, gNod f m = true → (m.map Prod.fst).Nodup ∨ ∃ a, sameL (f a) (f a) = false
  | [], _ => .inl (by simp)
  | p :: t, h => by
    simp only [gNod, Bool.and_eq_true, List.all_eq_true, Bool.not_eq_true'] at h
    rcases gNod_inj h.2 with e | e
    · by_cases hm : p.1 ∈ t.map Prod.fst
      · obtain ⟨r, hr, er⟩ := List.mem_map.1 hm
        exact .inr ⟨p.1, by have := h.1 r hr; rw [er] at this; exact this⟩
      · exact .inl (by rw [List.map_cons]; exact List.nodup_cons.2 ⟨hm, e⟩)
    · exact .inr e
/-- Answers of two forms. -/
def prjL {A B : Type} : Option (Sum A B) → Option A
  | some (.inl a) => some a
  | _ => none
def prjR {A B : Type} : Option (Sum A B) → Option B
  | some (.inr b) => some b
  | _ => none
theorem prjL_eq {A B : Type} {m : Option (Sum A B)} {a : A} (h : prjL m = some a) : m = some (.inl a) := by
  rcases m with _ | _ | _ <;> simp [prjL] at h ⊢; exact h
theorem prjR_eq {A B : Type} {m : Option (Sum A B)} {b : B} (h : prjR m = some b) : m = some (.inr b) := by
  rcases m with _ | _ | _ <;> simp [prjR] at h ⊢; exact h
def Alt {A B R : Type} (m : Option (Sum A B)) (x y : Option R) : Option R :=
  match m with
  | some (.inl _) => x
  | some (.inr _) => y
  | none => none
theorem altE {A B R : Type} {m : Option (Sum A B)} {x y : Option R} {r : R} (h : Alt m x y = some r) : x = some r ∨ y = some r := by
  rcases m with _ | _ | _
  · cases h
  · exact .inl h
  · exact .inr h
/-- slices.Insert, of one element. -/
def ins? {α : Type} (b : Nat) (l : List α) (i : Int) (v : List α) : Option (List α) :=
  if (0 ≤ i ∧ i ≤ l.length) ∧ v.length = 1 ∧ (l.length + 1) * b ≤ 140737488355328 then some (l.take i.toNat ++ v ++ l.drop i.toNat) else none
/-- slices.Delete. -/
def dele? {α : Type} (l : List α) (i j : Int) : Option (List α) :=
  if 0 ≤ i ∧ i ≤ j ∧ j ≤ l.length then some (l.take i.toNat ++ l.drop j.toNat) else none
/-- cmp.Compare. -/
def cmp3 (a b : Int) : Int := if a < b then -1 else if b < a then 1 else 0
theorem cmp3_lt {a b : Int} : cmp3 a b < 0 ↔ a < b := by
  unfold cmp3
  by_cases h : a < b
  · simp [h]
  · by_cases h2 : b < a <;> simp [h, h2]
/-- By a first number, then by a second one. -/
def cmp2 {α : Type} (a b : α → Int) (x y : α) : Int := if cmp3 (a x) (a y) = 0 then cmp3 (b x) (b y) else cmp3 (a x) (a y)
theorem cmp2_lt {α : Type} {a b : α → Int} {x y : α} : cmp2 a b x y < 0 ↔ a x < a y ∨ a x = a y ∧ b x < b y := by
  unfold cmp2
  by_cases h : cmp3 (a x) (a y) = 0
  · rw [if_pos h, cmp3_lt]
    have h1 : ¬ a x < a y := fun q => by have := cmp3_lt.2 q; omega
    have h2 : ¬ a y < a x := fun q => by
      unfold cmp3 at h
      rw [if_neg h1, if_pos q] at h; cases h
    omega
  · rw [if_neg h, cmp3_lt]
    have h1 : a x ≠ a y := fun q => h (by unfold cmp3; simp [q])
    omega
def noDup2 {α : Type} (a b : α → Int) : List α → Bool
  | [] => true
  | x :: t => t.all (fun y => !(a x == a y && b x == b y)) && noDup2 a b t
def srt2? {α : Type} (a b : α → Int) (l : List α) : Option (List α) := if noDup2 a b l = true ∧ l.length ≤ 1000000 then some (srt (cmp2 a b) l) else none
theorem srt2?_len {α : Type} {a b : α → Int} {l l' : List α} (h : srt2? a b l = some l') : l'.length = l.length := by
  unfold srt2? at h
  split at h
  · obtain rfl := Option.some.inj h; simp [srt]
  · cases h
theorem noDup2_eq {α : Type} {a b : α → Int} : ∀ {l : List α}, noDup2 a b l = true → ∀ x ∈ l, ∀ y ∈ l, a x = a y → b x = b y → x = y
  | [], _, x, hx, _, _, _, _ => by cases hx
  | z :: t, h, x, hx, y, hy, h1, h2 => by
    simp only [noDup2, Bool.and_eq_true, List.all_eq_true] at h
    have ih := noDup2_eq h.2
    rcases List.mem_cons.1 hx with ex | hx
    · rcases List.mem_cons.1 hy with ey | hy
      · rw [ex, ey]
      · have := h.1 y hy; rw [← ex] at this; simp [h1, h2] at this
    · rcases List.mem_cons.1 hy with ey | hy
      · have := h.1 x hx; rw [← ey] at this; simp [h1, h2] at this
      · exact ih x hx y hy h1 h2
theorem cmp2_dist {α : Type} {a b : α → Int} {l : List α} (h : noDup2 a b l = true) : ∀ x ∈ l, ∀ y ∈ l, ¬ cmp2 a b x y < 0 → ¬ cmp2 a b y x < 0 → x = y := by
  intro x hx y hy h1 h2
  rw [cmp2_lt] at h1 h2
  exact noDup2_eq h x hx y hy (by omega) (by omega)
end Go.AX
