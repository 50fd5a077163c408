/- Chapter 18: sorted lists, searched. Chapter 18: a transaction's writes. -/
import Derived.KernelRfl
import Derived.Test.YtegcfbmleimcfaaTM
import Derived.Test.YtegcfbmleimcfaaTR
import Derived.Test.YtegcfbmleimcfaaKc
import Derived.Test.YtegcfbmleimcfaaBT
namespace Go.AX
set_option autoImplicit false
set_option linter.unusedVariables false
set_option linter.unusedSimpArgs false
set_option maxRecDepth 4000
set_option maxHeartbeats 4000000

theorem awake18 : m_law18_awake = some true := by kernel_rfl
theorem half18 {a : Int} (h : 0 ≤ a ∧ a < 4398046511104) : IntKind.wrap .i64 (binI .shr .u64 (IntKind.wrap .u64 a) 1) = a / 2 := by
  have e : IntKind.wrap .u64 a = a := by rw [IntKind.wrap_u64]; omega
  rw [e]
  show IntKind.wrap .i64 (a.fdiv (2 ^ min (1 : Int).toNat 64)) = _
  have : (2 : Int) ^ min (1 : Int).toNat 64 = 2 := by decide
  rw [this, Int.fdiv_eq_ediv_of_nonneg _ (by omega), IntKind.wrap_i64]; omega

section
variable {α : Type} (key : α → Int)
def Srt (l : List α) : Prop := l.Pairwise (fun a b => key a < key b)
theorem Srt.split {l : List α} (hs : Srt key l) (b : Int) : (∃ A x B, l = A ++ x :: B ∧ key x = b ∧ (∀ a ∈ A, key a < b) ∧ (∀ a ∈ B, b < key a)) ∨ (∃ A B, l = A ++ B ∧ (∀ a ∈ A, key a < b) ∧ ∀ a ∈ B, b < key a) := by
  induction l with
  | nil => exact .inr ⟨[], [], rfl, by simp, by simp⟩
  | cons y t ih =>
    have hs' := List.pairwise_cons.1 hs
    by_cases h1 : key y = b
    · exact .inl ⟨[], y, t, rfl, h1, by simp, fun a ha => by have := hs'.1 a ha; omega⟩
    by_cases h2 : b < key y
    · refine .inr ⟨[], y :: t, rfl, by simp, fun a ha => ?_⟩
      rcases List.mem_cons.1 ha with rfl | ha
      · exact h2
      · have := hs'.1 a ha; omega
    have hA : ∀ A : List α, (∀ a ∈ A, key a < b) → ∀ a ∈ y :: A, key a < b := by
      intro A hA a ha
      rcases List.mem_cons.1 ha with rfl | ha
      · omega
      · exact hA a ha
    rcases ih hs'.2 with ⟨A, x, B, rfl, h3, h4, h5⟩ | ⟨A, B, rfl, h4, h5⟩
    · exact .inl ⟨y :: A, x, B, rfl, h3, hA A h4, h5⟩
    · exact .inr ⟨y :: A, B, rfl, hA A h4, h5⟩

theorem bsearch (f : α → Option Int) (A R : List α) (b : Int) (hf : ∀ x, f x = some (cmp3 (key x) b)) (hA : ∀ a ∈ A, key a < b) (hR : ∀ a ∈ R, b ≤ key a) (hn : (A ++ R).length < 1099511627776) :
    loop (σ := Int × Int) (ρ := Int) (fun s20 => Let (clt s20.1 s20.2) fun b22 => bif b22 then (Let (iadd s20.1 s20.2) fun v23 => Let (IntKind.wrap .u64 v23) fun v24 => Bnd (sh? 1) fun _ => Let (binI .shr .u64 v24 1) fun v25 => Let (IntKind.wrap .i64 v25) fun v26 => Bnd (at? (A ++ R) v26) fun y27 => Bnd (f y27) fun r37 => Let (clt r37 0) fun b40 => bif b40 then (Let (iadd v26 1) fun v41 => some (.inl (v41, s20.2))) else (some (.inl (s20.1, v26)))) else (some (.inr (s20.1)))) (0, ln (A ++ R)) = some (A.length : Int) := by
  obtain ⟨r, h1, h2⟩ := loop_inv (σ := Int × Int) (ρ := Int) (s0 := (0, ln (A ++ R))) (step := fun s20 => Let (clt s20.1 s20.2) fun b22 => bif b22 then (Let (iadd s20.1 s20.2) fun v23 => Let (IntKind.wrap .u64 v23) fun v24 => Bnd (sh? 1) fun _ => Let (binI .shr .u64 v24 1) fun v25 => Let (IntKind.wrap .i64 v25) fun v26 => Bnd (at? (A ++ R) v26) fun y27 => Bnd (f y27) fun r37 => Let (clt r37 0) fun b40 => bif b40 then (Let (iadd v26 1) fun v41 => some (.inl (v41, s20.2))) else (some (.inl (s20.1, v26)))) else (some (.inr (s20.1))))
    (fun s => 0 ≤ s.1 ∧ s.1 ≤ A.length ∧ A.length ≤ s.2 ∧ s.2 ≤ (A ++ R).length) (fun s => (s.2 - s.1).toNat) (fun r => r = A.length)
    ⟨by simp, by simp, by simp [ln]; omega, by simp [ln]⟩ (by simp only [ln]; omega) (by
      rintro ⟨i, j⟩ ⟨k1, k2, k3, k4⟩
      simp only at k1 k2 k3 k4
      by_cases hij : i < j
      · left
        have e1 : iadd i j = i + j := add_ok (by omega)
        have e2 := half18 (a := i + j) (by omega)
        have hh0 : 0 ≤ (i + j) / 2 := by omega
        obtain ⟨m, hm⟩ := Int.eq_ofNat_of_zero_le hh0
        have hml : m < (A ++ R).length := by omega
        have e3 : at? (A ++ R) (m : Int) = some ((A ++ R)[m]) := by rw [at?_nat, List.getElem?_eq_getElem hml]
        simp only [let_eq, clt_eq, hij, decide_true, cond_true, e1, e2, hm, e3, bnd_some, hf, show sh? 1 = some () from rfl]
        by_cases hmA : m < A.length
        · have : key ((A ++ R)[m]) < b := by
            rw [List.getElem_append_left hmA]; exact hA _ (List.getElem_mem hmA)
          rw [decide_eq_true (cmp3_lt.2 this)]
          have e4 : iadd (m : Int) 1 = m + 1 := add_ok (by omega)
          refine ⟨_, by rw [cond_true, e4], ⟨?_, ?_, ?_, ?_⟩, ?_⟩
          all_goals simp only; omega
        · have : ¬ key ((A ++ R)[m]) < b := by
            rw [List.getElem_append_right (by omega)]
            have := hR _ (List.getElem_mem (l := R) (n := m - A.length) (by simp at hml; omega))
            omega
          rw [decide_eq_false (fun q => this (cmp3_lt.1 q))]
          refine ⟨_, by rw [cond_false], ⟨?_, ?_, ?_, ?_⟩, ?_⟩
          all_goals simp only; omega
      · right
        refine ⟨i, by simp only [let_eq, clt_eq, hij, decide_false, cond_false], by omega⟩)
  rw [h1, h2]
end

theorem cmpC (a b : Int) : m_cmp_Compare a b = some (cmp3 a b) := by
  unfold m_cmp_Compare m_cmp_isNaN cmp3
  simp only [let_eq, bnd_some, cne_eq, ne_eq, not_true, decide_false, cond_false, clt_eq, cgt_eq, cond_dec]
  by_cases h : a < b
  · simp [h]
  · simp only [h, if_false]
    by_cases h2 : b < a <;> simp [h2]
theorem cmp3_zero {a b : Int} : cmp3 a b = 0 ↔ a = b := by
  unfold cmp3
  by_cases h : a < b
  · simp [h]; omega
  · by_cases h2 : b < a
    · simp [h, h2]; omega
    · simp [h, h2]; omega
theorem placeC (w : TWrite) (b : Int) : m_trans_place_1 w b = some (cmp3 w.Block b) := by
  unfold m_trans_place_1; rw [cmpC]; rfl
theorem atC (w : TTrans) (b : Int) : m_trans_at_1 w b = some (cmp3 w.Id b) := by
  unfold m_trans_at_1; rw [cmpC]; rfl
/-- What a search answers: where, and whether it is there. -/
theorem searchW_hit (A B : List TWrite) (x : TWrite) (b : Int) (hx : x.Block = b) (hA : ∀ a ∈ A, a.Block < b) (hB : ∀ a ∈ B, b < a.Block) (hn : (A ++ x :: B).length < 1099511627776) : m_slices_BinarySearchFunc_ (A ++ x :: B) b = some ((A.length : Int), true) := by
  have h := bsearch TWrite.Block (fun y => m_trans_place_1 y b) A (x :: B) b (fun y => placeC y b) hA (fun a ha => by rcases List.mem_cons.1 ha with rfl | ha; omega; have := hB a ha; omega) hn
  unfold m_slices_BinarySearchFunc_
  rw [let_eq, h]
  have e : at? (A ++ x :: B) (A.length : Int) = some x := by rw [at?_nat]; simp
  have hl : (A.length : Int) < ln (A ++ x :: B) := by simp [ln]; omega
  simp only [bnd_some, let_eq, clt_eq, hl, decide_true, cond_true, e, placeC, ceq_eq, cmp3_zero.2 hx]
theorem searchW_miss (A B : List TWrite) (b : Int) (hA : ∀ a ∈ A, a.Block < b) (hB : ∀ a ∈ B, b < a.Block) (hn : (A ++ B).length < 1099511627776) : m_slices_BinarySearchFunc_ (A ++ B) b = some ((A.length : Int), false) := by
  have h := bsearch TWrite.Block (fun y => m_trans_place_1 y b) A B b (fun y => placeC y b) hA (fun a ha => by have := hB a ha; omega) hn
  unfold m_slices_BinarySearchFunc_
  rw [let_eq, h]
  cases B with
  | nil => simp [ln]
  | cons x B =>
    have e : at? (A ++ x :: B) (A.length : Int) = some x := by rw [at?_nat]; simp
    have hl : (A.length : Int) < ln (A ++ x :: B) := by simp [ln]; omega
    have hx : ¬ cmp3 x.Block b = 0 := fun q => by have := cmp3_zero.1 q; have := hB x (by simp); omega
    simp only [bnd_some, let_eq, clt_eq, hl, decide_true, cond_true, e, placeC, ceq_eq, hx, decide_false]
theorem searchT_hit (A B : List TTrans) (x : TTrans) (b : Int) (hx : x.Id = b) (hA : ∀ a ∈ A, a.Id < b) (hB : ∀ a ∈ B, b < a.Id) (hn : (A ++ x :: B).length < 1099511627776) : m_slices_BinarySearchFunc (A ++ x :: B) b = some ((A.length : Int), true) := by
  have h := bsearch TTrans.Id (fun y => m_trans_at_1 y b) A (x :: B) b (fun y => atC y b) hA (fun a ha => by rcases List.mem_cons.1 ha with rfl | ha; omega; have := hB a ha; omega) hn
  unfold m_slices_BinarySearchFunc
  rw [let_eq, h]
  have e : at? (A ++ x :: B) (A.length : Int) = some x := by rw [at?_nat]; simp
  have hl : (A.length : Int) < ln (A ++ x :: B) := by simp [ln]; omega
  simp only [bnd_some, let_eq, clt_eq, hl, decide_true, cond_true, e, atC, ceq_eq, cmp3_zero.2 hx]
theorem searchT_miss (A B : List TTrans) (b : Int) (hA : ∀ a ∈ A, a.Id < b) (hB : ∀ a ∈ B, b < a.Id) (hn : (A ++ B).length < 1099511627776) : m_slices_BinarySearchFunc (A ++ B) b = some ((A.length : Int), false) := by
  have h := bsearch TTrans.Id (fun y => m_trans_at_1 y b) A B b (fun y => atC y b) hA (fun a ha => by have := hB a ha; omega) hn
  unfold m_slices_BinarySearchFunc
  rw [let_eq, h]
  cases B with
  | nil => simp [ln]
  | cons x B =>
    have e : at? (A ++ x :: B) (A.length : Int) = some x := by rw [at?_nat]; simp
    have hl : (A.length : Int) < ln (A ++ x :: B) := by simp [ln]; omega
    have hx : ¬ cmp3 x.Id b = 0 := fun q => by have := cmp3_zero.1 q; have := hB x (by simp); omega
    simp only [bnd_some, let_eq, clt_eq, hl, decide_true, cond_true, e, atC, ceq_eq, hx, decide_false]
end Go.AX

namespace Go.AX
set_option autoImplicit false
set_option linter.unusedVariables false
set_option linter.unusedSimpArgs false
set_option maxRecDepth 4000
set_option maxHeartbeats 4000000

theorem srt_adj {α : Type} {key : α → Int} {l : List α} (h : ∀ i (hi : i + 1 < l.length), key (l[i]) < key (l[i + 1])) : Srt key l := by
  unfold Srt
  rw [List.pairwise_iff_getElem]
  intro i j hi hj hij
  obtain ⟨d, rfl⟩ : ∃ d, j = i + 1 + d := ⟨j - i - 1, by omega⟩
  clear hij
  induction d with
  | zero => exact h i hj
  | succ d ih =>
    have h1 := ih (by omega)
    have h2 := h (i + 1 + d) (by omega)
    exact Int.lt_trans h1 h2
theorem cloneW (l : List TWrite) (h : l.length ≤ 1000) : m_slices_Clone_ l = some l := by
  unfold m_slices_Clone_
  rw [app_ok (by simp; omega)]; rfl
theorem copiedC (t : TTrans) (h : t.Writes.length ≤ 1000) : m_trans_copied t = some t := by
  unfold m_trans_copied
  rw [cloneW _ h]; rfl
/-- A write as it is laid down. -/
def nW (w : TWrite) : TWrite := if w.Trim then ⟨w.Block, true, Ar.zero 32⟩ else ⟨w.Block, false, w.Data⟩
theorem nW_block (w : TWrite) : (nW w).Block = w.Block := by unfold nW; split <;> rfl
theorem put_hit (i b : Int) (A B : List TWrite) (x w : TWrite) (hx : x.Block = w.Block) (hA : ∀ a ∈ A, a.Block < w.Block) (hB : ∀ a ∈ B, w.Block < a.Block) (hn : (A ++ x :: B).length ≤ 1000) : m_trans_Put ⟨i, b, A ++ x :: B⟩ w = some ⟨i, b, A ++ nW w :: B⟩ := by
  have e : at? (A ++ x :: B) (A.length : Int) = some x := by rw [at?_nat]; simp
  have s : ∀ y, set' (A ++ x :: B) (A.length : Int) y = A ++ y :: B := by intro y; simp [set']
  unfold m_trans_Put
  rw [jn_eq]
  cases hT : w.Trim <;> simp only [cond_true, cond_false, copiedC ⟨i, b, A ++ x :: B⟩ hn, bnd_some, m_trans_place, searchW_hit A B x w.Block hx hA hB (by omega), e, let_eq, s] <;> simp [nW, hT]
theorem put_miss (i b : Int) (A B : List TWrite) (w : TWrite) (hA : ∀ a ∈ A, a.Block < w.Block) (hB : ∀ a ∈ B, w.Block < a.Block) (hn : (A ++ B).length ≤ 1000) : m_trans_Put ⟨i, b, A ++ B⟩ w = some ⟨i, b, A ++ nW w :: B⟩ := by
  have s : ∀ y, ins? 48 (A ++ B) (A.length : Int) [y] = some (A ++ y :: B) := by
    intro y
    unfold ins?
    rw [if_pos ⟨⟨by omega, by simp only [List.length_append]; omega⟩, rfl, by omega⟩]
    simp
  unfold m_trans_Put
  rw [jn_eq]
  cases hT : w.Trim <;> simp only [cond_true, cond_false, copiedC ⟨i, b, A ++ B⟩ hn, bnd_some, m_trans_place, searchW_miss A B w.Block hA hB (by omega), let_eq, s] <;> simp [nW, hT]
theorem find_hit (i b : Int) (A B : List TWrite) (x : TWrite) (k : Int) (hx : x.Block = k) (hA : ∀ a ∈ A, a.Block < k) (hB : ∀ a ∈ B, k < a.Block) (hn : (A ++ x :: B).length ≤ 1000) : m_trans_Find ⟨i, b, A ++ x :: B⟩ k = some (x, true) := by
  have e : at? (A ++ x :: B) (A.length : Int) = some x := by rw [at?_nat]; simp
  unfold m_trans_Find
  simp only [m_trans_place, searchW_hit A B x k hx hA hB (by omega), bnd_some, let_eq, Bool.not_true, cond_false, e]
theorem find_miss (i b : Int) (A B : List TWrite) (k : Int) (hA : ∀ a ∈ A, a.Block < k) (hB : ∀ a ∈ B, k < a.Block) (hn : (A ++ B).length ≤ 1000) : m_trans_Find ⟨i, b, A ++ B⟩ k = some (⟨0, false, Ar.zero 32⟩, false) := by
  unfold m_trans_Find
  simp only [m_trans_place, searchW_miss A B k hA hB (by omega), bnd_some, let_eq, Bool.not_false, cond_true]
theorem mid_get {α : Type} (A B : List α) (x : α) : at? (A ++ x :: B) (A.length : Int) = some x := by rw [at?_nat]; simp
theorem pre_get {α : Type} (A C : List α) (i : Nat) (hi : i < A.length) : at? (A ++ C) (i : Int) = some (A[i]) := by
  rw [at?_nat, List.getElem?_append_left hi, List.getElem?_eq_getElem hi]
theorem refFind_hit (i b : Int) (A B : List TWrite) (x : TWrite) (k : Int) (hx : x.Block = k) (hA : ∀ a ∈ A, a.Block ≠ k) (hn : (A ++ x :: B).length ≤ 1000) : m_ref18_Find ⟨i, b, A ++ x :: B⟩ k = some (x, true) := by
  unfold m_ref18_Find
  have hA0 : A.length < (A ++ x :: B).length := by simp
  refine bnd_run (fun i => (i : Int)) A.length (.inr (x.Block, x.Trim, x.Data)) (by omega) rfl (fun j hj => ?_) ?_ rfl
  · have h1 : (j : Int) < ln (A ++ x :: B) := by simp only [ln]; omega
    have h2 := hA _ (List.getElem_mem hj)
    simp only [let_eq, clt_eq, h1, decide_true, cond_true, pre_get A _ j hj, bnd_some, ceq_eq, h2, decide_false, cond_false]
    rw [show iadd (j : Int) 1 = ((j + 1 : Nat) : Int) by rw [show iadd (j : Int) 1 = j + 1 from add_ok (by omega)]; rfl]
  · have h1 : (A.length : Int) < ln (A ++ x :: B) := by simp only [ln]; omega
    simp only [let_eq, clt_eq, h1, decide_true, cond_true, mid_get, bnd_some, ceq_eq, hx]
theorem refFind_miss (i b : Int) (A : List TWrite) (k : Int) (hA : ∀ a ∈ A, a.Block ≠ k) (hn : A.length ≤ 1000) : m_ref18_Find ⟨i, b, A⟩ k = some (⟨0, false, Ar.zero 32⟩, false) := by
  unfold m_ref18_Find
  refine bnd_run (fun i => (i : Int)) A.length (.inl ()) (by omega) rfl (fun j hj => ?_) ?_ rfl
  · have h1 : (j : Int) < ln A := by simp only [ln]; omega
    have h2 := hA _ (List.getElem_mem hj)
    have h3 : at? A (j : Int) = some (A[j]) := by rw [at?_nat, List.getElem?_eq_getElem hj]
    simp only [let_eq, clt_eq, h1, decide_true, cond_true, h3, bnd_some, ceq_eq, h2, decide_false, cond_false]
    rw [show iadd (j : Int) 1 = ((j + 1 : Nat) : Int) by rw [show iadd (j : Int) 1 = j + 1 from add_ok (by omega)]; rfl]
  · simp only [let_eq, clt_eq, ln, Int.lt_irrefl, decide_false, cond_false]
/-- One step of the reference's laying. -/
def rpS (n : TWrite) (s : Bool × List TWrite) (y : TWrite) : Bool × List TWrite :=
  let q := if !s.1 && decide (n.Block ≤ y.Block) then (true, s.2 ++ [n]) else s
  if y.Block ≠ n.Block then (q.1, q.2 ++ [y]) else q
theorem rpS_len (n : TWrite) (s : Bool × List TWrite) (y : TWrite) : (rpS n s y).2.length ≤ s.2.length + 2 := by
  unfold rpS
  dsimp only
  split <;> split <;> simp
theorem rpF_len (n : TWrite) (l : List TWrite) : ∀ s, (l.foldl (rpS n) s).2.length ≤ s.2.length + 2 * l.length := by
  induction l with
  | nil => intro s; simp
  | cons y t ih =>
    intro s
    have := ih (rpS n s y)
    have := rpS_len n s y
    simp only [List.foldl_cons, List.length_cons]; omega
theorem rp_lo (n : TWrite) (A : List TWrite) (hA : ∀ a ∈ A, a.Block < n.Block) : ∀ o, A.foldl (rpS n) (false, o) = (false, o ++ A) := by
  induction A with
  | nil => intro o; simp
  | cons y t ih =>
    intro o
    have h1 := hA y (by simp)
    have e : rpS n (false, o) y = (false, o ++ [y]) := by
      have : ¬ n.Block ≤ y.Block := by omega
      have h2 : y.Block ≠ n.Block := by omega
      simp [rpS, this, h2]
    rw [List.foldl_cons, e, ih (fun a ha => hA a (by simp [ha]))]
    simp
theorem rp_hi (n : TWrite) (A : List TWrite) (hA : ∀ a ∈ A, n.Block < a.Block) : ∀ o, A.foldl (rpS n) (true, o) = (true, o ++ A) := by
  induction A with
  | nil => intro o; simp
  | cons y t ih =>
    intro o
    have h1 := hA y (by simp)
    have e : rpS n (true, o) y = (true, o ++ [y]) := by
      have h2 : y.Block ≠ n.Block := by omega
      simp [rpS, h2]
    rw [List.foldl_cons, e, ih (fun a ha => hA a (by simp [ha]))]
    simp
def rpE (n : TWrite) (s : Bool × List TWrite) : List TWrite := if !s.1 then s.2 ++ [n] else s.2
theorem rp_hit (n : TWrite) (A B : List TWrite) (x : TWrite) (hx : x.Block = n.Block) (hA : ∀ a ∈ A, a.Block < n.Block) (hB : ∀ a ∈ B, n.Block < a.Block) : rpE n ((A ++ x :: B).foldl (rpS n) (false, [])) = A ++ n :: B := by
  have e : ∀ o, rpS n (false, o) x = (true, o ++ [n]) := by intro o; simp [rpS, hx]
  rw [List.foldl_append, rp_lo n A hA, List.foldl_cons, e, rp_hi n B hB]
  simp [rpE]
theorem rp_miss (n : TWrite) (A B : List TWrite) (hA : ∀ a ∈ A, a.Block < n.Block) (hB : ∀ a ∈ B, n.Block < a.Block) : rpE n ((A ++ B).foldl (rpS n) (false, [])) = A ++ n :: B := by
  rw [List.foldl_append, rp_lo n A hA]
  cases B with
  | nil => simp [rpE]
  | cons x B =>
    have h1 := hB x (by simp)
    have e : ∀ o, rpS n (false, o) x = (true, o ++ [n, x]) := by
      intro o
      have h2 : n.Block ≤ x.Block := by omega
      have h3 : x.Block ≠ n.Block := by omega
      simp [rpS, h2, h3]
    rw [List.foldl_cons, e, rp_hi n B (fun a ha => hB a (by simp [ha]))]
    simp [rpE]
theorem take_snoc {α : Type} {l : List α} {i : Nat} (hi : i < l.length) : l.take (i + 1) = l.take i ++ [l[i]] := by
  rw [List.take_succ, List.getElem?_eq_getElem hi]; rfl
theorem refPut_eq (i b : Int) (l : List TWrite) (w : TWrite) (hn : l.length ≤ 1000) : m_ref18_Put ⟨i, b, l⟩ w = some ⟨i, b, rpE (nW w) (l.foldl (rpS (nW w)) (false, []))⟩ := by
  unfold m_ref18_Put
  rw [jn_eq]
  have key : ∀ q : Bool × Ar 32, TWrite.mk w.Block q.1 q.2 = nW w → ∀ k : Bool × List TWrite → Option TTrans, (∀ s, s.2.length ≤ 2000 → k s = some ⟨i, b, rpE (nW w) s⟩) → Bnd (loop (σ := Bool × Int × (List TWrite)) (ρ := (Bool × (List TWrite))) (fun s36 => Let (ln l) fun v42 => Let (clt s36.2.1 v42) fun b43 => bif b43 then (Jn (α := Bool × (List TWrite)) (fun q44 => Bnd (at? l s36.2.1) fun y52 => Let (cne y52.Block w.Block) fun b61 => bif b61 then (Bnd (at? l s36.2.1) fun y62 => Bnd (app? 48 q44.2 [y62]) fun l72 => Let (iadd s36.2.1 1) fun v76 => some (.inl (q44.1, v76, l72))) else (Let (iadd s36.2.1 1) fun v62 => some (.inl (q44.1, v62, q44.2)))) fun j45 => Jn (α := Bool) (fun q47 => bif q47 then (Bnd (app? 48 s36.2.2 [(TWrite.mk w.Block q.1 q.2)]) fun l52 => j45 (true, l52)) else (j45 (s36.1, s36.2.2))) fun j48 => Let (!s36.1) fun b50 => bif b50 then (Bnd (at? l s36.2.1) fun y51 => Let (cge y51.Block w.Block) fun b60 => j48 (b60)) else (j48 (false))) else (some (.inr (s36.1, s36.2.2)))) (false, 0, ([] : List TWrite))) k = some ⟨i, b, rpE (nW w) (l.foldl (rpS (nW w)) (false, []))⟩ := by
    intro q hq k hk
    have hlen : ∀ j, j ≤ l.length → ((l.take j).foldl (rpS (nW w)) (false, [])).2.length ≤ 2 * j := by
      intro j hj
      have := rpF_len (nW w) (l.take j) (false, [])
      rw [List.length_take] at this
      simp only [List.length_nil] at this
      omega
    refine bnd_run (fun j => (((l.take j).foldl (rpS (nW w)) (false, [])).1, (j : Int), ((l.take j).foldl (rpS (nW w)) (false, [])).2)) l.length (l.foldl (rpS (nW w)) (false, [])) (by omega) (by simp) (fun j hj => ?_) ?_ ?_
    · have h1 : (j : Int) < ln l := by simp only [ln]; omega
      have h3 : at? l (j : Int) = some (l[j]) := by rw [at?_nat, List.getElem?_eq_getElem hj]
      have h4 := hlen j (by omega)
      have hs : (l.take (j + 1)).foldl (rpS (nW w)) (false, []) = rpS (nW w) ((l.take j).foldl (rpS (nW w)) (false, [])) (l[j]) := by
        rw [take_snoc hj, List.foldl_append]; rfl
      have h5 : iadd (j : Int) 1 = ((j + 1 : Nat) : Int) := by rw [show iadd (j : Int) 1 = j + 1 from add_ok (by omega)]; rfl
      have hb : (nW w).Block = w.Block := nW_block w
      rw [hs]
      generalize (l.take j).foldl (rpS (nW w)) (false, []) = st at h4 ⊢
      obtain ⟨d, o⟩ := st
      simp only at h4
      have ap : ∀ (o' : List TWrite) (y : TWrite), o'.length ≤ 3000 → app? 48 o' [y] = some (o' ++ [y]) := fun o' y ho => app_ok (by simp; omega)
      simp only [let_eq, jn_eq, clt_eq, h1, decide_true, cond_true, h3, bnd_some, cge_eq, cne_eq, h5, hq, cond_dec]
      have a1 := ap o (nW w) (by omega)
      have a2 := ap o (l[j]) (by omega)
      have a3 := ap (o ++ [nW w]) (l[j]) (by simp; omega)
      cases d with
      | true =>
        by_cases c2 : (l[j]).Block = w.Block <;> simp [rpS, hb, c2, a1, a2, a3]
      | false =>
        by_cases c1 : w.Block ≤ (l[j]).Block <;> by_cases c2 : (l[j]).Block = w.Block <;> simp [rpS, hb, c1, c2, a1, a2, a3] <;> omega
    · simp only [let_eq, clt_eq, ln, Int.lt_irrefl, decide_false, cond_false, List.take_length]
    · have := hlen l.length (Nat.le_refl _)
      rw [List.take_length] at this
      exact hk _ (by omega)
  have ap : ∀ (o' : List TWrite) (y : TWrite), o'.length ≤ 3000 → app? 48 o' [y] = some (o' ++ [y]) := fun o' y ho => app_ok (by simp; omega)
  cases hT : w.Trim with
  | true =>
    rw [cond_true]
    refine key (true, Ar.zero 32) (by simp [nW, hT]) _ (fun s hs => ?_)
    obtain ⟨d, o⟩ := s
    simp only at hs
    have e : TWrite.mk w.Block true (Ar.zero 32) = nW w := by simp [nW, hT]
    cases d <;> simp [rpE, e, ap o _ (by omega)]
  | false =>
    rw [cond_false]
    refine key (false, w.Data) (by simp [nW, hT]) _ (fun s hs => ?_)
    obtain ⟨d, o⟩ := s
    simp only at hs
    have e : TWrite.mk w.Block false w.Data = nW w := by simp [nW, hT]
    cases d <;> simp [rpE, e, ap o _ (by omega)]
theorem same_refl (t : TTrans) (hn : t.Writes.length ≤ 1000) : m_ref18_Same t t = some true := by
  unfold m_ref18_Same
  simp only [jn_eq, let_eq, cne_eq, ne_eq, not_true, decide_false, cond_false]
  refine bnd_run (fun i => (i : Int)) t.Writes.length (.inl ()) (by omega) rfl (fun j hj => ?_) ?_ rfl
  · have h1 : (j : Int) < ln t.Writes := by simp only [ln]; omega
    have h3 : at? t.Writes (j : Int) = some (t.Writes[j]) := by rw [at?_nat, List.getElem?_eq_getElem hj]
    simp only [let_eq, clt_eq, h1, decide_true, cond_true, h3, bnd_some, beq_self_eq_true, Bool.and_true, Bool.not_true, cond_false]
    rw [show iadd (j : Int) 1 = ((j + 1 : Nat) : Int) by rw [show iadd (j : Int) 1 = j + 1 from add_ok (by omega)]; rfl]
  · simp only [let_eq, clt_eq, ln, Int.lt_irrefl, decide_false, cond_false]
theorem right18 (t : TTrans) : ∃ b, m_ref18_Right t = some b ∧ (b = true → Srt TWrite.Block t.Writes ∧ t.Writes.length ≤ 60) := by
  obtain ⟨i0, b0, l⟩ := t
  unfold m_ref18_Right
  obtain ⟨r, h1, h2⟩ := loop_inv (σ := Int) (ρ := Sum Unit Unit) (s0 := 1) (step := fun s19 => Jn (α := Unit) (fun q20 => Let (isub s19 1) fun v23 => Bnd (at? l v23) fun y24 => Bnd (at? l s19) fun y33 => Let (cge y24.Block y33.Block) fun b42 => bif b42 then (some (.inr (.inr ()))) else (Let (iadd s19 1) fun v43 => some (.inl (v43)))) fun j21 => Let (ln l) fun v23 => Let (clt s19 v23) fun b24 => bif b24 then (Let (clt s19 100) fun b25 => bif b25 then (j21 ()) else (some (.inr (.inl ())))) else (some (.inr (.inl ()))))
    (fun s => 1 ≤ s ∧ s ≤ 100 ∧ ∀ j (hj : j + 1 < l.length), (j : Int) + 1 < s → (l[j]).Block < (l[j + 1]).Block) (fun s => (100 - s).toNat) (fun r => r = .inl () → l.length ≤ 60 → ∀ j (hj : j + 1 < l.length), (l[j]).Block < (l[j + 1]).Block) ⟨by omega, by omega, fun j hj h => by omega⟩ (by decide) (by
      rintro s ⟨k1, k2, k3⟩
      obtain ⟨m, rfl⟩ : ∃ m : Nat, s = (m : Int) + 1 := ⟨(s - 1).toNat, by omega⟩
      by_cases c1 : (m : Int) + 1 < ln l
      · by_cases c2 : (m : Int) + 1 < 100
        · have hm : m + 1 < l.length := by simp only [ln] at c1; omega
          have e1 : isub ((m : Int) + 1) 1 = m := by rw [show isub ((m : Int) + 1) 1 = (m : Int) + 1 - 1 from sub_ok (by omega)]; omega
          have e2 : at? l (m : Int) = some (l[m]) := by rw [at?_nat, List.getElem?_eq_getElem]
          have e3 : at? l ((m : Int) + 1) = some (l[m + 1]) := by
            have := at?_nat l (m + 1)
            rw [show ((m + 1 : Nat) : Int) = (m : Int) + 1 by omega] at this
            rw [this, List.getElem?_eq_getElem hm]
          have e4 : iadd ((m : Int) + 1) 1 = (m : Int) + 1 + 1 := add_ok (by omega)
          simp only [jn_eq, let_eq, clt_eq, c1, c2, decide_true, cond_true, e1, e2, e3, e4, bnd_some, cge_eq]
          by_cases c3 : (l[m + 1]).Block ≤ (l[m]).Block
          · right
            rw [decide_eq_true c3, cond_true]
            exact ⟨_, rfl, fun q => by cases q⟩
          · left
            rw [decide_eq_false c3, cond_false]
            refine ⟨_, rfl, ⟨by omega, by omega, fun j hj hjs => ?_⟩, by omega⟩
            by_cases e : j = m
            · subst e; omega
            · exact k3 j hj (by omega)
        · right
          refine ⟨.inl (), by simp only [jn_eq, let_eq, clt_eq, c1, c2, decide_true, cond_true, decide_false, cond_false], fun _ hl j hj => ?_⟩
          simp only [ln] at c1
          exact absurd c1 (by omega)
      · right
        refine ⟨.inl (), by simp only [jn_eq, let_eq, clt_eq, c1, decide_false, cond_false], fun _ hl j hj => k3 j hj ?_⟩
        simp only [ln] at c1
        omega)
  rw [h1]
  cases r with
  | inl u =>
    refine ⟨_, rfl, fun h => ?_⟩
    have h60 : l.length ≤ 60 := by
      have h' : (l.length : Int) ≤ 60 := by simpa [ln] using h
      omega
    exact ⟨srt_adj (fun i hi => h2 rfl h60 i hi), h60⟩
  | inr u => exact ⟨false, rfl, by simp⟩
theorem puts_some (t : TTrans) (hn : t.Writes.length ≤ 1000) : ∃ q, loop (σ := Int × Int) (ρ := Int) (fun s28 => Let (ln t.Writes) fun v30 => Let (clt s28.2 v30) fun b31 => bif b31 then (Bnd (at? t.Writes s28.2) fun y32 => Let (!y32.Trim) fun b41 => bif b41 then (Let (iadd s28.1 1) fun v42 => Let (iadd s28.2 1) fun v43 => some (.inl (v42, v43))) else (Let (iadd s28.2 1) fun v42 => some (.inl (s28.1, v42)))) else (some (.inr (s28.1)))) (0, 0) = some q ∧ m_trans_Puts t = some q := by
  obtain ⟨q, h1, _⟩ := loop_inv (σ := Int × Int) (ρ := Int) (s0 := (0, 0)) (step := fun s28 => Let (ln t.Writes) fun v30 => Let (clt s28.2 v30) fun b31 => bif b31 then (Bnd (at? t.Writes s28.2) fun y32 => Let (!y32.Trim) fun b41 => bif b41 then (Let (iadd s28.1 1) fun v42 => Let (iadd s28.2 1) fun v43 => some (.inl (v42, v43))) else (Let (iadd s28.2 1) fun v42 => some (.inl (s28.1, v42)))) else (some (.inr (s28.1))))
    (fun s => 0 ≤ s.2 ∧ s.2 ≤ t.Writes.length) (fun s => (t.Writes.length - s.2).toNat) (fun _ => True) ⟨by simp, by simp⟩ (by simp only; omega) (by
      rintro ⟨c, s⟩ ⟨k1, k2⟩
      simp only at k1 k2
      obtain ⟨j, rfl⟩ := Int.eq_ofNat_of_zero_le k1
      by_cases hj : j < t.Writes.length
      · left
        have h1 : (j : Int) < ln t.Writes := by simp only [ln]; omega
        have h3 : at? t.Writes (j : Int) = some (t.Writes[j]) := by rw [at?_nat, List.getElem?_eq_getElem hj]
        have h5 : iadd (j : Int) 1 = (j : Int) + 1 := add_ok (by omega)
        simp only [let_eq, clt_eq, h1, decide_true, cond_true, h3, bnd_some, h5]
        cases (!(t.Writes[j]).Trim)
        · exact ⟨_, rfl, ⟨by simp only; omega, by simp only; omega⟩, by simp only; omega⟩
        · exact ⟨_, rfl, ⟨by simp only; omega, by simp only; omega⟩, by simp only; omega⟩
      · right
        have h1 : ¬ (j : Int) < ln t.Writes := by simp only [ln]; omega
        exact ⟨c, by simp only [let_eq, clt_eq, h1, decide_false, cond_false], trivial⟩)
  refine ⟨q, h1, ?_⟩
  unfold m_trans_Puts
  rw [let_eq]
  have h2 : loop (σ := Int × Int) (ρ := Int) (fun s20 => Let (clt s20.2 (ln t.Writes)) fun b22 => bif b22 then (Bnd (at? t.Writes s20.2) fun y23 => Let (!y23.Trim) fun b32 => bif b32 then (Let (iadd s20.1 1) fun v33 => Let (iadd s20.2 1) fun v34 => some (.inl (v33, v34))) else (Let (iadd s20.2 1) fun v33 => some (.inl (s20.1, v33)))) else (some (.inr (s20.1)))) (0, 0) = some q := h1
  rw [h2]; rfl
theorem law_TransWrites (x0 : TTrans) (x1 : TWrite) (x2 : Int) (w0 : BTrans x0) (w1 : BWrite x1) (w2 : (Lit.int .i64 x2).wf = true) : m_law18_TransWrites x0 x1 x2 = some true := by
  unfold m_law18_TransWrites
  obtain ⟨b, hb, hb1⟩ := right18 x0
  simp only [jn_eq, let_eq, awake18, bnd_some, Bool.not_true, cond_false, hb]
  cases b with
  | false => rfl
  | true =>
    obtain ⟨hs, hl⟩ := hb1 rfl
    obtain ⟨q, hq1, hq2⟩ := puts_some x0 (by omega)
    simp only [let_eq] at hq1
    simp only [Bool.not_true, cond_false, hq1, hq2, bnd_some]
    obtain ⟨i, bg, l⟩ := x0
    simp only at hs hl
    have hF : ∃ r, m_trans_Find ⟨i, bg, l⟩ x2 = some r ∧ m_ref18_Find ⟨i, bg, l⟩ x2 = some r := by
      rcases hs.split TWrite.Block x2 with ⟨A, x, B, rfl, h1, h2, h3⟩ | ⟨A, B, rfl, h2, h3⟩
      · exact ⟨_, find_hit i bg A B x x2 h1 h2 h3 (by omega), refFind_hit i bg A B x x2 h1 (fun a ha => by have := h2 a ha; omega) (by omega)⟩
      · refine ⟨_, find_miss i bg A B x2 h2 h3 (by omega), refFind_miss i bg (A ++ B) x2 (fun a ha => ?_) (by omega)⟩
        rcases List.mem_append.1 ha with ha | ha
        · have := h2 a ha; omega
        · have := h3 a ha; omega
    have hP : ∃ r, m_trans_Put ⟨i, bg, l⟩ x1 = some r ∧ m_ref18_Put ⟨i, bg, l⟩ x1 = some r ∧ r.Writes.length ≤ 1000 := by
      have hnb := nW_block x1
      rw [refPut_eq i bg l x1 (by omega)]
      rcases hs.split TWrite.Block x1.Block with ⟨A, x, B, rfl, h1, h2, h3⟩ | ⟨A, B, rfl, h2, h3⟩
      · refine ⟨_, put_hit i bg A B x x1 h1 h2 h3 (by omega), ?_, by simp at hl ⊢; omega⟩
        rw [rp_hit (nW x1) A B x (by omega) (by rw [hnb]; exact h2) (by rw [hnb]; exact h3)]
      · refine ⟨_, put_miss i bg A B x1 h2 h3 (by omega), ?_, by simp at hl ⊢; omega⟩
        rw [rp_miss (nW x1) A B (by rw [hnb]; exact h2) (by rw [hnb]; exact h3)]
    obtain ⟨r, e1, e2⟩ := hF
    obtain ⟨p, e3, e4, e5⟩ := hP
    simp [e1, e2, e3, e4, same_refl p e5]
end Go.AX
