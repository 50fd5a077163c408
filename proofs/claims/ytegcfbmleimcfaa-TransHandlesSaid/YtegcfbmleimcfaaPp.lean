/- Chapter 18: sorted lists, searched. Chapter 18: a transaction's writes. Chapter 18: a ledger. Chapter 18: the laws of ledgers. Chapter 18: what was laid last. Chapter 18: handles. -/
import Derived.KernelRfl
import Derived.Test.YtegcfbmleimcfaaTM
import Derived.Test.YtegcfbmleimcfaaTR
import Derived.Test.YtegcfbmleimcfaaKc
import Derived.Test.YtegcfbmleimcfaaBT
namespace Go.AX
set_option autoImplicit false
set_option linter.unusedVariables false
set_option linter.unusedSimpArgs false
set_option maxRecDepth 4000
set_option maxHeartbeats 4000000

theorem awake18 : m_law18_awake = some true := by kernel_rfl
theorem half18 {a : Int} (h : 0 ≤ a ∧ a < 4398046511104) : IntKind.wrap .i64 (binI .shr .u64 (IntKind.wrap .u64 a) 1) = a / 2 := by
  have e : IntKind.wrap .u64 a = a := by rw [IntKind.wrap_u64]; omega
  rw [e]
  show IntKind.wrap .i64 (a.fdiv (2 ^ min (1 : Int).toNat 64)) = _
  have : (2 : Int) ^ min (1 : Int).toNat 64 = 2 := by decide
  rw [this, Int.fdiv_eq_ediv_of_nonneg _ (by omega), IntKind.wrap_i64]; omega

section
variable {α : Type} (key : α → Int)
def Srt (l : List α) : Prop := l.Pairwise (fun a b => key a < key b)
theorem Srt.split {l : List α} (hs : Srt key l) (b : Int) : (∃ A x B, l = A ++ x :: B ∧ key x = b ∧ (∀ a ∈ A, key a < b) ∧ (∀ a ∈ B, b < key a)) ∨ (∃ A B, l = A ++ B ∧ (∀ a ∈ A, key a < b) ∧ ∀ a ∈ B, b < key a) := by
  induction l with
  | nil => exact .inr ⟨[], [], rfl, by simp, by simp⟩
  | cons y t ih =>
    have hs' := List.pairwise_cons.1 hs
    by_cases h1 : key y = b
    · exact .inl ⟨[], y, t, rfl, h1, by simp, fun a ha => by have := hs'.1 a ha; omega⟩
    by_cases h2 : b < key y
    · refine .inr ⟨[], y :: t, rfl, by simp, fun a ha => ?_⟩
      rcases List.mem_cons.1 ha with rfl | ha
      · exact h2
      · have := hs'.1 a ha; omega
    have hA : ∀ A : List α, (∀ a ∈ A, key a < b) → ∀ a ∈ y :: A, key a < b := by
      intro A hA a ha
      rcases List.mem_cons.1 ha with rfl | ha
      · omega
      · exact hA a ha
    rcases ih hs'.2 with ⟨A, x, B, rfl, h3, h4, h5⟩ | ⟨A, B, rfl, h4, h5⟩
    · exact .inl ⟨y :: A, x, B, rfl, h3, hA A h4, h5⟩
    · exact .inr ⟨y :: A, B, rfl, hA A h4, h5⟩

theorem bsearch (f : α → Option Int) (A R : List α) (b : Int) (hf : ∀ x, f x = some (cmp3 (key x) b)) (hA : ∀ a ∈ A, key a < b) (hR : ∀ a ∈ R, b ≤ key a) (hn : (A ++ R).length < 1099511627776) :
    loop (σ := Int × Int) (ρ := Int) (fun s20 => Let (clt s20.1 s20.2) fun b22 => bif b22 then (Let (iadd s20.1 s20.2) fun v23 => Let (IntKind.wrap .u64 v23) fun v24 => Bnd (sh? 1) fun _ => Let (binI .shr .u64 v24 1) fun v25 => Let (IntKind.wrap .i64 v25) fun v26 => Bnd (at? (A ++ R) v26) fun y27 => Bnd (f y27) fun r37 => Let (clt r37 0) fun b40 => bif b40 then (Let (iadd v26 1) fun v41 => some (.inl (v41, s20.2))) else (some (.inl (s20.1, v26)))) else (some (.inr (s20.1)))) (0, ln (A ++ R)) = some (A.length : Int) := by
  obtain ⟨r, h1, h2⟩ := loop_inv (σ := Int × Int) (ρ := Int) (s0 := (0, ln (A ++ R))) (step := fun s20 => Let (clt s20.1 s20.2) fun b22 => bif b22 then (Let (iadd s20.1 s20.2) fun v23 => Let (IntKind.wrap .u64 v23) fun v24 => Bnd (sh? 1) fun _ => Let (binI .shr .u64 v24 1) fun v25 => Let (IntKind.wrap .i64 v25) fun v26 => Bnd (at? (A ++ R) v26) fun y27 => Bnd (f y27) fun r37 => Let (clt r37 0) fun b40 => bif b40 then (Let (iadd v26 1) fun v41 => some (.inl (v41, s20.2))) else (some (.inl (s20.1, v26)))) else (some (.inr (s20.1))))
    (fun s => 0 ≤ s.1 ∧ s.1 ≤ A.length ∧ A.length ≤ s.2 ∧ s.2 ≤ (A ++ R).length) (fun s => (s.2 - s.1).toNat) (fun r => r = A.length)
    ⟨by simp, by simp, by simp [ln]; omega, by simp [ln]⟩ (by simp only [ln]; omega) (by
      rintro ⟨i, j⟩ ⟨k1, k2, k3, k4⟩
      simp only at k1 k2 k3 k4
      by_cases hij : i < j
      · left
        have e1 : iadd i j = i + j := add_ok (by omega)
        have e2 := half18 (a := i + j) (by omega)
        have hh0 : 0 ≤ (i + j) / 2 := by omega
        obtain ⟨m, hm⟩ := Int.eq_ofNat_of_zero_le hh0
        have hml : m < (A ++ R).length := by omega
        have e3 : at? (A ++ R) (m : Int) = some ((A ++ R)[m]) := by rw [at?_nat, List.getElem?_eq_getElem hml]
        simp only [let_eq, clt_eq, hij, decide_true, cond_true, e1, e2, hm, e3, bnd_some, hf, show sh? 1 = some () from rfl]
        by_cases hmA : m < A.length
        · have : key ((A ++ R)[m]) < b := by
            rw [List.getElem_append_left hmA]; exact hA _ (List.getElem_mem hmA)
          rw [decide_eq_true (cmp3_lt.2 this)]
          have e4 : iadd (m : Int) 1 = m + 1 := add_ok (by omega)
          refine ⟨_, by rw [cond_true, e4], ⟨?_, ?_, ?_, ?_⟩, ?_⟩
          all_goals simp only; omega
        · have : ¬ key ((A ++ R)[m]) < b := by
            rw [List.getElem_append_right (by omega)]
            have := hR _ (List.getElem_mem (l := R) (n := m - A.length) (by simp at hml; omega))
            omega
          rw [decide_eq_false (fun q => this (cmp3_lt.1 q))]
          refine ⟨_, by rw [cond_false], ⟨?_, ?_, ?_, ?_⟩, ?_⟩
          all_goals simp only; omega
      · right
        refine ⟨i, by simp only [let_eq, clt_eq, hij, decide_false, cond_false], by omega⟩)
  rw [h1, h2]
end

theorem cmpC (a b : Int) : m_cmp_Compare a b = some (cmp3 a b) := by
  unfold m_cmp_Compare m_cmp_isNaN cmp3
  simp only [let_eq, bnd_some, cne_eq, ne_eq, not_true, decide_false, cond_false, clt_eq, cgt_eq, cond_dec]
  by_cases h : a < b
  · simp [h]
  · simp only [h, if_false]
    by_cases h2 : b < a <;> simp [h2]
theorem cmp3_zero {a b : Int} : cmp3 a b = 0 ↔ a = b := by
  unfold cmp3
  by_cases h : a < b
  · simp [h]; omega
  · by_cases h2 : b < a
    · simp [h, h2]; omega
    · simp [h, h2]; omega
theorem placeC (w : TWrite) (b : Int) : m_trans_place_1 w b = some (cmp3 w.Block b) := by
  unfold m_trans_place_1; rw [cmpC]; rfl
theorem atC (w : TTrans) (b : Int) : m_trans_at_1 w b = some (cmp3 w.Id b) := by
  unfold m_trans_at_1; rw [cmpC]; rfl
/-- What a search answers: where, and whether it is there. -/
theorem searchW_hit (A B : List TWrite) (x : TWrite) (b : Int) (hx : x.Block = b) (hA : ∀ a ∈ A, a.Block < b) (hB : ∀ a ∈ B, b < a.Block) (hn : (A ++ x :: B).length < 1099511627776) : m_slices_BinarySearchFunc_ (A ++ x :: B) b = some ((A.length : Int), true) := by
  have h := bsearch TWrite.Block (fun y => m_trans_place_1 y b) A (x :: B) b (fun y => placeC y b) hA (fun a ha => by rcases List.mem_cons.1 ha with rfl | ha; omega; have := hB a ha; omega) hn
  unfold m_slices_BinarySearchFunc_
  rw [let_eq, h]
  have e : at? (A ++ x :: B) (A.length : Int) = some x := by rw [at?_nat]; simp
  have hl : (A.length : Int) < ln (A ++ x :: B) := by simp [ln]; omega
  simp only [bnd_some, let_eq, clt_eq, hl, decide_true, cond_true, e, placeC, ceq_eq, cmp3_zero.2 hx]
theorem searchW_miss (A B : List TWrite) (b : Int) (hA : ∀ a ∈ A, a.Block < b) (hB : ∀ a ∈ B, b < a.Block) (hn : (A ++ B).length < 1099511627776) : m_slices_BinarySearchFunc_ (A ++ B) b = some ((A.length : Int), false) := by
  have h := bsearch TWrite.Block (fun y => m_trans_place_1 y b) A B b (fun y => placeC y b) hA (fun a ha => by have := hB a ha; omega) hn
  unfold m_slices_BinarySearchFunc_
  rw [let_eq, h]
  cases B with
  | nil => simp [ln]
  | cons x B =>
    have e : at? (A ++ x :: B) (A.length : Int) = some x := by rw [at?_nat]; simp
    have hl : (A.length : Int) < ln (A ++ x :: B) := by simp [ln]; omega
    have hx : ¬ cmp3 x.Block b = 0 := fun q => by have := cmp3_zero.1 q; have := hB x (by simp); omega
    simp only [bnd_some, let_eq, clt_eq, hl, decide_true, cond_true, e, placeC, ceq_eq, hx, decide_false]
theorem searchT_hit (A B : List TTrans) (x : TTrans) (b : Int) (hx : x.Id = b) (hA : ∀ a ∈ A, a.Id < b) (hB : ∀ a ∈ B, b < a.Id) (hn : (A ++ x :: B).length < 1099511627776) : m_slices_BinarySearchFunc (A ++ x :: B) b = some ((A.length : Int), true) := by
  have h := bsearch TTrans.Id (fun y => m_trans_at_1 y b) A (x :: B) b (fun y => atC y b) hA (fun a ha => by rcases List.mem_cons.1 ha with rfl | ha; omega; have := hB a ha; omega) hn
  unfold m_slices_BinarySearchFunc
  rw [let_eq, h]
  have e : at? (A ++ x :: B) (A.length : Int) = some x := by rw [at?_nat]; simp
  have hl : (A.length : Int) < ln (A ++ x :: B) := by simp [ln]; omega
  simp only [bnd_some, let_eq, clt_eq, hl, decide_true, cond_true, e, atC, ceq_eq, cmp3_zero.2 hx]
theorem searchT_miss (A B : List TTrans) (b : Int) (hA : ∀ a ∈ A, a.Id < b) (hB : ∀ a ∈ B, b < a.Id) (hn : (A ++ B).length < 1099511627776) : m_slices_BinarySearchFunc (A ++ B) b = some ((A.length : Int), false) := by
  have h := bsearch TTrans.Id (fun y => m_trans_at_1 y b) A B b (fun y => atC y b) hA (fun a ha => by have := hB a ha; omega) hn
  unfold m_slices_BinarySearchFunc
  rw [let_eq, h]
  cases B with
  | nil => simp [ln]
  | cons x B =>
    have e : at? (A ++ x :: B) (A.length : Int) = some x := by rw [at?_nat]; simp
    have hl : (A.length : Int) < ln (A ++ x :: B) := by simp [ln]; omega
    have hx : ¬ cmp3 x.Id b = 0 := fun q => by have := cmp3_zero.1 q; have := hB x (by simp); omega
    simp only [bnd_some, let_eq, clt_eq, hl, decide_true, cond_true, e, atC, ceq_eq, hx, decide_false]
end Go.AX

namespace Go.AX
set_option autoImplicit false
set_option linter.unusedVariables false
set_option linter.unusedSimpArgs false
set_option maxRecDepth 4000
set_option maxHeartbeats 4000000

theorem srt_adj {α : Type} {key : α → Int} {l : List α} (h : ∀ i (hi : i + 1 < l.length), key (l[i]) < key (l[i + 1])) : Srt key l := by
  unfold Srt
  rw [List.pairwise_iff_getElem]
  intro i j hi hj hij
  obtain ⟨d, rfl⟩ : ∃ d, j = i + 1 + d := ⟨j - i - 1, by omega⟩
  clear hij
  induction d with
  | zero => exact h i hj
  | succ d ih =>
    have h1 := ih (by omega)
    have h2 := h (i + 1 + d) (by omega)
    exact Int.lt_trans h1 h2
theorem cloneW (l : List TWrite) (h : l.length ≤ 1000) : m_slices_Clone_ l = some l := by
  unfold m_slices_Clone_
  rw [app_ok (by simp; omega)]; rfl
theorem copiedC (t : TTrans) (h : t.Writes.length ≤ 1000) : m_trans_copied t = some t := by
  unfold m_trans_copied
  rw [cloneW _ h]; rfl
/-- A write as it is laid down. -/
def nW (w : TWrite) : TWrite := if w.Trim then ⟨w.Block, true, Ar.zero 32⟩ else ⟨w.Block, false, w.Data⟩
theorem nW_block (w : TWrite) : (nW w).Block = w.Block := by unfold nW; split <;> rfl
theorem put_hit (i b : Int) (A B : List TWrite) (x w : TWrite) (hx : x.Block = w.Block) (hA : ∀ a ∈ A, a.Block < w.Block) (hB : ∀ a ∈ B, w.Block < a.Block) (hn : (A ++ x :: B).length ≤ 1000) : m_trans_Put ⟨i, b, A ++ x :: B⟩ w = some ⟨i, b, A ++ nW w :: B⟩ := by
  have e : at? (A ++ x :: B) (A.length : Int) = some x := by rw [at?_nat]; simp
  have s : ∀ y, set' (A ++ x :: B) (A.length : Int) y = A ++ y :: B := by intro y; simp [set']
  unfold m_trans_Put
  rw [jn_eq]
  cases hT : w.Trim <;> simp only [cond_true, cond_false, copiedC ⟨i, b, A ++ x :: B⟩ hn, bnd_some, m_trans_place, searchW_hit A B x w.Block hx hA hB (by omega), e, let_eq, s] <;> simp [nW, hT]
theorem put_miss (i b : Int) (A B : List TWrite) (w : TWrite) (hA : ∀ a ∈ A, a.Block < w.Block) (hB : ∀ a ∈ B, w.Block < a.Block) (hn : (A ++ B).length ≤ 1000) : m_trans_Put ⟨i, b, A ++ B⟩ w = some ⟨i, b, A ++ nW w :: B⟩ := by
  have s : ∀ y, ins? 48 (A ++ B) (A.length : Int) [y] = some (A ++ y :: B) := by
    intro y
    unfold ins?
    rw [if_pos ⟨⟨by omega, by simp only [List.length_append]; omega⟩, rfl, by omega⟩]
    simp
  unfold m_trans_Put
  rw [jn_eq]
  cases hT : w.Trim <;> simp only [cond_true, cond_false, copiedC ⟨i, b, A ++ B⟩ hn, bnd_some, m_trans_place, searchW_miss A B w.Block hA hB (by omega), let_eq, s] <;> simp [nW, hT]
theorem find_hit (i b : Int) (A B : List TWrite) (x : TWrite) (k : Int) (hx : x.Block = k) (hA : ∀ a ∈ A, a.Block < k) (hB : ∀ a ∈ B, k < a.Block) (hn : (A ++ x :: B).length ≤ 1000) : m_trans_Find ⟨i, b, A ++ x :: B⟩ k = some (x, true) := by
  have e : at? (A ++ x :: B) (A.length : Int) = some x := by rw [at?_nat]; simp
  unfold m_trans_Find
  simp only [m_trans_place, searchW_hit A B x k hx hA hB (by omega), bnd_some, let_eq, Bool.not_true, cond_false, e]
theorem find_miss (i b : Int) (A B : List TWrite) (k : Int) (hA : ∀ a ∈ A, a.Block < k) (hB : ∀ a ∈ B, k < a.Block) (hn : (A ++ B).length ≤ 1000) : m_trans_Find ⟨i, b, A ++ B⟩ k = some (⟨0, false, Ar.zero 32⟩, false) := by
  unfold m_trans_Find
  simp only [m_trans_place, searchW_miss A B k hA hB (by omega), bnd_some, let_eq, Bool.not_false, cond_true]
theorem mid_get {α : Type} (A B : List α) (x : α) : at? (A ++ x :: B) (A.length : Int) = some x := by rw [at?_nat]; simp
theorem pre_get {α : Type} (A C : List α) (i : Nat) (hi : i < A.length) : at? (A ++ C) (i : Int) = some (A[i]) := by
  rw [at?_nat, List.getElem?_append_left hi, List.getElem?_eq_getElem hi]
theorem refFind_hit (i b : Int) (A B : List TWrite) (x : TWrite) (k : Int) (hx : x.Block = k) (hA : ∀ a ∈ A, a.Block ≠ k) (hn : (A ++ x :: B).length ≤ 1000) : m_ref18_Find ⟨i, b, A ++ x :: B⟩ k = some (x, true) := by
  unfold m_ref18_Find
  have hA0 : A.length < (A ++ x :: B).length := by simp
  refine bnd_run (fun i => (i : Int)) A.length (.inr (x.Block, x.Trim, x.Data)) (by omega) rfl (fun j hj => ?_) ?_ rfl
  · have h1 : (j : Int) < ln (A ++ x :: B) := by simp only [ln]; omega
    have h2 := hA _ (List.getElem_mem hj)
    simp only [let_eq, clt_eq, h1, decide_true, cond_true, pre_get A _ j hj, bnd_some, ceq_eq, h2, decide_false, cond_false]
    rw [show iadd (j : Int) 1 = ((j + 1 : Nat) : Int) by rw [show iadd (j : Int) 1 = j + 1 from add_ok (by omega)]; rfl]
  · have h1 : (A.length : Int) < ln (A ++ x :: B) := by simp only [ln]; omega
    simp only [let_eq, clt_eq, h1, decide_true, cond_true, mid_get, bnd_some, ceq_eq, hx]
theorem refFind_miss (i b : Int) (A : List TWrite) (k : Int) (hA : ∀ a ∈ A, a.Block ≠ k) (hn : A.length ≤ 1000) : m_ref18_Find ⟨i, b, A⟩ k = some (⟨0, false, Ar.zero 32⟩, false) := by
  unfold m_ref18_Find
  refine bnd_run (fun i => (i : Int)) A.length (.inl ()) (by omega) rfl (fun j hj => ?_) ?_ rfl
  · have h1 : (j : Int) < ln A := by simp only [ln]; omega
    have h2 := hA _ (List.getElem_mem hj)
    have h3 : at? A (j : Int) = some (A[j]) := by rw [at?_nat, List.getElem?_eq_getElem hj]
    simp only [let_eq, clt_eq, h1, decide_true, cond_true, h3, bnd_some, ceq_eq, h2, decide_false, cond_false]
    rw [show iadd (j : Int) 1 = ((j + 1 : Nat) : Int) by rw [show iadd (j : Int) 1 = j + 1 from add_ok (by omega)]; rfl]
  · simp only [let_eq, clt_eq, ln, Int.lt_irrefl, decide_false, cond_false]
/-- One step of the reference's laying. -/
def rpS (n : TWrite) (s : Bool × List TWrite) (y : TWrite) : Bool × List TWrite :=
  let q := if !s.1 && decide (n.Block ≤ y.Block) then (true, s.2 ++ [n]) else s
  if y.Block ≠ n.Block then (q.1, q.2 ++ [y]) else q
theorem rpS_len (n : TWrite) (s : Bool × List TWrite) (y : TWrite) : (rpS n s y).2.length ≤ s.2.length + 2 := by
  unfold rpS
  dsimp only
  split <;> split <;> simp
theorem rpF_len (n : TWrite) (l : List TWrite) : ∀ s, (l.foldl (rpS n) s).2.length ≤ s.2.length + 2 * l.length := by
  induction l with
  | nil => intro s; simp
  | cons y t ih =>
    intro s
    have := ih (rpS n s y)
    have := rpS_len n s y
    simp only [List.foldl_cons, List.length_cons]; omega
theorem rp_lo (n : TWrite) (A : List TWrite) (hA : ∀ a ∈ A, a.Block < n.Block) : ∀ o, A.foldl (rpS n) (false, o) = (false, o ++ A) := by
  induction A with
  | nil => intro o; simp
  | cons y t ih =>
    intro o
    have h1 := hA y (by simp)
    have e : rpS n (false, o) y = (false, o ++ [y]) := by
      have : ¬ n.Block ≤ y.Block := by omega
      have h2 : y.Block ≠ n.Block := by omega
      simp [rpS, this, h2]
    rw [List.foldl_cons, e, ih (fun a ha => hA a (by simp [ha]))]
    simp
theorem rp_hi (n : TWrite) (A : List TWrite) (hA : ∀ a ∈ A, n.Block < a.Block) : ∀ o, A.foldl (rpS n) (true, o) = (true, o ++ A) := by
  induction A with
  | nil => intro o; simp
  | cons y t ih =>
    intro o
    have h1 := hA y (by simp)
    have e : rpS n (true, o) y = (true, o ++ [y]) := by
      have h2 : y.Block ≠ n.Block := by omega
      simp [rpS, h2]
    rw [List.foldl_cons, e, ih (fun a ha => hA a (by simp [ha]))]
    simp
def rpE (n : TWrite) (s : Bool × List TWrite) : List TWrite := if !s.1 then s.2 ++ [n] else s.2
theorem rp_hit (n : TWrite) (A B : List TWrite) (x : TWrite) (hx : x.Block = n.Block) (hA : ∀ a ∈ A, a.Block < n.Block) (hB : ∀ a ∈ B, n.Block < a.Block) : rpE n ((A ++ x :: B).foldl (rpS n) (false, [])) = A ++ n :: B := by
  have e : ∀ o, rpS n (false, o) x = (true, o ++ [n]) := by intro o; simp [rpS, hx]
  rw [List.foldl_append, rp_lo n A hA, List.foldl_cons, e, rp_hi n B hB]
  simp [rpE]
theorem rp_miss (n : TWrite) (A B : List TWrite) (hA : ∀ a ∈ A, a.Block < n.Block) (hB : ∀ a ∈ B, n.Block < a.Block) : rpE n ((A ++ B).foldl (rpS n) (false, [])) = A ++ n :: B := by
  rw [List.foldl_append, rp_lo n A hA]
  cases B with
  | nil => simp [rpE]
  | cons x B =>
    have h1 := hB x (by simp)
    have e : ∀ o, rpS n (false, o) x = (true, o ++ [n, x]) := by
      intro o
      have h2 : n.Block ≤ x.Block := by omega
      have h3 : x.Block ≠ n.Block := by omega
      simp [rpS, h2, h3]
    rw [List.foldl_cons, e, rp_hi n B (fun a ha => hB a (by simp [ha]))]
    simp [rpE]
theorem take_snoc {α : Type} {l : List α} {i : Nat} (hi : i < l.length) : l.take (i + 1) = l.take i ++ [l[i]] := by
  rw [List.take_add_one, List.getElem?_eq_getElem hi]; rfl
theorem refPut_eq (i b : Int) (l : List TWrite) (w : TWrite) (hn : l.length ≤ 1000) : m_ref18_Put ⟨i, b, l⟩ w = some ⟨i, b, rpE (nW w) (l.foldl (rpS (nW w)) (false, []))⟩ := by
  unfold m_ref18_Put
  rw [jn_eq]
  have key : ∀ q : Bool × Ar 32, TWrite.mk w.Block q.1 q.2 = nW w → ∀ k : Bool × List TWrite → Option TTrans, (∀ s, s.2.length ≤ 2000 → k s = some ⟨i, b, rpE (nW w) s⟩) → Bnd (loop (σ := Bool × Int × (List TWrite)) (ρ := (Bool × (List TWrite))) (fun s36 => Let (ln l) fun v42 => Let (clt s36.2.1 v42) fun b43 => bif b43 then (Jn (α := Bool × (List TWrite)) (fun q44 => Bnd (at? l s36.2.1) fun y52 => Let (cne y52.Block w.Block) fun b61 => bif b61 then (Bnd (at? l s36.2.1) fun y62 => Bnd (app? 48 q44.2 [y62]) fun l72 => Let (iadd s36.2.1 1) fun v76 => some (.inl (q44.1, v76, l72))) else (Let (iadd s36.2.1 1) fun v62 => some (.inl (q44.1, v62, q44.2)))) fun j45 => Jn (α := Bool) (fun q47 => bif q47 then (Bnd (app? 48 s36.2.2 [(TWrite.mk w.Block q.1 q.2)]) fun l52 => j45 (true, l52)) else (j45 (s36.1, s36.2.2))) fun j48 => Let (!s36.1) fun b50 => bif b50 then (Bnd (at? l s36.2.1) fun y51 => Let (cge y51.Block w.Block) fun b60 => j48 (b60)) else (j48 (false))) else (some (.inr (s36.1, s36.2.2)))) (false, 0, ([] : List TWrite))) k = some ⟨i, b, rpE (nW w) (l.foldl (rpS (nW w)) (false, []))⟩ := by
    intro q hq k hk
    have hlen : ∀ j, j ≤ l.length → ((l.take j).foldl (rpS (nW w)) (false, [])).2.length ≤ 2 * j := by
      intro j hj
      have := rpF_len (nW w) (l.take j) (false, [])
      rw [List.length_take] at this
      simp only [List.length_nil] at this
      omega
    refine bnd_run (fun j => (((l.take j).foldl (rpS (nW w)) (false, [])).1, (j : Int), ((l.take j).foldl (rpS (nW w)) (false, [])).2)) l.length (l.foldl (rpS (nW w)) (false, [])) (by omega) (by simp) (fun j hj => ?_) ?_ ?_
    · have h1 : (j : Int) < ln l := by simp only [ln]; omega
      have h3 : at? l (j : Int) = some (l[j]) := by rw [at?_nat, List.getElem?_eq_getElem hj]
      have h4 := hlen j (by omega)
      have hs : (l.take (j + 1)).foldl (rpS (nW w)) (false, []) = rpS (nW w) ((l.take j).foldl (rpS (nW w)) (false, [])) (l[j]) := by
        rw [take_snoc hj, List.foldl_append]; rfl
      have h5 : iadd (j : Int) 1 = ((j + 1 : Nat) : Int) := by rw [show iadd (j : Int) 1 = j + 1 from add_ok (by omega)]; rfl
      have hb : (nW w).Block = w.Block := nW_block w
      rw [hs]
      generalize (l.take j).foldl (rpS (nW w)) (false, []) = st at h4 ⊢
      obtain ⟨d, o⟩ := st
      simp only at h4
      have ap : ∀ (o' : List TWrite) (y : TWrite), o'.length ≤ 3000 → app? 48 o' [y] = some (o' ++ [y]) := fun o' y ho => app_ok (by simp; omega)
      simp only [let_eq, jn_eq, clt_eq, h1, decide_true, cond_true, h3, bnd_some, cge_eq, cne_eq, h5, hq, cond_dec]
      have a1 := ap o (nW w) (by omega)
      have a2 := ap o (l[j]) (by omega)
      have a3 := ap (o ++ [nW w]) (l[j]) (by simp; omega)
      cases d with
      | true =>
        by_cases c2 : (l[j]).Block = w.Block <;> simp [rpS, hb, c2, a1, a2, a3]
      | false =>
        by_cases c1 : w.Block ≤ (l[j]).Block <;> by_cases c2 : (l[j]).Block = w.Block <;> simp [rpS, hb, c1, c2, a1, a2, a3] <;> omega
    · simp only [let_eq, clt_eq, ln, Int.lt_irrefl, decide_false, cond_false, List.take_length]
    · have := hlen l.length (Nat.le_refl _)
      rw [List.take_length] at this
      exact hk _ (by omega)
  have ap : ∀ (o' : List TWrite) (y : TWrite), o'.length ≤ 3000 → app? 48 o' [y] = some (o' ++ [y]) := fun o' y ho => app_ok (by simp; omega)
  cases hT : w.Trim with
  | true =>
    rw [cond_true]
    refine key (true, Ar.zero 32) (by simp [nW, hT]) _ (fun s hs => ?_)
    obtain ⟨d, o⟩ := s
    simp only at hs
    have e : TWrite.mk w.Block true (Ar.zero 32) = nW w := by simp [nW, hT]
    cases d <;> simp [rpE, e, ap o _ (by omega)]
  | false =>
    rw [cond_false]
    refine key (false, w.Data) (by simp [nW, hT]) _ (fun s hs => ?_)
    obtain ⟨d, o⟩ := s
    simp only at hs
    have e : TWrite.mk w.Block false w.Data = nW w := by simp [nW, hT]
    cases d <;> simp [rpE, e, ap o _ (by omega)]
theorem same_refl (t : TTrans) (hn : t.Writes.length ≤ 1000) : m_ref18_Same t t = some true := by
  unfold m_ref18_Same
  simp only [jn_eq, let_eq, cne_eq, ne_eq, not_true, decide_false, cond_false]
  refine bnd_run (fun i => (i : Int)) t.Writes.length (.inl ()) (by omega) rfl (fun j hj => ?_) ?_ rfl
  · have h1 : (j : Int) < ln t.Writes := by simp only [ln]; omega
    have h3 : at? t.Writes (j : Int) = some (t.Writes[j]) := by rw [at?_nat, List.getElem?_eq_getElem hj]
    simp only [let_eq, clt_eq, h1, decide_true, cond_true, h3, bnd_some, beq_self_eq_true, Bool.and_true, Bool.not_true, cond_false]
    rw [show iadd (j : Int) 1 = ((j + 1 : Nat) : Int) by rw [show iadd (j : Int) 1 = j + 1 from add_ok (by omega)]; rfl]
  · simp only [let_eq, clt_eq, ln, Int.lt_irrefl, decide_false, cond_false]
theorem right18 (t : TTrans) : ∃ b, m_ref18_Right t = some b ∧ (b = true → Srt TWrite.Block t.Writes ∧ t.Writes.length ≤ 60) := by
  obtain ⟨i0, b0, l⟩ := t
  unfold m_ref18_Right
  obtain ⟨r, h1, h2⟩ := loop_inv (σ := Int) (ρ := Sum Unit Unit) (s0 := 1) (step := fun s19 => Jn (α := Unit) (fun q20 => Let (isub s19 1) fun v23 => Bnd (at? l v23) fun y24 => Bnd (at? l s19) fun y33 => Let (cge y24.Block y33.Block) fun b42 => bif b42 then (some (.inr (.inr ()))) else (Let (iadd s19 1) fun v43 => some (.inl (v43)))) fun j21 => Let (ln l) fun v23 => Let (clt s19 v23) fun b24 => bif b24 then (Let (clt s19 100) fun b25 => bif b25 then (j21 ()) else (some (.inr (.inl ())))) else (some (.inr (.inl ()))))
    (fun s => 1 ≤ s ∧ s ≤ 100 ∧ ∀ j (hj : j + 1 < l.length), (j : Int) + 1 < s → (l[j]).Block < (l[j + 1]).Block) (fun s => (100 - s).toNat) (fun r => r = .inl () → l.length ≤ 60 → ∀ j (hj : j + 1 < l.length), (l[j]).Block < (l[j + 1]).Block) ⟨by omega, by omega, fun j hj h => by omega⟩ (by decide) (by
      rintro s ⟨k1, k2, k3⟩
      obtain ⟨m, rfl⟩ : ∃ m : Nat, s = (m : Int) + 1 := ⟨(s - 1).toNat, by omega⟩
      by_cases c1 : (m : Int) + 1 < ln l
      · by_cases c2 : (m : Int) + 1 < 100
        · have hm : m + 1 < l.length := by simp only [ln] at c1; omega
          have e1 : isub ((m : Int) + 1) 1 = m := by rw [show isub ((m : Int) + 1) 1 = (m : Int) + 1 - 1 from sub_ok (by omega)]; omega
          have e2 : at? l (m : Int) = some (l[m]) := by rw [at?_nat, List.getElem?_eq_getElem]
          have e3 : at? l ((m : Int) + 1) = some (l[m + 1]) := by
            have := at?_nat l (m + 1)
            rw [show ((m + 1 : Nat) : Int) = (m : Int) + 1 by omega] at this
            rw [this, List.getElem?_eq_getElem hm]
          have e4 : iadd ((m : Int) + 1) 1 = (m : Int) + 1 + 1 := add_ok (by omega)
          simp only [jn_eq, let_eq, clt_eq, c1, c2, decide_true, cond_true, e1, e2, e3, e4, bnd_some, cge_eq]
          by_cases c3 : (l[m + 1]).Block ≤ (l[m]).Block
          · right
            rw [decide_eq_true c3, cond_true]
            exact ⟨_, rfl, fun q => by cases q⟩
          · left
            rw [decide_eq_false c3, cond_false]
            refine ⟨_, rfl, ⟨by omega, by omega, fun j hj hjs => ?_⟩, by omega⟩
            by_cases e : j = m
            · subst e; omega
            · exact k3 j hj (by omega)
        · right
          refine ⟨.inl (), by simp only [jn_eq, let_eq, clt_eq, c1, c2, decide_true, cond_true, decide_false, cond_false], fun _ hl j hj => ?_⟩
          simp only [ln] at c1
          exact absurd c1 (by omega)
      · right
        refine ⟨.inl (), by simp only [jn_eq, let_eq, clt_eq, c1, decide_false, cond_false], fun _ hl j hj => k3 j hj ?_⟩
        simp only [ln] at c1
        omega)
  rw [h1]
  cases r with
  | inl u =>
    refine ⟨_, rfl, fun h => ?_⟩
    have h60 : l.length ≤ 60 := by
      have h' : (l.length : Int) ≤ 60 := by simpa [ln] using h
      omega
    exact ⟨srt_adj (fun i hi => h2 rfl h60 i hi), h60⟩
  | inr u => exact ⟨false, rfl, by simp⟩
theorem puts_some (t : TTrans) (hn : t.Writes.length ≤ 1000) : ∃ q, loop (σ := Int × Int) (ρ := Int) (fun s28 => Let (ln t.Writes) fun v30 => Let (clt s28.2 v30) fun b31 => bif b31 then (Bnd (at? t.Writes s28.2) fun y32 => Let (!y32.Trim) fun b41 => bif b41 then (Let (iadd s28.1 1) fun v42 => Let (iadd s28.2 1) fun v43 => some (.inl (v42, v43))) else (Let (iadd s28.2 1) fun v42 => some (.inl (s28.1, v42)))) else (some (.inr (s28.1)))) (0, 0) = some q ∧ m_trans_Puts t = some q := by
  obtain ⟨q, h1, _⟩ := loop_inv (σ := Int × Int) (ρ := Int) (s0 := (0, 0)) (step := fun s28 => Let (ln t.Writes) fun v30 => Let (clt s28.2 v30) fun b31 => bif b31 then (Bnd (at? t.Writes s28.2) fun y32 => Let (!y32.Trim) fun b41 => bif b41 then (Let (iadd s28.1 1) fun v42 => Let (iadd s28.2 1) fun v43 => some (.inl (v42, v43))) else (Let (iadd s28.2 1) fun v42 => some (.inl (s28.1, v42)))) else (some (.inr (s28.1))))
    (fun s => 0 ≤ s.2 ∧ s.2 ≤ t.Writes.length) (fun s => (t.Writes.length - s.2).toNat) (fun _ => True) ⟨by simp, by simp⟩ (by simp only; omega) (by
      rintro ⟨c, s⟩ ⟨k1, k2⟩
      simp only at k1 k2
      obtain ⟨j, rfl⟩ := Int.eq_ofNat_of_zero_le k1
      by_cases hj : j < t.Writes.length
      · left
        have h1 : (j : Int) < ln t.Writes := by simp only [ln]; omega
        have h3 : at? t.Writes (j : Int) = some (t.Writes[j]) := by rw [at?_nat, List.getElem?_eq_getElem hj]
        have h5 : iadd (j : Int) 1 = (j : Int) + 1 := add_ok (by omega)
        simp only [let_eq, clt_eq, h1, decide_true, cond_true, h3, bnd_some, h5]
        cases (!(t.Writes[j]).Trim)
        · exact ⟨_, rfl, ⟨by simp only; omega, by simp only; omega⟩, by simp only; omega⟩
        · exact ⟨_, rfl, ⟨by simp only; omega, by simp only; omega⟩, by simp only; omega⟩
      · right
        have h1 : ¬ (j : Int) < ln t.Writes := by simp only [ln]; omega
        exact ⟨c, by simp only [let_eq, clt_eq, h1, decide_false, cond_false], trivial⟩)
  refine ⟨q, h1, ?_⟩
  unfold m_trans_Puts
  rw [let_eq]
  have h2 : loop (σ := Int × Int) (ρ := Int) (fun s20 => Let (clt s20.2 (ln t.Writes)) fun b22 => bif b22 then (Bnd (at? t.Writes s20.2) fun y23 => Let (!y23.Trim) fun b32 => bif b32 then (Let (iadd s20.1 1) fun v33 => Let (iadd s20.2 1) fun v34 => some (.inl (v33, v34))) else (Let (iadd s20.2 1) fun v33 => some (.inl (s20.1, v33)))) else (some (.inr (s20.1)))) (0, 0) = some q := h1
  rw [h2]; rfl
theorem law_TransWrites (x0 : TTrans) (x1 : TWrite) (x2 : Int) (w0 : BTrans x0) (w1 : BWrite x1) (w2 : (Lit.int .i64 x2).wf = true) : m_law18_TransWrites x0 x1 x2 = some true := by
  unfold m_law18_TransWrites
  obtain ⟨b, hb, hb1⟩ := right18 x0
  simp only [jn_eq, let_eq, awake18, bnd_some, Bool.not_true, cond_false, hb]
  cases b with
  | false => rfl
  | true =>
    obtain ⟨hs, hl⟩ := hb1 rfl
    obtain ⟨q, hq1, hq2⟩ := puts_some x0 (by omega)
    simp only [let_eq] at hq1
    simp only [Bool.not_true, cond_false, hq1, hq2, bnd_some]
    obtain ⟨i, bg, l⟩ := x0
    simp only at hs hl
    have hF : ∃ r, m_trans_Find ⟨i, bg, l⟩ x2 = some r ∧ m_ref18_Find ⟨i, bg, l⟩ x2 = some r := by
      rcases hs.split TWrite.Block x2 with ⟨A, x, B, rfl, h1, h2, h3⟩ | ⟨A, B, rfl, h2, h3⟩
      · exact ⟨_, find_hit i bg A B x x2 h1 h2 h3 (by omega), refFind_hit i bg A B x x2 h1 (fun a ha => by have := h2 a ha; omega) (by omega)⟩
      · refine ⟨_, find_miss i bg A B x2 h2 h3 (by omega), refFind_miss i bg (A ++ B) x2 (fun a ha => ?_) (by omega)⟩
        rcases List.mem_append.1 ha with ha | ha
        · have := h2 a ha; omega
        · have := h3 a ha; omega
    have hP : ∃ r, m_trans_Put ⟨i, bg, l⟩ x1 = some r ∧ m_ref18_Put ⟨i, bg, l⟩ x1 = some r ∧ r.Writes.length ≤ 1000 := by
      have hnb := nW_block x1
      rw [refPut_eq i bg l x1 (by omega)]
      rcases hs.split TWrite.Block x1.Block with ⟨A, x, B, rfl, h1, h2, h3⟩ | ⟨A, B, rfl, h2, h3⟩
      · refine ⟨_, put_hit i bg A B x x1 h1 h2 h3 (by omega), ?_, by simp at hl ⊢; omega⟩
        rw [rp_hit (nW x1) A B x (by omega) (by rw [hnb]; exact h2) (by rw [hnb]; exact h3)]
      · refine ⟨_, put_miss i bg A B x1 h2 h3 (by omega), ?_, by simp at hl ⊢; omega⟩
        rw [rp_miss (nW x1) A B (by rw [hnb]; exact h2) (by rw [hnb]; exact h3)]
    obtain ⟨r, e1, e2⟩ := hF
    obtain ⟨p, e3, e4, e5⟩ := hP
    simp [e1, e2, e3, e4, same_refl p e5]
end Go.AX

namespace Go.AX
set_option autoImplicit false
set_option linter.unusedVariables false
set_option linter.unusedSimpArgs false
set_option maxRecDepth 4000
set_option maxHeartbeats 4000000

structure Bd (L : TLedger) : Prop where
  len : L.Open.length ≤ 1000
  each : ∀ t ∈ L.Open, t.Writes.length ≤ 1000
structure LOk (L : TLedger) : Prop where
  len : L.Open.length ≤ 16
  next : 0 ≤ L.Next ∧ L.Next ≤ 1099511627776
  srt : Srt TTrans.Id L.Open
  each : ∀ t ∈ L.Open, (Srt TWrite.Block t.Writes ∧ t.Writes.length ≤ 60) ∧ 0 ≤ t.Id ∧ t.Id < L.Next
theorem LOk.bd {L : TLedger} (h : LOk L) : Bd L := ⟨by have := h.len; omega, fun t ht => by have := (h.each t ht).1.2; omega⟩
theorem cast1 (j : Nat) (h : j < 1099511627776) : iadd (j : Int) 1 = ((j + 1 : Nat) : Int) := by rw [show iadd (j : Int) 1 = j + 1 from add_ok (by omega)]; rfl
theorem get_at {α : Type} {l : List α} {j : Nat} (hj : j < l.length) : at? l (j : Int) = some (l[j]) := by rw [at?_nat, List.getElem?_eq_getElem hj]
theorem allC (n : Int) (l : List TTrans) (h : Bd ⟨n, l⟩) : m_trans_all ⟨n, l⟩ = some ⟨n, l⟩ := by
  have h0 : l.length ≤ 1000 := h.len
  have h1 : ∀ t ∈ l, t.Writes.length ≤ 1000 := h.each
  have hc : m_slices_Clone l = some l := by
    unfold m_slices_Clone
    rw [app_ok (by simp; omega)]; rfl
  unfold m_trans_all
  simp only [hc, bnd_some, let_eq]
  refine bnd_run (fun i => ((i : Int), l)) l.length l (by omega) rfl (fun j hj => ?_) ?_ rfl
  · have e1 : (j : Int) < ln l := by simp only [ln]; omega
    have e2 : set' l (j : Int) (l[j]) = l := by simp [set']
    simp only [clt_eq, e1, decide_true, cond_true, get_at hj, bnd_some, copiedC _ (h1 _ (List.getElem_mem hj)), e2, cast1 j (by omega)]
  · simp only [clt_eq, ln, Int.lt_irrefl, decide_false, cond_false]
theorem begin_full (n b : Int) (l : List TTrans) (h : Bd ⟨n, l⟩) (hl : 16 ≤ l.length) : m_trans_Begin ⟨n, l⟩ b = some (⟨n, l⟩, 0, 13) := by
  have e : (16 : Int) ≤ ln l := by simp only [ln]; omega
  unfold m_trans_Begin
  simp only [allC n l h, bnd_some, let_eq, cge_eq, e, decide_true, cond_true]
theorem begin_ok (n b : Int) (l : List TTrans) (h : Bd ⟨n, l⟩) (hl : l.length < 16) : m_trans_Begin ⟨n, l⟩ b = some (⟨iadd n 1, l ++ [⟨n, b, []⟩]⟩, n, 0) := by
  have e : ¬ (16 : Int) ≤ ln l := by simp only [ln]; omega
  unfold m_trans_Begin
  simp only [allC n l h, bnd_some, let_eq, cge_eq, e, decide_false, cond_false]
  rw [app_ok (by simp; omega)]; rfl
theorem get_hit (n k : Int) (A B : List TTrans) (x : TTrans) (hx : x.Id = k) (hA : ∀ a ∈ A, a.Id < k) (hB : ∀ a ∈ B, k < a.Id) (h : Bd ⟨n, A ++ x :: B⟩) : m_trans_Get ⟨n, A ++ x :: B⟩ k = some (x, 0) := by
  have h0 : (A ++ x :: B).length ≤ 1000 := h.len
  unfold m_trans_Get
  simp only [m_trans_at, searchT_hit A B x k hx hA hB (by omega), bnd_some, let_eq, Bool.not_true, cond_false, mid_get, copiedC x (h.each x (by simp))]
theorem get_miss (n k : Int) (A B : List TTrans) (hA : ∀ a ∈ A, a.Id < k) (hB : ∀ a ∈ B, k < a.Id) (h : Bd ⟨n, A ++ B⟩) : m_trans_Get ⟨n, A ++ B⟩ k = some (⟨0, 0, []⟩, 9) := by
  have h0 : (A ++ B).length ≤ 1000 := h.len
  unfold m_trans_Get
  simp only [m_trans_at, searchT_miss A B k hA hB (by omega), bnd_some, let_eq, Bool.not_false, cond_true]
theorem set_hit (n : Int) (A B : List TTrans) (x t : TTrans) (ht : t.Writes.length ≤ 1000) (hx : x.Id = t.Id) (hA : ∀ a ∈ A, a.Id < t.Id) (hB : ∀ a ∈ B, t.Id < a.Id) (h : Bd ⟨n, A ++ x :: B⟩) : m_trans_Set ⟨n, A ++ x :: B⟩ t = some ⟨n, A ++ t :: B⟩ := by
  have h0 : (A ++ x :: B).length ≤ 1000 := h.len
  have s : set' (A ++ x :: B) (A.length : Int) t = A ++ t :: B := by simp [set']
  unfold m_trans_Set
  simp only [allC n _ h, m_trans_at, searchT_hit A B x t.Id hx hA hB (by omega), bnd_some, let_eq, cond_true, mid_get, copiedC t ht, s]
theorem set_miss (n : Int) (A B : List TTrans) (t : TTrans) (hA : ∀ a ∈ A, a.Id < t.Id) (hB : ∀ a ∈ B, t.Id < a.Id) (h : Bd ⟨n, A ++ B⟩) : m_trans_Set ⟨n, A ++ B⟩ t = some ⟨n, A ++ B⟩ := by
  have h0 : (A ++ B).length ≤ 1000 := h.len
  unfold m_trans_Set
  simp only [allC n _ h, m_trans_at, searchT_miss A B t.Id hA hB (by omega), bnd_some, let_eq, cond_false]
theorem drop_hit (n k : Int) (A B : List TTrans) (x : TTrans) (hx : x.Id = k) (hA : ∀ a ∈ A, a.Id < k) (hB : ∀ a ∈ B, k < a.Id) (h : Bd ⟨n, A ++ x :: B⟩) : m_trans_Drop ⟨n, A ++ x :: B⟩ k = some (⟨n, A ++ B⟩, 0) := by
  have h0 : (A ++ x :: B).length ≤ 1000 := h.len
  have hA0 : A.length < (A ++ x :: B).length := by simp
  have s : dele? (A ++ x :: B) (A.length : Int) ((A.length + 1 : Nat) : Int) = some (A ++ B) := by
    unfold dele?
    rw [if_pos ⟨by omega, by omega, by omega⟩]
    simp [List.drop_append]
  unfold m_trans_Drop
  simp only [allC n _ h, m_trans_at, searchT_hit A B x k hx hA hB (by omega), bnd_some, let_eq, Bool.not_true, cond_false, cast1 A.length (by omega), s]
theorem drop_miss (n k : Int) (A B : List TTrans) (hA : ∀ a ∈ A, a.Id < k) (hB : ∀ a ∈ B, k < a.Id) (h : Bd ⟨n, A ++ B⟩) : m_trans_Drop ⟨n, A ++ B⟩ k = some (⟨n, A ++ B⟩, 9) := by
  have h0 : (A ++ B).length ≤ 1000 := h.len
  unfold m_trans_Drop
  simp only [allC n _ h, m_trans_at, searchT_miss A B k hA hB (by omega), bnd_some, let_eq, Bool.not_false, cond_true]
theorem refGet_hit (n k : Int) (A B : List TTrans) (x : TTrans) (hx : x.Id = k) (hA : ∀ a ∈ A, a.Id ≠ k) (h : Bd ⟨n, A ++ x :: B⟩) : m_ref18_Get ⟨n, A ++ x :: B⟩ k = some (x, true) := by
  have h0 : (A ++ x :: B).length ≤ 1000 := h.len
  have hA0 : A.length < (A ++ x :: B).length := by simp
  unfold m_ref18_Get
  refine bnd_run (fun i => (i : Int)) A.length (.inr (x.Id, x.Begin, x.Writes)) (by omega) rfl (fun j hj => ?_) ?_ rfl
  · have h1 : (j : Int) < ln (A ++ x :: B) := by simp only [ln]; omega
    have h2 := hA _ (List.getElem_mem hj)
    simp only [let_eq, clt_eq, h1, decide_true, cond_true, pre_get A _ j hj, bnd_some, ceq_eq, h2, decide_false, cond_false, cast1 j (by omega)]
  · have h1 : (A.length : Int) < ln (A ++ x :: B) := by simp only [ln]; omega
    simp only [let_eq, clt_eq, h1, decide_true, cond_true, mid_get, bnd_some, ceq_eq, hx]
theorem refGet_miss (n k : Int) (A : List TTrans) (hA : ∀ a ∈ A, a.Id ≠ k) (h : Bd ⟨n, A⟩) : m_ref18_Get ⟨n, A⟩ k = some (⟨0, 0, []⟩, false) := by
  have h0 : A.length ≤ 1000 := h.len
  unfold m_ref18_Get
  refine bnd_run (fun i => (i : Int)) A.length (.inl ()) (by omega) rfl (fun j hj => ?_) ?_ rfl
  · have h1 : (j : Int) < ln A := by simp only [ln]; omega
    have h2 := hA _ (List.getElem_mem hj)
    simp only [let_eq, clt_eq, h1, decide_true, cond_true, get_at hj, bnd_some, ceq_eq, h2, decide_false, cond_false, cast1 j (by omega)]
  · simp only [let_eq, clt_eq, ln, Int.lt_irrefl, decide_false, cond_false]
def wiG (k : Int) (t : TTrans) (d : Bool) (y : TTrans) : List TTrans := if y.Id ≠ k then [y] else if d then [] else [t]
theorem wiG_len (k : Int) (t : TTrans) (d : Bool) (l : List TTrans) : (l.flatMap (wiG k t d)).length ≤ l.length := by
  induction l with
  | nil => simp
  | cons y s ih =>
    have : (wiG k t d y).length ≤ 1 := by unfold wiG; split; · simp
                                          split <;> simp
    simp only [List.flatMap_cons, List.length_append, List.length_cons]; omega
theorem wiG_no (k : Int) (t : TTrans) (d : Bool) (l : List TTrans) (h : ∀ a ∈ l, a.Id ≠ k) : l.flatMap (wiG k t d) = l := by
  induction l with
  | nil => rfl
  | cons y s ih =>
    have := h y (by simp)
    rw [List.flatMap_cons, ih (fun a ha => h a (by simp [ha]))]
    simp [wiG, this]
theorem refWith (n k : Int) (l : List TTrans) (t : TTrans) (d : Bool) (hl : l.length ≤ 1000) : m_ref18_with ⟨n, l⟩ k t d = some ⟨n, l.flatMap (wiG k t d)⟩ := by
  unfold m_ref18_with
  refine bnd_run (fun i => ((i : Int), (l.take i).flatMap (wiG k t d))) l.length (l.flatMap (wiG k t d)) (by omega) (by simp) (fun j hj => ?_) ?_ rfl
  · have h1 : (j : Int) < ln l := by simp only [ln]; omega
    have hw := wiG_len k t d (l.take j)
    rw [List.length_take] at hw
    rw [take_snoc hj, List.flatMap_append]
    generalize (l.take j).flatMap (wiG k t d) = o at hw ⊢
    have ap : ∀ y : TTrans, app? 40 o [y] = some (o ++ [y]) := fun y => app_ok (by simp; omega)
    simp only [let_eq, clt_eq, h1, decide_true, cond_true, get_at hj, bnd_some, cne_eq, ap, cast1 j (by omega), cond_dec]
    by_cases c1 : (l[j]).Id = k
    · cases d <;> simp [c1, wiG]
    · simp [c1, wiG]
  · simp only [let_eq, clt_eq, ln, Int.lt_irrefl, decide_false, cond_false, List.take_length]
theorem refWith_hit (n k : Int) (A B : List TTrans) (x t : TTrans) (d : Bool) (hx : x.Id = k) (hA : ∀ a ∈ A, a.Id < k) (hB : ∀ a ∈ B, k < a.Id) (h : Bd ⟨n, A ++ x :: B⟩) : m_ref18_with ⟨n, A ++ x :: B⟩ k t d = some ⟨n, A ++ (if d then [] else [t]) ++ B⟩ := by
  rw [refWith n k _ t d h.len, List.flatMap_append, List.flatMap_cons, wiG_no k t d A (fun a ha => by have := hA a ha; omega), wiG_no k t d B (fun a ha => by have := hB a ha; omega)]
  simp [wiG, hx]
theorem refWith_miss (n k : Int) (A B : List TTrans) (t : TTrans) (d : Bool) (hA : ∀ a ∈ A, a.Id < k) (hB : ∀ a ∈ B, k < a.Id) (h : Bd ⟨n, A ++ B⟩) : m_ref18_with ⟨n, A ++ B⟩ k t d = some ⟨n, A ++ B⟩ := by
  rw [refWith n k _ t d h.len, wiG_no k t d (A ++ B) (fun a ha => by
    rcases List.mem_append.1 ha with ha | ha
    · have := hA a ha; omega
    · have := hB a ha; omega)]
theorem sameAll_refl (L : TLedger) (h : Bd L) : m_ref18_SameAll L L = some true := by
  obtain ⟨n, l⟩ := L
  have h0 : l.length ≤ 1000 := h.len
  have h1 : ∀ t ∈ l, t.Writes.length ≤ 1000 := h.each
  unfold m_ref18_SameAll
  simp only [jn_eq, let_eq, cne_eq, ne_eq, not_true, decide_false, cond_false]
  refine bnd_run (fun i => (i : Int)) l.length (.inl ()) (by omega) rfl (fun j hj => ?_) ?_ rfl
  · have e1 : (j : Int) < ln l := by simp only [ln]; omega
    simp only [let_eq, clt_eq, e1, decide_true, cond_true, get_at hj, bnd_some, same_refl _ (h1 _ (List.getElem_mem hj)), Bool.not_true, cond_false, cast1 j (by omega)]
  · simp only [let_eq, clt_eq, ln, Int.lt_irrefl, decide_false, cond_false]
def mnS (c : Int) (y : TTrans) : Int := if y.Begin < c then y.Begin else c
theorem oldest_eq (n b : Int) (l : List TTrans) (hl : l.length ≤ 1000) : ∃ o, m_trans_Oldest ⟨n, l⟩ b = some o ∧ m_ref18_Oldest ⟨n, l⟩ b = some o := by
  cases l with
  | nil =>
    refine ⟨b, rfl, ?_⟩
    unfold m_ref18_Oldest
    exact bnd_run (fun i => (b, (i : Int))) 0 b (by omega) rfl (fun j hj => by omega) rfl rfl
  | cons y0 t =>
    obtain ⟨l, hl2⟩ : ∃ l, l = y0 :: t := ⟨_, rfl⟩
    rw [← hl2] at hl ⊢
    have e0 : at? l 0 = some y0 := by rw [hl2]; rfl
    have hpos : 0 < l.length := by rw [hl2]; simp
    have hz : ¬ ln l = 0 := fun q => by simp only [ln] at q; omega
    have e00 : l[0] = y0 := by simp [hl2]
    refine ⟨l.foldl mnS y0.Begin, ?_, ?_⟩
    · unfold m_trans_Oldest
      simp only [let_eq, ceq_eq, hz, decide_false, cond_false, e0, bnd_some]
      refine bnd_run (fun i => ((l.take i).foldl mnS y0.Begin, (i : Int))) l.length (l.foldl mnS y0.Begin) (by omega) (by simp) (fun j hj => ?_) ?_ rfl
      · have e1 : (j : Int) < ln l := by simp only [ln]; omega
        simp only [let_eq, clt_eq, e1, decide_true, cond_true, get_at hj, bnd_some, cast1 j (by omega)]
        rw [take_snoc hj, List.foldl_append]; rfl
      · simp only [let_eq, clt_eq, ln, Int.lt_irrefl, decide_false, cond_false, List.take_length]
    · unfold m_ref18_Oldest
      refine bnd_run (fun i => (if i = 0 then b else (l.take i).foldl mnS y0.Begin, (i : Int))) l.length (l.foldl mnS y0.Begin) (by omega) (by simp) (fun j hj => ?_) ?_ rfl
      · have e1 : (j : Int) < ln l := by simp only [ln]; omega
        simp only [jn_eq, let_eq, clt_eq, e1, decide_true, cond_true, get_at hj, bnd_some, cast1 j (by omega), ceq_eq]
        rw [take_snoc hj, List.foldl_append, if_neg (show ¬ (j + 1 = 0) by omega)]
        cases j with
        | zero => simp [e00, mnS]
        | succ j =>
          have : ¬ ((j + 1 : Nat) : Int) = 0 := by omega
          rw [decide_eq_false this, cond_false]
          simp only [Nat.add_eq_zero_iff, Nat.one_ne_zero, and_false, if_false, List.foldl_cons, List.foldl_nil]
          generalize (l.take (j + 1)).foldl mnS y0.Begin = c
          by_cases c1 : (l[j + 1]).Begin < c
          · simp [c1, mnS]
          · simp [c1, mnS]
      · have : ¬ l.length = 0 := by omega
        simp only [let_eq, clt_eq, ln, Int.lt_irrefl, decide_false, cond_false, List.take_length, this, if_false]
theorem rightAll (L : TLedger) : ∃ b, m_ref18_RightAll L = some b ∧ (b = true → LOk L) := by
  obtain ⟨n, l⟩ := L
  unfold m_ref18_RightAll
  simp only [jn_eq, let_eq, cgt_eq, clt_eq]
  by_cases k1 : 16 < ln l
  · exact ⟨false, by rw [decide_eq_true k1]; rfl, by simp⟩
  by_cases k2 : n < 0
  · exact ⟨false, by rw [decide_eq_false k1, decide_eq_true k2]; rfl, by simp⟩
  by_cases k3 : 1099511627776 < n
  · exact ⟨false, by rw [decide_eq_false k1, decide_eq_false k2, decide_eq_true k3]; rfl, by simp⟩
  rw [decide_eq_false k1, decide_eq_false k2, decide_eq_false k3, cond_false, cond_false, cond_false]
  have hl : l.length ≤ 16 := by simp only [ln] at k1; omega
  obtain ⟨r, h1, h2⟩ := loop_inv (σ := Int) (ρ := Sum Unit Unit) (s0 := 0) (step := fun s21 => bif decide (s21 < ln l) then (Bnd (at? l s21) fun y24 => Bnd (m_ref18_Right y24) fun r34 => bif !r34 then (some (.inr (.inr ()))) else (Bnd (at? l s21) fun y38 => bif cge y38.Id n then (some (.inr (.inr ()))) else (Bnd (at? l s21) fun y49 => bif decide (y49.Id < 0) then (some (.inr (.inr ()))) else (bif decide (0 < s21) then (Bnd (at? l (isub s21 1)) fun y62 => Bnd (at? l s21) fun y72 => bif cge y62.Id y72.Id then (some (.inr (.inr ()))) else (some (.inl (iadd s21 1)))) else (some (.inl (iadd s21 1))))))) else (some (.inr (.inl ()))))
    (fun s => 0 ≤ s ∧ s ≤ l.length ∧ ∀ j (hj : j < l.length), (j : Int) < s → ((Srt TWrite.Block (l[j]).Writes ∧ (l[j]).Writes.length ≤ 60) ∧ 0 ≤ (l[j]).Id ∧ (l[j]).Id < n) ∧ (∀ h0 : 0 < j, (l[j - 1]).Id < (l[j]).Id)) (fun s => (l.length - s).toNat)
    (fun r => r = .inl () → ∀ j (hj : j < l.length), ((Srt TWrite.Block (l[j]).Writes ∧ (l[j]).Writes.length ≤ 60) ∧ 0 ≤ (l[j]).Id ∧ (l[j]).Id < n) ∧ (∀ h0 : 0 < j, (l[j - 1]).Id < (l[j]).Id)) ⟨by omega, by omega, fun j hj h => by omega⟩ (by omega) (by
      rintro s ⟨q1, q2, q3⟩
      obtain ⟨m, rfl⟩ := Int.eq_ofNat_of_zero_le q1
      by_cases hm : m < l.length
      · have e1 : (m : Int) < ln l := by simp only [ln]; omega
        obtain ⟨b, hb, hb1⟩ := right18 (l[m])
        simp only [e1, decide_true, cond_true, get_at hm, bnd_some, hb, cge_eq]
        cases b with
        | false => exact .inr ⟨.inr (), rfl, fun q => by cases q⟩
        | true =>
          simp only [Bool.not_true, cond_false]
          by_cases c1 : n ≤ (l[m]).Id
          · exact .inr ⟨.inr (), by rw [decide_eq_true c1]; rfl, fun q => by cases q⟩
          by_cases c2 : (l[m]).Id < 0
          · exact .inr ⟨.inr (), by rw [decide_eq_false c1, decide_eq_true c2]; rfl, fun q => by cases q⟩
          rw [decide_eq_false c1, decide_eq_false c2, cond_false, cond_false, cast1 m (by omega)]
          by_cases c3 : m = 0
          · subst c3
            refine .inl ⟨_, by rfl, ⟨by omega, by omega, fun j hj hjs => ?_⟩, by omega⟩
            obtain rfl : j = 0 := by omega
            exact ⟨⟨hb1 rfl, by omega, by omega⟩, fun h => by omega⟩
          · have c4 : (0 : Int) < (m : Int) := by omega
            have e2 : isub (m : Int) 1 = ((m - 1 : Nat) : Int) := by rw [show isub (m : Int) 1 = (m : Int) - 1 from sub_ok (by omega)]; omega
            have hm1 : m - 1 < l.length := by omega
            simp only [c4, decide_true, cond_true, e2, get_at hm1, bnd_some]
            by_cases c5 : (l[m]).Id ≤ (l[m - 1]).Id
            · exact .inr ⟨.inr (), by rw [decide_eq_true c5]; rfl, fun q => by cases q⟩
            · refine .inl ⟨_, by rw [decide_eq_false c5, cond_false], ⟨by omega, by omega, fun j hj hjs => ?_⟩, by omega⟩
              by_cases e : j = m
              · subst e
                exact ⟨⟨hb1 rfl, by omega, by omega⟩, fun h => by omega⟩
              · exact q3 j hj (by omega)
      · have e1 : ¬ (m : Int) < ln l := by simp only [ln]; omega
        refine .inr ⟨.inl (), by rw [decide_eq_false e1, cond_false], fun _ j hj => q3 j hj (by omega)⟩)
  rw [h1]
  cases r with
  | inl u =>
    refine ⟨true, rfl, fun _ => ?_⟩
    have h3 := h2 rfl
    refine ⟨hl, ⟨Int.not_lt.1 k2, Int.not_lt.1 k3⟩, srt_adj (fun i hi => ?_), fun t ht => ?_⟩
    · have := (h3 (i + 1) hi).2 (by omega)
      simpa using this
    · obtain ⟨j, hj, rfl⟩ := List.getElem_of_mem ht
      exact (h3 j hj).1
  | inr u => exact ⟨false, rfl, by simp⟩
end Go.AX

namespace Go.AX
set_option autoImplicit false
set_option linter.unusedVariables false
set_option linter.unusedSimpArgs false
set_option maxRecDepth 4000
set_option maxHeartbeats 4000000

theorem Bd.cut {n : Int} {A B : List TTrans} {x : TTrans} (h : Bd ⟨n, A ++ x :: B⟩) : Bd ⟨n, A ++ B⟩ := by
  refine ⟨by have : (A ++ x :: B).length ≤ 1000 := h.len; simp at this ⊢; omega, fun t ht => h.each t ?_⟩
  rcases List.mem_append.1 ht with ht | ht <;> simp [ht]
theorem Bd.put {n : Int} {A B : List TTrans} {x y : TTrans} (h : Bd ⟨n, A ++ x :: B⟩) (hy : y.Writes.length ≤ 1000) : Bd ⟨n, A ++ y :: B⟩ := by
  refine ⟨by have : (A ++ x :: B).length ≤ 1000 := h.len; simp at this ⊢; omega, fun t ht => ?_⟩
  rcases List.mem_append.1 ht with ht | ht
  · exact h.each t (by simp [ht])
  · rcases List.mem_cons.1 ht with rfl | ht
    · exact hy
    · exact h.each t (by simp [ht])
/-- Found, dropped: as the reference says. -/
theorem getDrop {L : TLedger} (h : LOk L) (k : Int) : ∃ t c d L', m_trans_Get L k = some (t, c) ∧ m_ref18_Get L k = some (t, d) ∧ m_trans_Drop L k = some (L', c) ∧ m_ref18_Drop L k = some L' ∧ ((d = true ∧ c = 0) ∨ (d = false ∧ c = 9)) ∧ t.Writes.length ≤ 1000 ∧ Bd L' := by
  have hb := h.bd
  have hs := h.srt
  obtain ⟨n, l⟩ := L
  unfold m_ref18_Drop
  rcases hs.split TTrans.Id k with ⟨A, x, B, rfl, h1, h2, h3⟩ | ⟨A, B, rfl, h2, h3⟩
  · refine ⟨x, 0, true, ⟨n, A ++ B⟩, get_hit n k A B x h1 h2 h3 hb, refGet_hit n k A B x h1 (fun a ha => by have := h2 a ha; omega) hb, drop_hit n k A B x h1 h2 h3 hb, ?_, .inl ⟨rfl, rfl⟩, hb.each x (by simp), hb.cut⟩
    rw [refWith_hit n k A B x _ true h1 h2 h3 hb]
    simp
  · refine ⟨⟨0, 0, []⟩, 9, false, ⟨n, A ++ B⟩, get_miss n k A B h2 h3 hb, refGet_miss n k (A ++ B) (fun a ha => ?_) hb, drop_miss n k A B h2 h3 hb, ?_, .inr ⟨rfl, rfl⟩, by simp, hb⟩
    · rcases List.mem_append.1 ha with ha | ha
      · have := h2 a ha; omega
      · have := h3 a ha; omega
    · rw [refWith_miss n k A B _ true h2 h3 hb]; rfl
theorem setOk {L : TLedger} (h : LOk L) (t : TTrans) (ht : t.Writes.length ≤ 1000) : ∃ L', m_trans_Set L t = some L' ∧ m_ref18_Set L t = some L' ∧ Bd L' := by
  have hb := h.bd
  have hs := h.srt
  obtain ⟨n, l⟩ := L
  unfold m_ref18_Set
  rcases hs.split TTrans.Id t.Id with ⟨A, x, B, rfl, h1, h2, h3⟩ | ⟨A, B, rfl, h2, h3⟩
  · refine ⟨⟨n, A ++ t :: B⟩, set_hit n A B x t ht h1 h2 h3 hb, ?_, hb.put ht⟩
    rw [refWith_hit n t.Id A B x t false h1 h2 h3 hb]
    simp
  · refine ⟨⟨n, A ++ B⟩, set_miss n A B t h2 h3 hb, ?_, hb⟩
    rw [refWith_miss n t.Id A B t false h2 h3 hb]; rfl
theorem law_TransLedgers (x0 : TLedger) (x1 : Int) (x2 : Int) (x3 : TTrans) (w0 : BLedger x0) (w1 : (Lit.int .i64 x1).wf = true) (w2 : (Lit.int .i64 x2).wf = true) (w3 : BTrans x3) : m_law18_TransLedgers x0 x1 x2 x3 = some true := by
  unfold m_law18_TransLedgers
  obtain ⟨b, hb, hb1⟩ := rightAll x0
  obtain ⟨b2, hb2, hb3⟩ := right18 x3
  simp only [jn_eq, let_eq, awake18, bnd_some, Bool.not_true, cond_false, hb, hb2]
  cases b with
  | false => rfl
  | true =>
    cases b2 with
    | false => rfl
    | true =>
      have hL := hb1 rfl
      have ht := (hb3 rfl).2
      have hbd := hL.bd
      obtain ⟨t, c, d, L1, g1, g2, g3, g4, g5, g6, g7⟩ := getDrop hL x2
      obtain ⟨L2, s1, s2, s3⟩ := setOk hL x3 (by omega)
      obtain ⟨n, l⟩ := x0
      have hl16 : l.length ≤ 16 := hL.len
      obtain ⟨o, o1, o2⟩ := oldest_eq n x1 l (by omega)
      have rest : (Bnd (m_trans_Get ⟨n, l⟩ x2) fun r31 => Bnd (m_ref18_Get ⟨n, l⟩ x2) fun r40 => Bnd (m_trans_Drop ⟨n, l⟩ x2) fun r49 => Bnd (m_ref18_Same r31.1 r40.1) fun r57 => bif r57 then (bif (ceq r31.2 0 == r40.2) then (bif r40.2 then (bif ceq r31.2 r49.2 then (Bnd (m_ref18_Drop ⟨n, l⟩ x2) fun r63 => Bnd (m_ref18_SameAll r49.1 r63) fun r70 => bif r70 then (Bnd (m_trans_Set ⟨n, l⟩ x3) fun r73 => Bnd (m_ref18_Set ⟨n, l⟩ x3) fun r80 => Bnd (m_ref18_SameAll r73 r80) fun r87 => bif r87 then (Bnd (m_trans_Oldest ⟨n, l⟩ x1) fun r90 => Bnd (m_ref18_Oldest ⟨n, l⟩ x1) fun r93 => some (ceq r90 r93)) else (some false)) else (some false)) else (some false)) else (bif ceq r31.2 9 then (bif ceq r31.2 r49.2 then (Bnd (m_ref18_Drop ⟨n, l⟩ x2) fun r64 => Bnd (m_ref18_SameAll r49.1 r64) fun r71 => bif r71 then (Bnd (m_trans_Set ⟨n, l⟩ x3) fun r74 => Bnd (m_ref18_Set ⟨n, l⟩ x3) fun r81 => Bnd (m_ref18_SameAll r74 r81) fun r88 => bif r88 then (Bnd (m_trans_Oldest ⟨n, l⟩ x1) fun r91 => Bnd (m_ref18_Oldest ⟨n, l⟩ x1) fun r94 => some (ceq r91 r94)) else (some false)) else (some false)) else (some false)) else (some false))) else (some false)) else (some false)) = some true := by
        have e1 := same_refl t g6
        have e2 := sameAll_refl L1 g7
        have e3 := sameAll_refl L2 s3
        rcases g5 with ⟨rfl, rfl⟩ | ⟨rfl, rfl⟩ <;> simp [g1, g2, g3, g4, e1, e2, s1, s2, e3, o1, o2]
      simp only [let_eq] at rest
      simp only [Bool.not_true, cond_false]
      by_cases hfull : l.length = 16
      · have e1 : ln l = 16 := by simp only [ln, hfull]; rfl
        have e2 := sameAll_refl ⟨n, l⟩ hbd
        simp only [begin_full n x1 l hbd (by omega), bnd_some, e1, ceq_eq, decide_true, cond_true, cne_eq, ne_eq, not_true, decide_false, cond_false, e2, Bool.not_true]
        exact rest
      · have e1 : ¬ ln l = 16 := fun q => by simp only [ln] at q; omega
        have a1 : app? 40 ([] : List TTrans) l = some l := by rw [app_ok (by simp; omega)]; rfl
        have a2 : app? 40 l [TTrans.mk n x1 ([] : List TWrite)] = some (l ++ [TTrans.mk n x1 ([] : List TWrite)]) := app_ok (by simp; omega)
        have e2 := sameAll_refl ⟨iadd n 1, l ++ [TTrans.mk n x1 ([] : List TWrite)]⟩ ⟨by simp; omega, fun t ht => by
          rcases List.mem_append.1 ht with ht | ht
          · exact hbd.each t ht
          · simp at ht; subst ht; simp⟩
        simp only [begin_ok n x1 l hbd (by omega), bnd_some, e1, ceq_eq, decide_true, cond_true, cne_eq, ne_eq, not_true, decide_false, cond_false, a1, a2, e2, Bool.not_true]
        exact rest
/-! #### alone -/
theorem srt_map {α : Type} {key : α → Int} {l : List α} : Srt key l ↔ (l.map key).Pairwise (· < ·) := by
  unfold Srt; rw [List.pairwise_map]
theorem get_mem {L : TLedger} (hs : Srt TTrans.Id L.Open) (hb : Bd L) {y : TTrans} (hy : y ∈ L.Open) : m_trans_Get L y.Id = some (y, 0) := by
  obtain ⟨n, l⟩ := L
  rcases hs.split TTrans.Id y.Id with ⟨A, x, B, rfl, h1, h2, h3⟩ | ⟨A, B, rfl, h2, h3⟩
  · have : y = x := by
      rcases List.mem_append.1 hy with hy | hy
      · exact absurd (h2 y hy) (Int.lt_irrefl _)
      · rcases List.mem_cons.1 hy with hy | hy
        · exact hy
        · exact absurd (h3 y hy) (Int.lt_irrefl _)
    rw [get_hit n y.Id A B x h1 h2 h3 hb, this]
  · rcases List.mem_append.1 hy with hy | hy
    · exact absurd (h2 y hy) (Int.lt_irrefl _)
    · exact absurd (h3 y hy) (Int.lt_irrefl _)
theorem law_TransAlone (x0 : TLedger) (x1 : Int) (x2 : TWrite) (w0 : BLedger x0) (w1 : (Lit.int .i64 x1).wf = true) (w2 : BWrite x2) : m_law18_TransAlone x0 x1 x2 = some true := by
  unfold m_law18_TransAlone
  obtain ⟨b, hb, hb1⟩ := rightAll x0
  simp only [jn_eq, let_eq, awake18, bnd_some, Bool.not_true, cond_false, hb]
  cases b with
  | false => rfl
  | true =>
    have hL := hb1 rfl
    have hbd := hL.bd
    have hs := hL.srt
    obtain ⟨n, l⟩ := x0
    have hl16 : l.length ≤ 16 := hL.len
    -- the two ledgers then
    have two : ∀ (l1 l2 : List TTrans), Srt TTrans.Id l1 → Srt TTrans.Id l2 → Bd ⟨n, l1⟩ → Bd ⟨n, l2⟩ → (∀ y ∈ l, y.Id ≠ x1 → y ∈ l1 ∧ y ∈ l2) → m_trans_Get ⟨n, l2⟩ x1 = some (⟨0, 0, []⟩, 9) →
        (Bnd (loop (σ := Int) (ρ := Sum Unit Unit) (fun s52 => bif clt s52 (ln l) then (Bnd (at? l s52) fun y55 => bif ceq y55.Id x1 then (some (.inl (iadd s52 1))) else (Bnd (m_trans_Get (TLedger.mk n l1) y55.Id) fun r66 => Bnd (m_trans_Get (TLedger.mk n l2) y55.Id) fun r75 => bif cne r66.2 0 then (some (.inr (.inr ()))) else (bif cne r75.2 0 then (some (.inr (.inr ()))) else (Bnd (m_ref18_Same r66.1 y55) fun r86 => bif !r86 then (some (.inr (.inr ()))) else (Bnd (m_ref18_Same r75.1 y55) fun r90 => bif !r90 then (some (.inr (.inr ()))) else (some (.inl (iadd s52 1)))))))) else (some (.inr (.inl ())))) 0) fun q42 => (match q42 with | (.inl q42') => Bnd (m_trans_Get (TLedger.mk n l2) x1) fun r53 => bif ceq r53.2 9 then (bif ceq n n then (some (ceq n n)) else (some false)) else (some false) | (.inr q42'') => some false)) = some true := by
      intro l1 l2 s1 s2 b1 b2 hm hg
      refine bnd_run (fun i => (i : Int)) l.length (.inl ()) (by omega) rfl (fun j hj => ?_) ?_ ?_
      · have e1 : (j : Int) < ln l := by simp only [ln]; omega
        simp only [clt_eq, e1, decide_true, cond_true, get_at hj, bnd_some, ceq_eq, cast1 j (by omega)]
        by_cases c1 : (l[j]).Id = x1
        · rw [decide_eq_true c1, cond_true]
        · obtain ⟨m1, m2⟩ := hm _ (List.getElem_mem hj) c1
          have e2 := same_refl (l[j]) (hbd.each _ (List.getElem_mem hj))
          have e3 := get_mem (L := ⟨n, l1⟩) s1 b1 m1
          have e4 := get_mem (L := ⟨n, l2⟩) s2 b2 m2
          rw [decide_eq_false c1, cond_false]
          simp only [e3, e4, bnd_some, cne_eq, ne_eq, not_true, decide_false, cond_false, e2, Bool.not_true]
      · simp only [clt_eq, ln, Int.lt_irrefl, decide_false, cond_false]
      · simp only [hg, bnd_some, ceq_eq, decide_true, cond_true]
    simp only [Bool.not_true, cond_false]
    rcases hs.split TTrans.Id x1 with ⟨A, x, B, e, h1, h2, h3⟩ | ⟨A, B, e, h2, h3⟩
    · replace e : l = A ++ x :: B := e
      have hx60 := (hL.each x (by show x ∈ l; rw [e]; simp)).1
      have hP : ∃ p, m_trans_Put x x2 = some p ∧ p.Id = x.Id ∧ p.Writes.length ≤ 1000 := by
        obtain ⟨i, bg, ws⟩ := x
        obtain ⟨p1, p2⟩ := hx60
        simp only at p1 p2
        rcases p1.split TWrite.Block x2.Block with ⟨C, y, E, rfl, q1, q2, q3⟩ | ⟨C, E, rfl, q2, q3⟩
        · exact ⟨_, put_hit i bg C E y x2 q1 q2 q3 (by omega), rfl, by simp at p2 ⊢; omega⟩
        · exact ⟨_, put_miss i bg C E x2 q2 q3 (by omega), rfl, by simp at p2 ⊢; omega⟩
      obtain ⟨p, hp1, hp2, hp3⟩ := hP
      have g1 := get_hit n x1 A B x h1 h2 h3 (by rw [e] at hbd; exact hbd)
      have g2 := drop_hit n x1 A B x h1 h2 h3 (by rw [e] at hbd; exact hbd)
      have g3 := set_hit n A B x p hp3 hp2.symm (fun a ha => by have := h2 a ha; omega) (fun a ha => by have := h3 a ha; omega) (by rw [e] at hbd; exact hbd)
      rw [← e] at g1 g2 g3
      simp only [g1, bnd_some, ceq_eq, decide_true, cond_true, hp1, g3, g2]
      have t := fun q1 q2 q3 => two (A ++ p :: B) (A ++ B) q1 q2 ((e ▸ hbd : Bd ⟨n, A ++ x :: B⟩).put hp3) (e ▸ hbd : Bd ⟨n, A ++ x :: B⟩).cut q3 (get_miss n x1 A B h2 h3 (e ▸ hbd : Bd ⟨n, A ++ x :: B⟩).cut)
      simp only [ceq_eq, bnd_some, decide_true, cond_true] at t ⊢
      refine t ?_ ?_ ?_
      · have : Srt TTrans.Id (A ++ x :: B) := e ▸ hs
        rw [srt_map] at this ⊢
        simpa [hp2] using this
      · have : Srt TTrans.Id (A ++ x :: B) := e ▸ hs
        exact List.Pairwise.sublist (List.Sublist.append_left (List.sublist_cons_self x B) A) this
      · intro y hy hne
        rw [e] at hy
        rcases List.mem_append.1 hy with hy | hy
        · exact ⟨by simp [hy], by simp [hy]⟩
        · rcases List.mem_cons.1 hy with rfl | hy
          · exact absurd h1 hne
          · exact ⟨by simp [hy], by simp [hy]⟩
    · replace e : l = A ++ B := e
      have g1 := get_miss n x1 A B h2 h3 (by rw [e] at hbd; exact hbd)
      have g2 := drop_miss n x1 A B h2 h3 (by rw [e] at hbd; exact hbd)
      rw [← e] at g1 g2
      have z : ¬ (9 : Int) = 0 := by decide
      simp only [g1, bnd_some, ceq_eq, z, decide_false, cond_false, g2]
      have t := two l l hs hs hbd hbd (fun y hy _ => ⟨hy, hy⟩) g1
      simp only [g1, ceq_eq, bnd_some, decide_true, cond_true] at t ⊢
      exact t
end Go.AX

namespace Go.AX
set_option autoImplicit false
set_option linter.unusedVariables false
set_option linter.unusedSimpArgs false
set_option maxRecDepth 4000
set_option maxHeartbeats 4000000

theorem right18_true (i b : Int) (l : List TWrite) (hs : Srt TWrite.Block l) (hl : l.length ≤ 60) : m_ref18_Right ⟨i, b, l⟩ = some true := by
  unfold m_ref18_Right
  refine bnd_run (fun j => (j : Int) + 1) (l.length - 1) (.inl ()) (by omega) rfl (fun j hj => ?_) ?_ ?_
  · have hm : j + 1 < l.length := by omega
    have c1 : (j : Int) + 1 < ln l := by simp only [ln]; omega
    have c2 : (j : Int) + 1 < 100 := by omega
    have e1 : isub ((j : Int) + 1) 1 = j := by rw [show isub ((j : Int) + 1) 1 = (j : Int) + 1 - 1 from sub_ok (by omega)]; omega
    have e2 : at? l (j : Int) = some (l[j]) := get_at (by omega)
    have e3 : at? l ((j : Int) + 1) = some (l[j + 1]) := get_at hm
    have e4 : iadd ((j : Int) + 1) 1 = ((j + 1 : Nat) : Int) + 1 := by rw [show iadd ((j : Int) + 1) 1 = (j : Int) + 1 + 1 from add_ok (by omega)]; omega
    have e5 : ¬ (l[j + 1]).Block ≤ (l[j]).Block := by
      have := (List.pairwise_iff_getElem.1 hs) j (j + 1) (by omega) hm (by omega)
      omega
    simp only [jn_eq, let_eq, clt_eq, c1, c2, decide_true, cond_true, e1, e2, e3, e4, bnd_some, cge_eq, e5, decide_false, cond_false]
  · have c1 : ¬ ((l.length - 1 : Nat) : Int) + 1 < ln l := by simp only [ln]; omega
    simp only [jn_eq, let_eq, clt_eq, c1, decide_false, cond_false]
  · have : ln l ≤ 60 := by simp only [ln]; omega
    simp only [let_eq, cle_eq, this, decide_true]
theorem put_all (i b : Int) (l : List TWrite) (w : TWrite) (hs : Srt TWrite.Block l) (hl : l.length ≤ 900) : ∃ l', m_trans_Put ⟨i, b, l⟩ w = some ⟨i, b, l'⟩ ∧ Srt TWrite.Block l' ∧ l'.length ≤ l.length + 1 ∧ nW w ∈ l' ∧ ∀ x : TWrite, x.Block ≠ w.Block → (x ∈ l' ↔ x ∈ l) := by
  have hb := nW_block w
  rcases hs.split TWrite.Block w.Block with ⟨A, y, B, rfl, h1, h2, h3⟩ | ⟨A, B, rfl, h2, h3⟩
  · refine ⟨_, put_hit i b A B y w h1 h2 h3 (by omega), ?_, by simp, by simp, fun x hx => ?_⟩
    · rw [srt_map] at hs ⊢
      simpa [hb, h1] using hs
    · have e1 : x ≠ nW w := fun q => hx (by rw [q, hb])
      have e2 : x ≠ y := fun q => hx (by rw [q, h1])
      simp [e1, e2]
  · refine ⟨_, put_miss i b A B w h2 h3 (by omega), ?_, by simp; omega, by simp, fun x hx => ?_⟩
    · have h4 := List.pairwise_append.1 hs
      refine List.pairwise_append.2 ⟨h4.1, List.pairwise_cons.2 ⟨fun a ha => by have := h3 a ha; omega, h4.2.1⟩, fun a ha c hc => ?_⟩
      rcases List.mem_cons.1 hc with rfl | hc
      · have := h2 a ha; omega
      · exact h4.2.2 a ha c hc
    · have e1 : x ≠ nW w := fun q => hx (by rw [q, hb])
      simp [e1]
theorem find_mem (i b : Int) (l : List TWrite) (y : TWrite) (hs : Srt TWrite.Block l) (hl : l.length ≤ 1000) (hy : y ∈ l) : m_trans_Find ⟨i, b, l⟩ y.Block = some (y, true) := by
  rcases hs.split TWrite.Block y.Block with ⟨A, x, B, rfl, h1, h2, h3⟩ | ⟨A, B, rfl, h2, h3⟩
  · have : y = x := by
      rcases List.mem_append.1 hy with hy | hy
      · exact absurd (h2 y hy) (Int.lt_irrefl _)
      · rcases List.mem_cons.1 hy with hy | hy
        · exact hy
        · exact absurd (h3 y hy) (Int.lt_irrefl _)
    rw [find_hit i b A B x y.Block h1 h2 h3 hl, this]
  · rcases List.mem_append.1 hy with hy | hy
    · exact absurd (h2 y hy) (Int.lt_irrefl _)
    · exact absurd (h3 y hy) (Int.lt_irrefl _)
theorem find_no (i b k : Int) (l : List TWrite) (hs : Srt TWrite.Block l) (hl : l.length ≤ 1000) (hy : ∀ y ∈ l, y.Block ≠ k) : m_trans_Find ⟨i, b, l⟩ k = some (⟨0, false, Ar.zero 32⟩, false) := by
  rcases hs.split TWrite.Block k with ⟨A, x, B, rfl, h1, h2, h3⟩ | ⟨A, B, rfl, h2, h3⟩
  · exact absurd h1 (hy x (by simp))
  · exact find_miss i b A B k h2 h3 hl
theorem law_TransOverlay (x0 : List TWrite) (x1 : Int) (w0 : (∀ x ∈ x0, BWrite x) ∧ x0.length ≤ maxLen) (w1 : (Lit.int .i64 x1).wf = true) : m_law18_TransOverlay x0 x1 = some true := by
  unfold m_law18_TransOverlay
  simp only [jn_eq, let_eq, awake18, bnd_some, Bool.not_true, cond_false, cgt_eq]
  by_cases hl : 60 < ln x0
  · rw [decide_eq_true hl]; rfl
  rw [decide_eq_false hl, cond_false]
  have hl : x0.length ≤ 60 := by simp only [ln] at hl; omega
  refine bnd_rnd (fun r => r = some true) (fun s : Bool × Int × Int × Int × Int × Bool × (Ar 32) × (List TWrite) => (0 ≤ s.2.1 ∧ s.2.1 ≤ x0.length) ∧ Srt TWrite.Block s.2.2.2.2.2.2.2 ∧ (s.2.2.2.2.2.2.2.length : Int) ≤ s.2.1 ∧ (s.1 = true → s.2.2.2.2.1 = x1 ∧ nW ⟨s.2.2.2.2.1, s.2.2.2.2.2.1, s.2.2.2.2.2.2.1⟩ ∈ s.2.2.2.2.2.2.2) ∧ (s.1 = false → (s.2.2.2.2.1 = 0 ∧ s.2.2.2.2.2.1 = false ∧ s.2.2.2.2.2.2.1 = Ar.zero 32) ∧ ∀ y ∈ s.2.2.2.2.2.2.2, y.Block ≠ x1)) (fun s => (x0.length - s.2.1).toNat)
    (fun r : Bool × Int × Int × Int × Bool × (Ar 32) × (List TWrite) => Srt TWrite.Block r.2.2.2.2.2.2 ∧ r.2.2.2.2.2.2.length ≤ 60 ∧ (r.1 = true → r.2.2.2.1 = x1 ∧ nW ⟨r.2.2.2.1, r.2.2.2.2.1, r.2.2.2.2.2.1⟩ ∈ r.2.2.2.2.2.2) ∧ (r.1 = false → (r.2.2.2.1 = 0 ∧ r.2.2.2.2.1 = false ∧ r.2.2.2.2.2.1 = Ar.zero 32) ∧ ∀ y ∈ r.2.2.2.2.2.2, y.Block ≠ x1)) ?_ ?_ ?_ ?_
  · exact ⟨⟨by simp, by simp⟩, List.Pairwise.nil, by simp, by simp, by simp⟩
  · simp only; omega
  · rintro ⟨fd, i, id, bg, wb, wt, wd, W⟩ ⟨⟨k1, k2⟩, k3, k4, k5, k6⟩
    simp only at k1 k2 k3 k4 k5 k6 ⊢
    obtain ⟨j, rfl⟩ := Int.eq_ofNat_of_zero_le k1
    by_cases hj : j < x0.length
    · have e1 : (j : Int) < ln x0 := by simp only [ln]; omega
      obtain ⟨W', p1, p2, p3, p4, p5⟩ := put_all id bg W (x0[j]) k3 (by omega)
      simp only [let_eq, clt_eq, e1, decide_true, cond_true, get_at hj, bnd_some, p1, ceq_eq, cast1 j (by omega)]
      by_cases c1 : (x0[j]).Block = x1
      · rw [decide_eq_true c1, cond_true]
        refine rnd_l ⟨⟨by simp only; omega, by simp only; omega⟩, p2, by simp only; omega, fun _ => ⟨c1, p4⟩, fun q => by cases q⟩ (by simp only; omega)
      · rw [decide_eq_false c1, cond_false]
        refine rnd_l ⟨⟨by simp only; omega, by simp only; omega⟩, p2, by simp only; omega, fun q => ?_, fun q => ?_⟩ (by simp only; omega)
        · obtain ⟨q1, q2⟩ := k5 q
          refine ⟨q1, (p5 _ ?_).2 q2⟩
          rw [nW_block]
          show wb ≠ _
          rw [q1]; exact fun h => c1 h.symm
        · obtain ⟨q1, q2⟩ := k6 q
          refine ⟨q1, fun y hy hyx => ?_⟩
          by_cases hyw : y.Block = (x0[j]).Block
          · exact c1 (hyw ▸ hyx)
          · exact q2 y ((p5 y hyw).1 hy) hyx
    · have e1 : ¬ (j : Int) < ln x0 := by simp only [ln]; omega
      simp only [let_eq, clt_eq, e1, decide_false, cond_false]
      exact rnd_r ⟨k3, by simp only; omega, k5, k6⟩
  · rintro ⟨fd, id, bg, wb, wt, wd, W⟩ ⟨k3, k4, k5, k6⟩
    simp only at k3 k4 k5 k6 ⊢
    have hr := right18_true id bg W k3 k4
    cases fd with
    | true =>
      obtain ⟨rfl, q2⟩ := k5 rfl
      have hf := find_mem id bg W _ k3 (by omega) q2
      rw [nW_block] at hf
      simp only at hf
      cases wt <;> simp [hf, hr, nW]
    | false =>
      obtain ⟨⟨rfl, rfl, rfl⟩, q2⟩ := k6 rfl
      have hf := find_no id bg x1 W k3 (by omega) q2
      simp [hf, hr]
end Go.AX

namespace Go.AX
set_option autoImplicit false
set_option linter.unusedVariables false
set_option linter.unusedSimpArgs false
set_option maxRecDepth 4000
set_option maxHeartbeats 4000000

theorem rightAll_true (L : TLedger) (h : LOk L) : m_ref18_RightAll L = some true := by
  obtain ⟨n, l⟩ := L
  have h0 : l.length ≤ 16 := h.len
  have h1 : 0 ≤ n ∧ n ≤ 1099511627776 := h.next
  have h2 : Srt TTrans.Id l := h.srt
  have h3 : ∀ t ∈ l, (Srt TWrite.Block t.Writes ∧ t.Writes.length ≤ 60) ∧ 0 ≤ t.Id ∧ t.Id < n := h.each
  have k1 : ¬ 16 < ln l := by simp only [ln]; omega
  have k2 : ¬ n < 0 := by omega
  have k3 : ¬ 1099511627776 < n := by omega
  unfold m_ref18_RightAll
  simp only [jn_eq, let_eq, cgt_eq, clt_eq, k1, k2, k3, decide_false, cond_false]
  refine bnd_run (fun i => (i : Int)) l.length (.inl ()) (by omega) rfl (fun j hj => ?_) ?_ rfl
  · have e1 : (j : Int) < ln l := by simp only [ln]; omega
    obtain ⟨⟨p1, p2⟩, p3, p4⟩ := h3 _ (List.getElem_mem hj)
    have e2 : m_ref18_Right (l[j]) = some true := right18_true _ _ _ p1 p2
    have e3 : ¬ n ≤ (l[j]).Id := by omega
    have e4 : ¬ (l[j]).Id < 0 := by omega
    simp only [e1, decide_true, cond_true, get_at hj, bnd_some, e2, Bool.not_true, cond_false, cge_eq, e3, decide_false, e4]
    cases j with
    | zero => rfl
    | succ j =>
      have e5 : (0 : Int) < ((j + 1 : Nat) : Int) := by omega
      have e6 : isub ((j + 1 : Nat) : Int) 1 = (j : Int) := by rw [show isub ((j + 1 : Nat) : Int) 1 = ((j + 1 : Nat) : Int) - 1 from sub_ok (by omega)]; omega
      have e7 : at? l (j : Int) = some (l[j]) := get_at (by omega)
      have e8 : ¬ (l[j + 1]).Id ≤ (l[j]).Id := by
        have := (List.pairwise_iff_getElem.1 h2) j (j + 1) (by omega) hj (by omega)
        omega
      simp only [e5, decide_true, cond_true, e6, e7, bnd_some, e8, decide_false, cond_false, cast1 (j + 1) (by omega)]
  · simp only [ln, Int.lt_irrefl, decide_false, cond_false]
theorem dropLOk (L : TLedger) (k : Int) (h : LOk L) : ∃ L' c, m_trans_Drop L k = some (L', c) ∧ LOk L' ∧ L'.Next = L.Next := by
  have hb := h.bd
  obtain ⟨n, l⟩ := L
  rcases h.srt.split TTrans.Id k with ⟨A, x, B, e, h1, h2, h3⟩ | ⟨A, B, e, h2, h3⟩
  · replace e : l = A ++ x :: B := e
    subst e
    refine ⟨_, _, drop_hit n k A B x h1 h2 h3 hb, ⟨?_, h.next, ?_, fun t ht => ?_⟩, rfl⟩
    · have : (A ++ x :: B).length ≤ 16 := h.len
      simp at this ⊢; omega
    · exact List.Pairwise.sublist (List.Sublist.append_left (List.sublist_cons_self x B) A) h.srt
    · refine h.each t ?_
      rcases List.mem_append.1 ht with ht | ht <;> simp [ht]
  · replace e : l = A ++ B := e
    subst e
    exact ⟨_, _, drop_miss n k A B h2 h3 hb, h, rfl⟩
theorem law_TransHandles (x0 : List Int) (w0 : (∀ x ∈ x0, (Lit.int .u8 x).wf = true) ∧ x0.length ≤ maxLen) : m_law18_TransHandles x0 = some true := by
  unfold m_law18_TransHandles
  simp only [jn_eq, let_eq, awake18, bnd_some, Bool.not_true, cond_false, cgt_eq]
  by_cases hl : 80 < ln x0
  · rw [decide_eq_true hl]; rfl
  rw [decide_eq_false hl, cond_false]
  have hl : x0.length ≤ 80 := by simp only [ln] at hl; omega
  refine bnd_rnd (fun r => r = some true) (fun s : Int × Int × Int × List TTrans => (0 ≤ s.2.1 ∧ s.2.1 ≤ x0.length) ∧ LOk ⟨s.2.2.1, s.2.2.2⟩ ∧ s.1 < s.2.2.1 ∧ s.2.2.1 ≤ s.2.1) (fun s => (x0.length - s.2.1).toNat) (fun r : Sum Unit Unit => r = .inl ()) ?_ ?_ ?_ ?_
  · exact ⟨⟨by simp, by simp⟩, ⟨by simp, by simp, List.Pairwise.nil, by simp⟩, by simp, by simp⟩
  · simp only; omega
  · rintro ⟨last, i, n, l⟩ ⟨⟨k1, k2⟩, k3, k4, k5⟩
    simp only at k1 k2 k3 k4 k5 ⊢
    obtain ⟨j, rfl⟩ := Int.eq_ofNat_of_zero_le k1
    by_cases hj : j < x0.length
    · have e1 : (j : Int) < ln x0 := by simp only [ln]; omega
      -- from the ledger that is left on
      have rest : ∀ l2 : List TTrans, LOk ⟨n, l2⟩ → Rnd (fun s : Int × Int × Int × List TTrans => (0 ≤ s.2.1 ∧ s.2.1 ≤ x0.length) ∧ LOk ⟨s.2.2.1, s.2.2.2⟩ ∧ s.1 < s.2.2.1 ∧ s.2.2.1 ≤ s.2.1) (fun s => (x0.length - s.2.1).toNat) ((x0.length : Int) - (j : Int)).toNat (fun r : Sum Unit Unit => r = .inl ())
          (Bnd (m_trans_Begin ⟨n, l2⟩ (j : Int)) fun r37 => bif decide (r37.2.2 = 0) then (bif decide (r37.2.1 ≤ last) then (some (.inr (.inr ()))) else (bif decide (16 < ln r37.1.Open) then (some (.inr (.inr ()))) else (Bnd (m_ref18_RightAll r37.1) fun r52 => bif !r52 then (some (.inr (.inr ()))) else (some (.inl (r37.2.1, iadd (j : Int) 1, r37.1.Next, r37.1.Open)))))) else (bif decide (16 < ln r37.1.Open) then (some (.inr (.inr ()))) else (Bnd (m_ref18_RightAll r37.1) fun r52 => bif !r52 then (some (.inr (.inr ()))) else (some (.inl (last, iadd (j : Int) 1, r37.1.Next, r37.1.Open)))))) := by
        intro l2 h2
        have hl2 : l2.length ≤ 16 := h2.len
        have hn : 0 ≤ n ∧ n ≤ 1099511627776 := h2.next
        by_cases hf : 16 ≤ l2.length
        · have z : ¬ (13 : Int) = 0 := by decide
          have z2 : ¬ 16 < ln l2 := by simp only [ln]; omega
          simp only [begin_full n j l2 h2.bd hf, bnd_some, z, decide_false, cond_false, z2, rightAll_true _ h2, Bool.not_true, cast1 j (by omega)]
          exact rnd_l ⟨⟨by simp only; omega, by simp only; omega⟩, h2, k4, by simp only; omega⟩ (by simp only; omega)
        · have e2 : iadd n 1 = n + 1 := add_ok (by omega)
          have h3 : LOk ⟨n + 1, l2 ++ [⟨n, j, []⟩]⟩ := by
            refine ⟨by simp; omega, by have := h2.next; simp only at this ⊢; omega, ?_, fun t ht => ?_⟩
            · refine List.pairwise_append.2 ⟨h2.srt, by simp, fun a ha c hc => ?_⟩
              simp at hc; subst hc
              exact (h2.each a ha).2.2
            · rcases List.mem_append.1 ht with ht | ht
              · have := h2.each t ht
                simp only at this ⊢
                exact ⟨this.1, this.2.1, by omega⟩
              · simp at ht; subst ht
                have := h2.next
                simp only at this ⊢
                exact ⟨⟨List.Pairwise.nil, by simp⟩, by omega, by omega⟩
          have z1 : ¬ n ≤ last := by omega
          have z2 : ¬ 16 < ln (l2 ++ [(⟨n, j, []⟩ : TTrans)]) := by simp [ln]; omega
          simp only [begin_ok n j l2 h2.bd (by omega), bnd_some, decide_true, cond_true, z1, decide_false, cond_false, z2, e2, rightAll_true _ h3, Bool.not_true, cast1 j (by omega)]
          exact rnd_l ⟨⟨by simp only; omega, by simp only; omega⟩, h3, by simp only; omega, by simp only; omega⟩ (by simp only; omega)
      simp only [let_eq, clt_eq, e1, decide_true, cond_true, get_at hj, bnd_some, ceq_eq, cle_eq, show nz? 3 = some () from rfl]
      refine rnd_bif (fun _ => ?_) (fun _ => ?_)
      · obtain ⟨L', c, d1, d2, d3⟩ := dropLOk ⟨n, l⟩ (IntKind.wrap .i64 (binI .quo .u8 (x0[j]) 3)) k3
        obtain ⟨n', l'⟩ := L'
        simp only at d3
        subst d3
        rw [d1]
        exact rest l' d2
      · exact rest l k3
    · have e1 : ¬ (j : Int) < ln x0 := by simp only [ln]; omega
      simp only [let_eq, clt_eq, e1, decide_false, cond_false]
      exact rnd_r rfl
  · rintro r rfl
    rfl
end Go.AX
