/- Chapter 12: plain laws: rows of equal streams, zones, keep. -/
import Derived.Test.YtjpajfgdbmeiiaaP12
namespace Go.AX
set_option autoImplicit false
set_option linter.unusedVariables false
set_option linter.unusedSimpArgs false

theorem mul_one' : (List.range 4200).all (fun n => decide (m_math_bits_Mul 1 (n : Int) = some (0, (n : Int)))) = true := by kernel_rfl
theorem mul1 {n : Nat} (h : n ≤ 4199) : m_math_bits_Mul 1 (n : Int) = some (0, (n : Int)) := by
  have := List.all_eq_true.1 mul_one' n (List.mem_range.2 (by omega))
  simpa using this
theorem wrapN {n : Nat} (h : n ≤ 4199) : IntKind.wrap .u64 (n : Int) = n ∧ IntKind.wrap .i64 (n : Int) = n := by
  constructor
  · have e : (2 : Int) ^ IntKind.u64.bits = 18446744073709551616 := by decide
    unfold IntKind.wrap
    rw [e, Int.emod_eq_of_lt (by omega) (by omega)]
    simp [IntKind.signed]
  · rw [IntKind.wrap_i64]; omega

theorem slices_Repeat (v : Int) (n : Nat) (h : n ≤ 4199) : m_slices_Repeat [v] (n : Int) = some (List.replicate n v) := by
  unfold m_slices_Repeat
  have hw := wrapN h
  simp only [jn_eq, let_eq, clt_eq, cgt_eq, cond_dec]
  rw [if_neg (by omega), show IntKind.wrap .u64 (ln [v]) = 1 from rfl, hw.1, mul1 h]
  simp only [bnd_some]
  rw [if_neg (by decide), if_neg (by omega), hw.2, show mk? 8 (0 : Int) (n : Int) (n : Int) = some (List.replicate n 0) by unfold mk?; rw [if_pos (by omega)]; rfl]
  simp only [bnd_some]
  have hc : copyN (List.replicate n (0 : Int)).length [v] = ((min 1 n : Nat) : Int) := by simp [copyN]
  rw [hc]
  refine bnd_rnd (fun x => x = some (List.replicate n v)) (fun t : Int × List Int => ∃ k : Nat, t.1 = (k : Int) ∧ t.2.length = n ∧ k ≤ n ∧ (n ≠ 0 → 1 ≤ k) ∧ ∀ j, j < k → gt t.2 j = v) (fun t => ((n : Int) - t.1).toNat) (fun r => r = List.replicate n v) ?_ (by simp; omega) ?_ ?_
  · refine ⟨min 1 n, rfl, ?_, by omega, by omega, ?_⟩
    · rw [copyL_len (by simp)]; simp
    · intro j hj
      have h1 : j = 0 := by omega
      subst h1
      cases n with
      | zero => omega
      | succ n => simp [copyL, overL, gt]
  · rintro ⟨_, l⟩ ⟨k, rfl, hl, hk, hk1, hv⟩
    simp only at hl hv
    by_cases hlt : (k : Int) < (n : Int)
    · rw [if_pos (show (k : Int) < ln l by unfold ln; omega)]
      have hk1 := hk1 (by omega)
      have hf : from1? l (k : Int) = some (l.drop k) := by unfold from1? from?; rw [if_pos (by omega), if_pos (by omega)]; rfl
      rw [hf, upto_ok (by omega : k ≤ l.length)]
      simp only [bnd_some, List.length_drop, hl, Int.toNat_natCast]
      have hcn : copyN (n - k) (l.take k) = ((min k (n - k) : Nat) : Int) := by simp [copyN, hl]
      rw [hcn, show iadd (k : Int) ((min k (n - k) : Nat) : Int) = ((k + min k (n - k) : Nat) : Int) from add_ok (by omega)]
      refine rnd_l ⟨k + min k (n - k), rfl, ?_, by omega, by omega, ?_⟩ (by simp only; omega)
      · rw [copyL_len (by omega)]; exact hl
      · intro j hj
        show gt (copyL l k (n - k) (l.take k)) j = v
        have hm : (l.take k).take (min (l.take k).length (n - k)) = l.take (min k (n - k)) := by
          rw [List.length_take, hl, List.take_take]; congr 1; omega
        unfold copyL overL
        rw [hm]
        unfold gt
        rw [List.getD_eq_getElem?_getD]
        by_cases hjk : j < k
        · rw [List.getElem?_append_left (by simp; omega), List.getElem?_append_left (by simp; omega), List.getElem?_take, if_pos hjk]
          have := hv j hjk; unfold gt at this; rwa [List.getD_eq_getElem?_getD] at this
        · rw [List.getElem?_append_left (by simp; omega), List.getElem?_append_right (by simp; omega), List.length_take, List.getElem?_take, if_pos (by omega)]
          have := hv (j - k) (by omega); unfold gt at this; rw [List.getD_eq_getElem?_getD] at this
          rw [show min k l.length = k by omega]; exact this
    · rw [if_neg (show ¬ (k : Int) < ln l by unfold ln; omega)]
      refine rnd_r ?_
      have hkn : k = n := by omega
      subst hkn
      apply List.ext_getElem (by simp [hl])
      intro j h1 h2
      have h1 : j < l.length := h1
      have := hv j (by omega)
      rw [gt_eq h1] at this
      rw [this]; simp
  · rintro r rfl; rfl

theorem slices_Concat (a b : List Int) (h : a.length + b.length ≤ 10000) : m_slices_Concat [a, b] = some (a ++ b) := by
  unfold m_slices_Concat
  simp only [let_eq, show ln [a, b] = 2 from rfl]
  refine bnd_run (fun i => match i with | 0 => (0, 0) | 1 => ((a.length : Int), 1) | _ => ((a.length : Int) + b.length, 2)) 2 ((a.length : Int) + b.length) (by omega) rfl ?_ ?_ ?_
  · intro i hi
    match i, hi with
    | 0, _ =>
      simp only [clt_eq, cond_dec]
      rw [if_pos (by omega), show at? [a, b] 0 = some a from rfl]
      simp only [bnd_some, ln, show iadd 0 (a.length : Int) = a.length from (add_ok (by omega)).trans (by omega)]
      rw [if_neg (by omega)]; rfl
    | 1, _ =>
      simp only [clt_eq, cond_dec]
      rw [if_pos (by omega), show at? [a, b] 1 = some b from rfl]
      simp only [bnd_some, ln, show iadd (a.length : Int) (b.length : Int) = a.length + b.length from add_ok (by omega)]
      rw [if_neg (by omega)]; rfl
  · simp
  · rw [show grow0? 8 ((a.length : Int) + b.length) = some () by unfold grow0?; rw [if_pos (by omega)], bnd_some]
    refine bnd_run (fun i => match i with | 0 => (0, []) | 1 => (1, a) | _ => (2, a ++ b)) 2 (a ++ b) (by omega) rfl ?_ ?_ rfl
    · intro i hi
      match i, hi with
      | 0, _ =>
        simp only [clt_eq, cond_dec]
        rw [if_pos (by omega), show at? [a, b] 0 = some a from rfl]
        simp only [bnd_some]
        rw [app_ok (by simp; omega)]; rfl
      | 1, _ =>
        simp only [clt_eq, cond_dec]
        rw [if_pos (by omega), show at? [a, b] 1 = some b from rfl]
        simp only [bnd_some]
        rw [app_ok (by omega)]; rfl
    · simp

theorem fill_loop {β : Type} (v : Int) (n : Nat) (hn : n ≤ 5000) (l0 : List Int) (h0 : l0.length ≤ 5000) (N : Int) (hN : N = n) (k : List Int → Option β) :
    Bnd (loop (σ := Int × (List Int)) (ρ := ((List Int))) (fun s20 => Let (clt s20.1 N) fun b25 => bif b25 then (Bnd (app? 8 s20.2 [v]) fun l27 => Let (iadd s20.1 1) fun v31 => some (.inl (v31, l27))) else (some (.inr (s20.2)))) (0, l0)) k = k (l0 ++ List.replicate n v) := by
  subst hN
  refine bnd_run (fun i => ((i : Int), l0 ++ List.replicate i v)) n (l0 ++ List.replicate n v) (by omega) (by simp) ?_ ?_ rfl
  · intro i hi
    simp only [let_eq, clt_eq, cond_dec]
    rw [if_pos (by omega), app_ok (by simp; omega)]
    simp only [bnd_some, show iadd (i : Int) 1 = i + 1 from add_ok (by omega), List.append_assoc]
    rw [← List.replicate_succ']; rfl
  · simp

theorem ref12_some (a b : Int) (n m : Nat) (hn : n ≤ 5000) (hm : m ≤ 5000) : m_ref12_some a n b m = some (List.replicate n a ++ List.replicate m b) := by
  unfold m_ref12_some
  rw [fill_loop a n hn [] (by simp) _ rfl]
  rw [fill_loop b m hm _ (by simpa using hn) _ rfl]
  rfl
end Go.AX
