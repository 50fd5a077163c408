/- Chapter 14: those that follow one another. Chapter 14: the reference's chain; chains of chains. Chapter 14: awake. Chapter 14: awake. Chapter 14: the laws of chains. Chapter 14: scan.All on a device that is down; the law of all. A device whose power goes: the wreck, and waking. Chapter 14: what a crash leaves of the records laid. Chapter 14: the device behind a crash. Chapter 14: the law of the prefix. Chapter 14: the law of the prefix, put together. -/
import Derived.Test.YtgphlcbjgcogkaaDd
import Derived.Test.YtgphlcbjgcogkaaCc
namespace Go.AX
set_option autoImplicit false
set_option linter.unusedVariables false
set_option linter.unusedSimpArgs false
set_option maxRecDepth 4000
set_option maxHeartbeats 4000000

def chain : List TFound → Int → List TFound
  | [], _ => []
  | y :: t, q => if y.Rec.Seq = q + 1 then y :: chain t (q + 1) else chain t q
theorem chain_cons (y : TFound) (t : List TFound) (q : Int) : chain (y :: t) q = if y.Rec.Seq = q + 1 then y :: chain t (q + 1) else chain t q := rfl
theorem chain_skip (A B : List TFound) (q : Int) (h : ∀ y ∈ A, y.Rec.Seq ≠ q + 1) : chain (A ++ B) q = chain B q := by
  induction A with
  | nil => rfl
  | cons y t ih =>
    have h1 := h y (by simp)
    show (if y.Rec.Seq = q + 1 then _ else chain (t ++ B) q) = _
    rw [if_neg h1]
    exact ih (fun z hz => h z (by simp [hz]))
theorem chain_len (l : List TFound) : ∀ q, (chain l q).length ≤ l.length := by
  induction l with
  | nil => intro q; simp [chain]
  | cons y t ih =>
    intro q
    unfold chain
    split
    · have := ih (q + 1); simp; omega
    · have := ih q; simp; omega
theorem get14 {l : List TFound} {j : Nat} (hj : j < l.length) : at? l (j : Int) = some (l[j]) := by rw [at?_nat, List.getElem?_eq_getElem hj]
theorem inc14 (j : Nat) (h : j < 1099511627776) : iadd (j : Int) 1 = (j : Int) + 1 := add_ok (by omega)
theorem scanChain (l : List TFound) (q0 : Int) (hl : l.length ≤ 1000000) (hq : 0 ≤ q0 ∧ q0 ≤ 1099511627776) : m_scan_Chain l q0 = some (chain l q0) := by
  unfold m_scan_Chain
  simp only [let_eq, jn_eq]
  obtain ⟨r, h1, h2⟩ := loop_inv (σ := Int × Int × (List TFound)) (ρ := ((List TFound))) (s0 := (q0, 0, ([] : List TFound))) (step := fun s22 => bif clt s22.2.1 (ln l) then (Bnd (at? l s22.2.1) fun y29 => bif ceq y29.Rec.Seq (iadd s22.1 1) then (Bnd (app? 80 s22.2.2 [y29]) fun l45 => some (.inl (iadd s22.1 1, iadd s22.2.1 1, l45))) else (some (.inl (s22.1, iadd s22.2.1 1, s22.2.2)))) else (some (.inr (s22.2.2))))
    (fun s => (0 ≤ s.2.1 ∧ s.2.1 ≤ l.length) ∧ s.1 = q0 + s.2.2.length ∧ (s.2.2.length : Int) ≤ s.2.1 ∧ s.2.2 ++ chain (l.drop s.2.1.toNat) s.1 = chain l q0) (fun s => (l.length - s.2.1).toNat) (fun r => r = chain l q0)
    ⟨⟨by simp, by simp⟩, by simp, by simp, by simp⟩ (by simp only; omega) (by
      rintro ⟨q, i, o⟩ ⟨⟨k1, k2⟩, k3, k4, k5⟩
      simp only at k1 k2 k3 k4 k5
      obtain ⟨j, rfl⟩ := Int.eq_ofNat_of_zero_le k1
      simp only [Int.toNat_natCast] at k5
      by_cases hj : j < l.length
      · left
        have e1 : (j : Int) < ln l := by simp only [ln]; omega
        have e2 : iadd q 1 = q + 1 := add_ok (by omega)
        have e3 : app? 80 o [l[j]] = some (o ++ [l[j]]) := app_ok (by simp; omega)
        have e4 : l.drop j = l[j] :: l.drop (j + 1) := List.drop_eq_getElem_cons hj
        simp only [clt_eq, e1, decide_true, cond_true, get14 hj, bnd_some, e2, ceq_eq, inc14 j (by omega)]
        rw [e4, chain_cons] at k5
        by_cases c1 : (l[j]).Rec.Seq = q + 1
        · rw [decide_eq_true c1, cond_true, e3]
          rw [if_pos c1] at k5
          refine ⟨_, rfl, ⟨⟨by simp only; omega, by simp only; omega⟩, by simp only [List.length_append, List.length_singleton]; omega, by simp only [List.length_append, List.length_singleton]; omega, ?_⟩, by simp only; omega⟩
          show (o ++ [l[j]]) ++ chain (l.drop ((j : Int) + 1).toNat) (q + 1) = _
          rw [show ((j : Int) + 1).toNat = j + 1 by omega, List.append_assoc]
          exact k5
        · rw [decide_eq_false c1, cond_false]
          rw [if_neg c1] at k5
          refine ⟨_, rfl, ⟨⟨by simp only; omega, by simp only; omega⟩, k3, by simp only; omega, ?_⟩, by simp only; omega⟩
          show o ++ chain (l.drop ((j : Int) + 1).toNat) q = _
          rw [show ((j : Int) + 1).toNat = j + 1 by omega]
          exact k5
      · right
        have e1 : ¬ (j : Int) < ln l := by simp only [ln]; omega
        refine ⟨o, by simp only [clt_eq, e1, decide_false, cond_false], ?_⟩
        rw [List.drop_of_length_le (by omega)] at k5
        simpa [chain] using k5)
  rw [h1, h2]; rfl
theorem scanLast (l : List TFound) (q0 : Int) (hl : l.length ≤ 1000000) (hq : 0 ≤ q0 ∧ q0 ≤ 1099511627776) : m_scan_Last l q0 = some (q0 + (chain l q0).length) := by
  have := chain_len l q0
  unfold m_scan_Last
  rw [scanChain l q0 hl hq]
  simp only [bnd_some, let_eq, jn_eq]
  rw [show iadd q0 (ln (chain l q0)) = q0 + (chain l q0).length from add_ok (by simp only [ln]; omega)]
theorem same14 (l : List TFound) (hl : l.length ≤ 1000000) : m_ref14_Same l l = some true := by
  unfold m_ref14_Same
  simp only [let_eq, jn_eq, cne_eq, ne_eq, not_true, decide_false, cond_false]
  refine bnd_run (fun i => (i : Int)) l.length (.inl ()) (by omega) rfl (fun j hj => ?_) ?_ rfl
  · have e1 : (j : Int) < ln l := by simp only [ln]; omega
    simp only [clt_eq, e1, decide_true, cond_true, get14 hj, bnd_some, beq_self_eq_true, Bool.and_true, Bool.not_true, cond_false]
    rw [show iadd (j : Int) 1 = ((j + 1 : Nat) : Int) by rw [inc14 j (by omega)]; rfl]
  · simp only [clt_eq, ln, Int.lt_irrefl, decide_false, cond_false]
/-- The reference's: the first one behind a place. -/
theorem inner14 (l : List TFound) (f : Nat) (s : Int) (hl : l.length ≤ 1000000) (hf : f ≤ l.length) (hs : -1000 ≤ s ∧ s ≤ 2199023255552) :
    ∃ r : Int, loop (σ := Int × Int) (ρ := Int) (fun s38 => bif cge s38.2 (f : Int) then (Bnd (at? l s38.2) fun y41 => bif ceq y41.Rec.Seq s then (some (.inl (s38.2, isub s38.2 1))) else (some (.inl (s38.1, isub s38.2 1)))) else (some (.inr (s38.1)))) (-1, isub (ln l) 1) = some r ∧
      ((r = -1 ∧ ∀ j (hj : j < l.length), f ≤ j → (l[j]).Rec.Seq ≠ s) ∨ ∃ (j : Nat) (hj : j < l.length), r = j ∧ f ≤ j ∧ (l[j]).Rec.Seq = s ∧ ∀ i (hi : i < l.length), f ≤ i → i < j → (l[i]).Rec.Seq ≠ s) := by
  have e0 : isub (ln l) 1 = (l.length : Int) - 1 := sub_ok (by simp only [ln]; omega)
  rw [e0]
  refine loop_inv (σ := Int × Int) (ρ := Int) (s0 := (-1, (l.length : Int) - 1)) (step := fun s38 => bif cge s38.2 (f : Int) then (Bnd (at? l s38.2) fun y41 => bif ceq y41.Rec.Seq s then (some (.inl (s38.2, isub s38.2 1))) else (some (.inl (s38.1, isub s38.2 1)))) else (some (.inr (s38.1))))
    (fun t => ((f : Int) - 1 ≤ t.2 ∧ t.2 < l.length) ∧ ((t.1 = -1 ∧ ∀ j (hj : j < l.length), t.2 < (j : Int) → (l[j]).Rec.Seq ≠ s) ∨ ∃ (j : Nat) (hj : j < l.length), t.1 = j ∧ t.2 < (j : Int) ∧ (l[j]).Rec.Seq = s ∧ ∀ i (hi : i < l.length), t.2 < (i : Int) → i < j → (l[i]).Rec.Seq ≠ s))
    (fun t => (t.2 + 1).toNat) _ ⟨⟨by simp only; omega, by simp only; omega⟩, .inl ⟨rfl, fun j hj h => by simp only at h; omega⟩⟩ (by simp only; omega) ?_
  rintro ⟨a, i⟩ ⟨⟨k1, k2⟩, k3⟩
  simp only at k1 k2 k3
  by_cases hi : (f : Int) ≤ i
  · left
    obtain ⟨m, rfl⟩ := Int.eq_ofNat_of_zero_le (show 0 ≤ i by omega)
    have hm : m < l.length := by omega
    have e1 : isub (m : Int) 1 = (m : Int) - 1 := sub_ok (by omega)
    simp only [cge_eq, hi, decide_true, cond_true, get14 hm, bnd_some, ceq_eq, e1]
    by_cases c1 : (l[m]).Rec.Seq = s
    · rw [decide_eq_true c1, cond_true]
      refine ⟨_, rfl, ⟨⟨by simp only; omega, by simp only; omega⟩, .inr ⟨m, hm, rfl, by simp only; omega, c1, fun q hq h1 h2 => by simp only at h1; omega⟩⟩, by simp only; omega⟩
    · rw [decide_eq_false c1, cond_false]
      refine ⟨_, rfl, ⟨⟨by simp only; omega, by simp only; omega⟩, ?_⟩, by simp only; omega⟩
      rcases k3 with ⟨h1, h2⟩ | ⟨j, hj, h1, h2, h3, h4⟩
      · refine .inl ⟨h1, fun j hj hjm => ?_⟩
        simp only at hjm
        by_cases e : j = m
        · subst e; exact c1
        · exact h2 j hj (by omega)
      · refine .inr ⟨j, hj, h1, by simp only; omega, h3, fun q hq hqm hqj => ?_⟩
        simp only at hqm
        by_cases e : q = m
        · subst e; exact c1
        · exact h4 q hq (by omega) hqj
  · right
    refine ⟨a, by simp only [cge_eq, hi, decide_false, cond_false], ?_⟩
    rcases k3 with ⟨h1, h2⟩ | ⟨j, hj, h1, h2, h3, h4⟩
    · exact .inl ⟨h1, fun j hj hjf => h2 j hj (by omega)⟩
    · by_cases hfj : f ≤ j
      · exact .inr ⟨j, hj, h1, hfj, h3, fun q hq hqf hqj => h4 q hq (by omega) hqj⟩
      · omega
end Go.AX

namespace Go.AX
set_option autoImplicit false
set_option linter.unusedVariables false
set_option linter.unusedSimpArgs false
set_option maxRecDepth 4000
set_option maxHeartbeats 4000000

theorem chain_none (l : List TFound) (f : Nat) (q : Int) (h : ∀ j (hj : j < l.length), f ≤ j → (l[j]).Rec.Seq ≠ q + 1) : chain (l.drop f) q = [] := by
  have := chain_skip (l.drop f) [] q (fun y hy => by
    obtain ⟨i, hi, rfl⟩ := List.getElem_of_mem hy
    rw [List.getElem_drop]
    exact h (f + i) (by rw [List.length_drop] at hi; omega) (by omega))
  rw [List.append_nil] at this
  rw [this]; rfl
theorem chain_first (l : List TFound) (f j : Nat) (q : Int) (hj : j < l.length) (hf : f ≤ j) (hs : (l[j]).Rec.Seq = q + 1) (h : ∀ i (hi : i < l.length), f ≤ i → i < j → (l[i]).Rec.Seq ≠ q + 1) : chain (l.drop f) q = l[j] :: chain (l.drop (j + 1)) (q + 1) := by
  have e : l.drop f = (l.drop f).take (j - f) ++ l[j] :: l.drop (j + 1) := by
    have h1 := List.take_append_drop (j - f) (l.drop f)
    rw [List.drop_drop, show f + (j - f) = j by omega, List.drop_eq_getElem_cons hj] at h1
    exact h1.symm
  rw [e, chain_skip _ _ q (fun y hy => ?_), chain_cons, if_pos hs]
  obtain ⟨i, hi, rfl⟩ := List.getElem_of_mem hy
  rw [List.length_take, List.length_drop] at hi
  rw [List.getElem_take, List.getElem_drop]
  exact h (f + i) (by omega) (by omega) (by omega)
theorem refChain (l : List TFound) (q0 : Int) (hl : l.length ≤ 1000000) (hq : 0 ≤ q0 ∧ q0 ≤ 1099511627776) : m_ref14_Chain l q0 = some (chain l q0) := by
  unfold m_ref14_Chain
  simp only [let_eq, jn_eq]
  obtain ⟨r, h1, h2⟩ := loop_inv (σ := Int × (List TFound)) (ρ := ((List TFound))) (s0 := (0, ([] : List TFound))) (step := fun s21 => Bnd (loop (σ := Int × Int) (ρ := Int) (fun s38 => bif cge s38.2 s21.1 then (Bnd (at? l s38.2) fun y41 => bif ceq y41.Rec.Seq (iadd (iadd q0 1) (ln s21.2)) then (some (.inl (s38.2, isub s38.2 1))) else (some (.inl (s38.1, isub s38.2 1)))) else (some (.inr (s38.1)))) (-1, isub (ln l) 1)) fun q28 => bif clt q28 0 then (some (.inr (s21.2))) else (Bnd (at? l q28) fun y42 => Bnd (app? 80 s21.2 [y42]) fun l56 => some (.inl (iadd q28 1, l56))))
    (fun s => (0 ≤ s.1 ∧ s.1 ≤ l.length) ∧ (s.2.length : Int) ≤ s.1 ∧ s.2 ++ chain (l.drop s.1.toNat) (q0 + s.2.length) = chain l q0) (fun s => (l.length - s.1).toNat) (fun r => r = chain l q0)
    ⟨⟨by simp, by simp⟩, by simp, by simp⟩ (by simp only; omega) (by
      rintro ⟨i, o⟩ ⟨⟨k1, k2⟩, k4, k5⟩
      simp only at k1 k2 k4 k5
      obtain ⟨f, rfl⟩ := Int.eq_ofNat_of_zero_le k1
      simp only [Int.toNat_natCast] at k5
      have e1 : iadd q0 1 = q0 + 1 := add_ok (by omega)
      have e2 : iadd (q0 + 1) (ln o) = q0 + 1 + o.length := add_ok (by simp only [ln]; omega)
      obtain ⟨r, hr, hc⟩ := inner14 l f (q0 + 1 + o.length) hl (by omega) (by omega)
      simp only [e1, e2, hr, bnd_some]
      rcases hc with ⟨rfl, hn⟩ | ⟨j, hj, rfl, hfj, hs, hb⟩
      · right
        refine ⟨o, rfl, ?_⟩
        rw [chain_none l f _ (fun j hj hfj => by rw [show q0 + (o.length : Int) + 1 = q0 + 1 + o.length by omega]; exact hn j hj hfj)] at k5
        simpa using k5
      · left
        have e3 : ¬ (j : Int) < 0 := by omega
        have e4 : app? 80 o [l[j]] = some (o ++ [l[j]]) := app_ok (by simp; omega)
        simp only [clt_eq, e3, decide_false, cond_false, get14 hj, bnd_some, e4, inc14 j (by omega)]
        rw [chain_first l f j _ hj hfj (by omega) (fun i hi hfi hij => by rw [show q0 + (o.length : Int) + 1 = q0 + 1 + o.length by omega]; exact hb i hi hfi hij)] at k5
        refine ⟨_, rfl, ⟨⟨by simp only; omega, by simp only; omega⟩, by simp only [List.length_append, List.length_singleton]; omega, ?_⟩, by simp only; omega⟩
        show (o ++ [l[j]]) ++ chain (l.drop ((j : Int) + 1).toNat) (q0 + ((o ++ [l[j]]).length : Nat)) = _
        rw [show ((j : Int) + 1).toNat = j + 1 by omega, List.append_assoc, List.length_append, List.length_singleton, show q0 + ((o.length + 1 : Nat) : Int) = q0 + o.length + 1 by omega]
        exact k5)
  rw [h1, h2]; rfl
theorem chain_chain (l : List TFound) : ∀ q, chain (chain l q) q = chain l q := by
  induction l with
  | nil => intro q; rfl
  | cons y t ih =>
    intro q
    rw [chain_cons]
    by_cases h : y.Rec.Seq = q + 1
    · rw [if_pos h, chain_cons, if_pos h, ih]
    · rw [if_neg h, ih]
theorem chain_at (l : List TFound) : ∀ (q : Int) (i : Nat) (hi : i < (chain l q).length), ((chain l q)[i]).Rec.Seq = q + 1 + i := by
  induction l with
  | nil => intro q i hi; simp [chain] at hi
  | cons y t ih =>
    intro q i hi
    by_cases h : y.Rec.Seq = q + 1
    · have e : chain (y :: t) q = y :: chain t (q + 1) := by rw [chain_cons, if_pos h]
      cases i with
      | zero => simp only [e, List.getElem_cons_zero]; omega
      | succ i =>
        simp only [e, List.length_cons] at hi
        simp only [e, List.getElem_cons_succ]
        rw [ih (q + 1) i (by omega)]; omega
    · have e : chain (y :: t) q = chain t q := by rw [chain_cons, if_neg h]
      simp only [e] at hi ⊢
      exact ih q i hi
theorem chain_over (l : List TFound) (q : Int) : chain (chain l q) (q + (chain l q).length) = [] := by
  have := chain_none (chain l q) 0 (q + (chain l q).length) (fun j hj _ => by rw [chain_at l q j hj]; omega)
  simpa using this
end Go.AX

namespace Go.AX
set_option autoImplicit false
set_option linter.unusedVariables false
set_option linter.unusedSimpArgs false
set_option maxRecDepth 8000
set_option maxHeartbeats 4000000

def pageS (r : TRec) : Ar 64 := ⟨full (bodyX r), full_len _ (by rw [bodyX_len]; decide)⟩
theorem pageS_read (k e q b c : Nat) (d : Ar 32) (hk : k < 256) (h : rightR ⟨k, e, q, b, c, d⟩ = true) : readR (pageS ⟨k, e, q, b, c, d⟩) = (⟨k, e, q, b, c, d⟩, 0) := by
  have h' := h
  unfold rightR at h'
  simp only [Bool.and_eq_true, Bool.or_eq_true, decide_eq_true_eq] at h'
  refine readR_full _ k e q b c d ?_ h
  show full (bodyX _) = _
  rw [bodyX_nat k e q b c d hk (by omega) (by omega) (by omega) (by omega)]
/-- Laid as pages. -/
def layL (g : TGeom) (l : List (Int × Ar 64)) : Dv := l.foldl (fun p s => (devW p ⟨g.Conv + s.1 % g.Seq, (zat p.zones (g.Conv + s.1 % g.Seq)).Point⟩ s.2).2) (newD g)
theorem layAll_L (g : TGeom) (l : List TRef14_Step) : layAll g l = layL g (l.map fun s => (s.Zone, if s.Junk = true then Ar.zero 64 else pageS s.Rec)) := by
  unfold layAll layL
  rw [List.foldl_map]
  rfl
def put14 (e q : Nat) : TRec := ⟨(2 : Nat), e, q, (1 : Nat), (0 : Nat), Ar.zero 32⟩
theorem put14_eq (e q : Nat) : m_law14_put (e : Int) (q : Int) = some (put14 e q) := rfl
theorem put14_right {e q : Nat} (he : 1 ≤ e ∧ e ≤ 1000) (hq : 1 ≤ q ∧ q ≤ 1000000) : rightR (put14 e q) = true := by
  unfold rightR put14
  simp only [Bool.and_eq_true, Bool.or_eq_true, decide_eq_true_eq]
  exact ⟨⟨by omega, by omega, by omega, by omega⟩, .inl (.inr ⟨rfl, by decide, by decide, rfl, trivial⟩)⟩
theorem put14_read {e q : Nat} (he : 1 ≤ e ∧ e ≤ 1000) (hq : 1 ≤ q ∧ q ≤ 1000000) : readR (pageS (put14 e q)) = (put14 e q, 0) :=
  pageS_read 2 e q 1 0 _ (by decide) (put14_right he hq)
def g14 : TGeom := ⟨2, 8, 6, 8, 3⟩
def l14 : List TRef14_Step := [⟨1, put14 2 5, false⟩, ⟨0, put14 2 6, false⟩, ⟨1, put14 2 8, false⟩, ⟨1, put14 1 9, false⟩]
theorem g14_geo : Geo g14 := ⟨by decide, by decide, by decide, by decide⟩
theorem l14_b : ∀ s ∈ l14, BRef14_Step s := by
  intro s hs
  have hz : ∀ x ∈ (Ar.zero 32).l, (Lit.int .u8 x).wf = true := fun x hx => by rw [(List.mem_replicate.1 hx).2]; rfl
  simp only [l14, List.mem_cons, List.not_mem_nil, or_false] at hs
  rcases hs with rfl | rfl | rfl | rfl <;> exact ⟨rfl, ⟨rfl, rfl, rfl, rfl, rfl, hz⟩, trivial⟩
theorem lay_DI {g : TGeom} (hg : Geo g) {l : List TRef14_Step} (hb : ∀ s ∈ l, BRef14_Step s) : DI (layAll g l) ∧ (layAll g l).g = g := by
  obtain ⟨h1, h2, _⟩ := lay_inv g hg l (newD g) hb (DI.new g hg) rfl
  exact ⟨h1, h2⟩
theorem fz_none {p : Dv} {ep sq : Int} {z : Nat} (h : pt p z = 0) : fz p ep sq z (pt p z) = [] := by rw [h]; rfl
def f14 : List TFound := [⟨1, put14 2 6⟩, ⟨9, put14 2 5⟩, ⟨10, put14 2 8⟩]
theorem lay14_found : fA (layAll g14 l14) 2 4 8 = f14 ∧ (layAll g14 l14).zones.length = 8 := by
  have e : layAll g14 l14 = layL g14 [(1, pageS (put14 2 5)), (0, pageS (put14 2 6)), (1, pageS (put14 2 8)), (1, pageS (put14 1 9))] := layAll_L _ _
  have r1 := put14_read (e := 2) (q := 5) (by decide) (by decide)
  have r2 := put14_read (e := 2) (q := 6) (by decide) (by decide)
  have r3 := put14_read (e := 2) (q := 8) (by decide) (by decide)
  have r4 := put14_read (e := 1) (q := 9) (by decide) (by decide)
  rw [e]
  generalize pageS (put14 2 5) = p1 at *
  generalize pageS (put14 2 6) = p2 at *
  generalize pageS (put14 2 8) = p3 at *
  generalize pageS (put14 1 9) = p4 at *
  clear e
  have hD : layL g14 [(1, p1), (0, p2), (1, p3), (1, p4)] = ⟨g14, [⟨4, 0⟩, ⟨4, 0⟩, ⟨1, 1⟩, ⟨1, 3⟩, ⟨0, 0⟩, ⟨0, 0⟩, ⟨0, 0⟩, ⟨0, 0⟩], [], [], [(⟨3, 0⟩, p1), (⟨2, 0⟩, p2), (⟨3, 1⟩, p3), (⟨3, 2⟩, p4)], [⟨⟨3, 0⟩, p1⟩, ⟨⟨2, 0⟩, p2⟩, ⟨⟨3, 1⟩, p3⟩, ⟨⟨3, 2⟩, p4⟩], -1, false, 0⟩ := by kernel_rfl
  rw [hD]
  refine ⟨?_, rfl⟩
  rw [fA_succ, fA_succ, fA_succ, fA_succ, fA_succ, fA_succ, fA_succ, fA_succ]
  rw [fz_none (z := 0) rfl, fz_none (z := 1) rfl, fz_none (z := 4) rfl, fz_none (z := 5) rfl, fz_none (z := 6) rfl, fz_none (z := 7) rfl]
  generalize hX : (⟨g14, [⟨4, 0⟩, ⟨4, 0⟩, ⟨1, 1⟩, ⟨1, 3⟩, ⟨0, 0⟩, ⟨0, 0⟩, ⟨0, 0⟩, ⟨0, 0⟩], [], [], [(⟨3, 0⟩, p1), (⟨2, 0⟩, p2), (⟨3, 1⟩, p3), (⟨3, 2⟩, p4)], [⟨⟨3, 0⟩, p1⟩, ⟨⟨2, 0⟩, p2⟩, ⟨⟨3, 1⟩, p3⟩, ⟨⟨3, 2⟩, p4⟩], -1, false, 0⟩ : Dv) = X
  have q2 : pt X 2 = 1 := by rw [← hX]; rfl
  have q3 : pt X 3 = 3 := by rw [← hX]; rfl
  have g : X.g = g14 := by rw [← hX]
  have a1 : pageAt X ⟨((3 : Nat) : Int), ((0 : Nat) : Int)⟩ = p1 := by rw [← hX]; rfl
  have a2 : pageAt X ⟨((2 : Nat) : Int), ((0 : Nat) : Int)⟩ = p2 := by rw [← hX]; rfl
  have a3 : pageAt X ⟨((3 : Nat) : Int), ((1 : Nat) : Int)⟩ = p3 := by rw [← hX]; rfl
  have a4 : pageAt X ⟨((3 : Nat) : Int), ((2 : Nat) : Int)⟩ = p4 := by rw [← hX]; rfl
  have h2 : fz X 2 4 2 (pt X 2) = [⟨1, put14 2 6⟩] := by
    rw [q2, fz_succ]
    have : fnd X 2 4 2 0 = some ⟨1, put14 2 6⟩ := by
      unfold fnd
      rw [a2, r2, g, if_pos (by decide)]; rfl
    rw [this]; rfl
  have h3 : fz X 2 4 3 (pt X 3) = [⟨9, put14 2 5⟩, ⟨10, put14 2 8⟩] := by
    rw [q3, fz_succ, fz_succ, fz_succ]
    have f1 : fnd X 2 4 3 0 = some ⟨9, put14 2 5⟩ := by
      unfold fnd
      rw [a1, r1, g, if_pos (by decide)]; rfl
    have f2 : fnd X 2 4 3 1 = some ⟨10, put14 2 8⟩ := by
      unfold fnd
      rw [a3, r3, g, if_pos (by decide)]; rfl
    have f3 : fnd X 2 4 3 2 = none := by
      unfold fnd
      rw [a4, r4, if_neg (by decide)]
    rw [f1, f2, f3]; rfl
  rw [h2, h3]
  rfl
end Go.AX

namespace Go.AX
set_option autoImplicit false
set_option linter.unusedVariables false
set_option linter.unusedSimpArgs false
set_option maxRecDepth 8000
set_option maxHeartbeats 400000

def f14s : List TFound := [⟨9, put14 2 5⟩, ⟨1, put14 2 6⟩, ⟨10, put14 2 8⟩]
theorem isort14 : isort f14 = f14s := rfl
theorem chain14 : chain f14s 4 = [⟨9, put14 2 5⟩, ⟨1, put14 2 6⟩] := rfl
theorem chain14b : chain f14s 6 = [] := rfl
theorem awake14 : m_law14_awake = some true := by
  obtain ⟨h1, h2⟩ := lay_DI g14_geo l14_b
  obtain ⟨h3, h4⟩ := lay14_found
  have e1 := ref14Lay g14 g14_geo l14 l14_b (by decide)
  have e2 := scanAll h1 g14 h2.symm 2 4
  rw [sortF_isort (fA_rise h1 2 4 _), h4, h3, isort14] at e2
  have c1 := scanChain f14s 4 (by decide) (by decide)
  have c2 := scanLast f14s 4 (by decide) (by decide)
  have c3 := scanLast f14s 6 (by decide) (by decide)
  rw [chain14] at c1 c2
  rw [chain14b] at c3
  generalize layAll g14 l14 = L at *
  have p1 : m_law14_put 2 5 = _ := put14_eq 2 5
  have p2 : m_law14_put 2 6 = _ := put14_eq 2 6
  have p3 : m_law14_put 2 8 = _ := put14_eq 2 8
  have p4 : m_law14_put 1 9 = _ := put14_eq 1 9
  unfold m_law14_awake
  rw [let_eq, p1, bnd_some, p2, bnd_some, p3, bnd_some, p4, bnd_some]
  show Bnd (m_ref14_Lay g14 l14) _ = _
  rw [e1, bnd_some]
  show Bnd (m_scan_All g14 2 4 L) _ = _
  rw [e2, bnd_some]
  clear e1 e2 h1 h2 h3 h4 p1 p2 p3 p4
  have q0 : at? f14s 0 = some ⟨9, put14 2 5⟩ := rfl
  have q1 : at? f14s 1 = some ⟨1, put14 2 6⟩ := rfl
  have q2 : at? f14s 2 = some ⟨10, put14 2 8⟩ := rfl
  have l1 : ln f14s = 3 := rfl
  simp only [let_eq, l1, q0, q1, q2, bnd_some, c1, c2, c3]
  rfl
end Go.AX

namespace Go.AX
set_option autoImplicit false
set_option linter.unusedVariables false
set_option linter.unusedSimpArgs false
set_option maxRecDepth 4000
set_option maxHeartbeats 4000000

theorem law_ScanChains (l : List TFound) (q : Int) (wl : (∀ x ∈ l, BFound x) ∧ l.length ≤ maxLen) (wq : (Lit.int .i64 q).wf = true) : m_law14_ScanChains l q = some true := by
  have hq := wf_i64 wq
  unfold m_law14_ScanChains
  simp only [jn_eq, let_eq, awake14, bnd_some, Bool.not_true, cond_false, cgt_eq, clt_eq, cond_true, ln]
  by_cases h1 : (60 : Int) < l.length
  · simp [h1]
  by_cases h2 : q < 0
  · simp [h1, h2]
  by_cases h3 : 1099511627776 < q
  · simp [h1, h2, h3]
  have hl : l.length ≤ 1000000 := by omega
  have hq2 : 0 ≤ q ∧ q ≤ 1099511627776 := by omega
  have hc := chain_len l q
  simp only [h1, h2, h3, decide_false, cond_false, refChain l q hl hq2, scanChain l q hl hq2, bnd_some, same14 (chain l q) (by omega), cond_true, scanLast l q hl hq2]
  rw [show iadd q ((chain l q).length : Int) = q + (chain l q).length from add_ok (by omega)]
  simp
theorem law_ScanTwice (l : List TFound) (q : Int) (wl : (∀ x ∈ l, BFound x) ∧ l.length ≤ maxLen) (wq : (Lit.int .i64 q).wf = true) : m_law14_ScanTwice l q = some true := by
  have hq := wf_i64 wq
  unfold m_law14_ScanTwice
  simp only [jn_eq, let_eq, awake14, bnd_some, Bool.not_true, cond_false, cgt_eq, clt_eq, cond_true]
  by_cases h1 : (60 : Int) < ln l
  · simp [h1]
  by_cases h2 : q < 0
  · simp [h1, h2]
  by_cases h3 : 549755813888 < q
  · simp [h1, h2, h3]
  simp only [ln] at h1
  have hl : l.length ≤ 1000000 := by omega
  have hq2 : 0 ≤ q ∧ q ≤ 1099511627776 := by omega
  have hc := chain_len l q
  simp only [ln, h1, h2, h3, decide_false, cond_false, scanChain l q hl hq2, bnd_some]
  refine bnd_run (fun i => (i : Int)) (chain l q).length (.inl ()) (by omega) rfl (fun j hj => ?_) ?_ ?_
  · have e1 : (j : Int) < (chain l q).length := by omega
    have e2 : iadd q 1 = q + 1 := add_ok (by omega)
    have e3 : iadd (q + 1) (j : Int) = q + 1 + j := add_ok (by omega)
    simp only [e1, decide_true, cond_true, get14 hj, bnd_some, e2, e3, cne_eq, chain_at l q j hj, ne_eq, not_true, decide_false, cond_false]
    rw [show iadd (j : Int) 1 = ((j + 1 : Nat) : Int) by rw [inc14 j (by omega)]; rfl]
  · simp only [Int.lt_irrefl, decide_false, cond_false]
  · simp only [scanLast l q hl hq2, bnd_some, scanChain (chain l q) q (by omega) hq2, chain_chain, same14 (chain l q) (by omega), cond_true]
    rw [show iadd q ((chain l q).length : Int) = q + (chain l q).length from add_ok (by omega)]
    simp only [ceq_eq, decide_true, cond_true, scanChain (chain l q) (q + (chain l q).length) (by omega) (by omega), bnd_some, chain_over]
    rfl
end Go.AX

namespace Go.AX
set_option autoImplicit false
set_option linter.unusedVariables false
set_option linter.unusedSimpArgs false
set_option maxRecDepth 4000
set_option maxHeartbeats 1000000

theorem first_or (P : Nat → Prop) : ∀ n, (∀ i, i < n → ¬ P i) ∨ ∃ k, k < n ∧ P k ∧ ∀ i, i < k → ¬ P i
  | 0 => .inl fun i hi => absurd hi (Nat.not_lt_zero i)
  | n + 1 => by
    rcases first_or P n with h | ⟨k, h1, h2, h3⟩
    · by_cases hn : P n
      · exact .inr ⟨n, Nat.lt_succ_self n, hn, h⟩
      · refine .inl fun i hi => ?_
        by_cases e : i = n
        · subst e; exact hn
        · exact h i (by omega)
    · exact .inr ⟨k, by omega, h2, h3⟩
theorem scanDead (p : Dv) (g : TGeom) (hd : p.down = true) (hl : p.zones.length ≤ 1000) (ep sq : Int) : m_scan_All g ep sq p = some ([], 2, p) := by
  unfold m_scan_All
  rw [devZones p hl]
  simp only [let_eq, jn_eq, bnd_some]
  have hin : ∀ z, (hz : z < p.zones.length) → at? p.zones (z : Int) = some p.zones[z] := fun z hz => by rw [at?_nat, List.getElem?_eq_getElem hz]
  have hs : srt2? (fun f : TFound => f.Rec.Seq) (fun f : TFound => f.Place) [] = some [] := by
    have e : sortF [] = [] := (sortF_isort (l := []) List.Pairwise.nil).trans rfl
    unfold srt2?
    rw [if_pos ⟨noDup_rise _ List.Pairwise.nil, by decide⟩]
    exact congrArg some e
  have hr : ∀ a, m___dev_Device__Read a p = some (Ar.zero 64, 2, p) := fun a => by
    unfold m___dev_Device__Read
    simp only [let_eq, hd, cond_true]
  rcases first_or (fun z => 0 < (zat p.zones z).Point) p.zones.length with h | ⟨k, hk, h1, h2⟩
  · refine bnd_run (fun i => ((i : Int), p, ([] : List TFound))) p.zones.length (.inl (p, [])) (by omega) rfl (fun z hz => ?_) ?_ ?_
    · have e1 : clt (z : Int) (ln p.zones) = true := decide_eq_true (by simp only [ln]; omega)
      show (bif clt (z : Int) (ln p.zones) then _ else _) = _
      rw [e1, cond_true, zat_at (l := p.zones) (z := (z : Int)) (by omega) (by omega), bnd_some]
      have f1 : clt (0 : Int) (zat p.zones (z : Int)).Point = false := decide_eq_false (h z hz)
      refine bnd_run (fun o => ((0 : Int), p, ([] : List TFound))) 0 (.inl (p, [])) (by omega) rfl (fun o ho => absurd ho (Nat.not_lt_zero o)) ?_ ?_
      · show (bif clt (0 : Int) (zat p.zones (z : Int)).Point then _ else _) = _
        rw [f1, cond_false]
      · simp only [inc_nat z (by omega)]
    · have e1 : clt ((p.zones.length : Nat) : Int) (ln p.zones) = false := decide_eq_false (by simp only [ln]; omega)
      show (bif clt ((p.zones.length : Nat) : Int) (ln p.zones) then _ else _) = _
      rw [e1, cond_false]
    · simp only [hs, bnd_some]
      unfold m_scan_down
      rw [devDown, bnd_some, hd]
      rfl
  · refine bnd_run (fun i => ((i : Int), p, ([] : List TFound))) k (.inr (2, p)) (by omega) rfl (fun z hz => ?_) ?_ ?_
    · have e1 : clt (z : Int) (ln p.zones) = true := decide_eq_true (by simp only [ln]; omega)
      show (bif clt (z : Int) (ln p.zones) then _ else _) = _
      rw [e1, cond_true, zat_at (l := p.zones) (z := (z : Int)) (by omega) (by omega), bnd_some]
      have f1 : clt (0 : Int) (zat p.zones (z : Int)).Point = false := decide_eq_false (h2 z hz)
      refine bnd_run (fun o => ((0 : Int), p, ([] : List TFound))) 0 (.inl (p, [])) (by omega) rfl (fun o ho => absurd ho (Nat.not_lt_zero o)) ?_ ?_
      · show (bif clt (0 : Int) (zat p.zones (z : Int)).Point then _ else _) = _
        rw [f1, cond_false]
      · simp only [inc_nat z (by omega)]
    · have e1 : clt (k : Int) (ln p.zones) = true := decide_eq_true (by simp only [ln]; omega)
      show (bif clt (k : Int) (ln p.zones) then _ else _) = _
      rw [e1, cond_true, zat_at (l := p.zones) (z := (k : Int)) (by omega) (by omega), bnd_some]
      have f1 : clt (0 : Int) (zat p.zones (k : Int)).Point = true := decide_eq_true h1
      refine bnd_run (fun o => ((0 : Int), p, ([] : List TFound))) 0 (.inr (2, p)) (by omega) rfl (fun o ho => absurd ho (Nat.not_lt_zero o)) ?_ rfl
      show (bif clt (0 : Int) (zat p.zones (k : Int)).Point then _ else _) = _
      rw [f1, cond_true, hr, bnd_some]
      rfl
    · rfl
theorem little14 (g : TGeom) (w : BGeom g) : ∃ b, m_ref14_Little g = some b ∧ (b = true → Geo g ∧ g.Conv + g.Seq ≤ 14 ∧ g.Size ≤ 24 ∧ g.Soft ≤ 60) := by
  unfold m_ref14_Little
  rw [ref03_Right g w, bnd_some]
  cases hr : rightG g with
  | false => exact ⟨false, rfl, fun h => by cases h⟩
  | true =>
    have hg := rightG_geo hr
    have h3 := hg.c
    have h4 := hg.cs
    have h5 := hg.s
    simp only [cond_true, let_eq, cle_eq]
    rw [show iadd g.Conv g.Seq = g.Conv + g.Seq from add_ok (by omega)]
    by_cases k1 : g.Conv + g.Seq ≤ 14
    · by_cases k2 : g.Size ≤ 24
      · by_cases k3 : g.Soft ≤ 60
        · exact ⟨true, by simp [k1, k2, k3], fun _ => ⟨hg, k1, k2, k3⟩⟩
        · exact ⟨false, by simp [k1, k2, k3], fun h => by cases h⟩
      · exact ⟨false, by simp [k1, k2], fun h => by cases h⟩
    · exact ⟨false, by simp [k1], fun h => by cases h⟩
theorem law_ScanAlls (g : TGeom) (l : List TRef14_Step) (ep sq : Int) (wg : BGeom g) (wl : (∀ x ∈ l, BRef14_Step x) ∧ l.length ≤ maxLen) (we : (Lit.int .i64 ep).wf = true) (wq : (Lit.int .i64 sq).wf = true) : m_law14_ScanAlls g l ep sq = some true := by
  obtain ⟨b, hb, hL⟩ := little14 g wg
  unfold m_law14_ScanAlls
  simp only [jn_eq, let_eq, awake14, bnd_some, Bool.not_true, cond_false, hb, cgt_eq, cond_true, ln]
  cases b with
  | false => simp
  | true =>
    obtain ⟨hg, h14, h24, h60⟩ := hL rfl
    by_cases h1 : (60 : Int) < l.length
    · simp [h1]
    have hl : l.length ≤ 1000 := by omega
    obtain ⟨hD, hDg⟩ := lay_DI hg (l := l) wl.1
    have e1 := ref14Lay g hg l wl.1 hl
    generalize layAll g l = L at *
    have e2 := scanAll hD g hDg.symm ep sq
    have e3 := ref14All hD g hDg.symm ep sq
    rw [sortF_isort (fA_rise hD ep sq _)] at e2
    have hlen : (isort (fA L ep sq L.zones.length)).length ≤ 1000000 := by
      rw [(isort_ok _ _ rfl (fA_rise hD ep sq _)).1.length_eq]
      have := fA_len hD ep sq L.zones.length
      have := hD.ok.len
      have := hD.ok.g.cs
      omega
    generalize isort (fA L ep sq L.zones.length) = R at *
    have e4 : m___dev_Device__Arm 0 L = some { L with left_ := 0, down := true } := by
      rw [devArm]; unfold armD; rw [if_neg (by rw [hD.dn]; decide)]; rfl
    have e5 := scanDead { L with left_ := 0, down := true } g rfl hD.ok.sm ep sq
    simp only [h1, decide_false, cond_false, e1, e2, e3, bnd_some, cne_eq, ne_eq, not_true, same14 R hlen, cond_false, Bool.not_true, devIllegal, e4, e5, ceq_eq, decide_true, cond_true, List.length_nil]
    simp
end Go.AX

namespace Go.AX
set_option autoImplicit false
set_option linter.unusedVariables false
set_option linter.unusedSimpArgs false
set_option maxRecDepth 4000
set_option maxHeartbeats 1000000

def pz (y : TZone) : TZone := if y.State = 1 then (if y.Point = 0 then ⟨0, y.Point⟩ else ⟨2, y.Point⟩) else y
theorem zone_Power (l : List TZone) (hl : l.length ≤ 1000) : m_zone_Power l = some (l.map pz) := by
  unfold m_zone_Power
  simp only [let_eq, slices_Clone l hl, bnd_some]
  refine bnd_run (fun i => ((i : Int), (l.take i).map pz ++ l.drop i)) l.length (l.map pz) (by omega) (by simp) ?_ ?_ rfl
  · intro i hi
    have hd : l.drop i = l[i] :: l.drop (i + 1) := List.drop_eq_getElem_cons hi
    have ht : (l.take (i + 1)).map pz = (l.take i).map pz ++ [pz l[i]] := by rw [List.take_succ_eq_append_getElem hi, List.map_append]; rfl
    have hlen : ((l.take i).map pz).length = i := by simp; omega
    have hat : ∀ (y : TZone) (t : List TZone), at? ((l.take i).map pz ++ y :: t) (i : Int) = some y := by
      intro y t; rw [at?_nat, List.getElem?_append_right (by omega), hlen]; simp
    have hset : ∀ (y z : TZone) (t : List TZone), ((l.take i).map pz ++ y :: t).set i z = (l.take i).map pz ++ z :: t := by
      intro y z t
      rw [List.set_append_right _ _ (by omega), hlen]; simp
    simp only [clt_eq, ln, cond_dec, ceq_eq]
    rw [if_pos (by omega), show iadd (i : Int) 1 = (i : Int) + 1 from add_ok (by omega), hd, hat, ht]
    simp only [bnd_some]
    unfold m_zone_shut
    by_cases k1 : l[i].State = 1
    · simp only [k1, if_true, let_eq, set', Int.toNat_natCast, hset, hat, bnd_some, ceq_eq, cond_dec]
      by_cases k0 : l[i].Point = 0
      · have hp : pz l[i] = ⟨0, l[i].Point⟩ := by simp [pz, k1, k0]
        simp only [k0, if_true, hp, bnd_some]
        rw [lenq_ok (by simp; omega), bnd_some]; simp
      · have hp : pz l[i] = ⟨2, l[i].Point⟩ := by simp [pz, k1, k0]
        simp only [k0, if_false, hp, bnd_some]
        rw [lenq_ok (by simp; omega), bnd_some]; simp
    · have hp : pz l[i] = l[i] := by simp [pz, k1]
      simp [k1, hp, -List.map_take]
  · simp [ln]


/-- The first number, from i on, that isn't there; at most i + k. -/
def gap (q : Nat → Bool) : Nat → Nat → Nat
  | i, 0 => i
  | i, k + 1 => if q i = true then gap q (i + 1) k else i
theorem gap_le (q : Nat → Bool) : ∀ (k i : Nat), i ≤ gap q i k ∧ gap q i k ≤ i + k
  | 0, i => by simp [gap]
  | k + 1, i => by
    simp only [gap]
    split
    · have := gap_le q k (i + 1); omega
    · omega
theorem gap_all (q : Nat → Bool) : ∀ (k i j : Nat), i ≤ j → j < gap q i k → q j = true
  | 0, i, j, h1, h2 => by simp [gap] at h2; omega
  | k + 1, i, j, h1, h2 => by
    simp only [gap] at h2
    split at h2
    · rename_i h
      by_cases e : j = i
      · subst e; exact h
      · exact gap_all q k (i + 1) j (by omega) h2
    · omega
theorem gap_end (q : Nat → Bool) : ∀ (k i : Nat), gap q i k < i + k → q (gap q i k) = false
  | 0, i, h => by simp [gap] at h
  | k + 1, i, h => by
    simp only [gap] at h ⊢
    split
    · rename_i h1
      rw [if_pos h1] at h
      exact gap_end q k (i + 1) (by omega)
    · rename_i h1
      simpa using h1
/-- It is n where all ahead of n are there, and n isn't. -/
theorem gap_is {q : Nat → Bool} {n k : Nat} (h1 : ∀ j, j < n → q j = true) (h2 : n < k → q n = false) (h3 : n ≤ k) : gap q 0 k = n := by
  have a := gap_le q k 0
  by_cases e : gap q 0 k < n
  · have := gap_end q k 0 (by omega)
    rw [h1 _ e] at this; cases this
  · by_cases e2 : n < gap q 0 k
    · have := gap_all q k 0 n (by omega) e2
      rw [h2 (by omega)] at this; cases this
    · omega

def hasS (m : List (TAt × Ar 64)) (z : Int) (i : Nat) : Bool := (gGet eAt m ⟨z, (i : Int)⟩).isSome
def finS (p : Dv) (z : Int) : Bool := (gGet (eI .i64) p.finished z).getD false
def wakeC (p : Dv) (z : Int) (y : TZone) : TZone :=
  if z < p.g.Conv then y
  else
    let n : Int := gap (hasS p.safe z) 0 p.g.Size.toNat
    if finS p z = true then ⟨y.State, n⟩ else if n = 0 then ⟨0, n⟩ else if n < p.g.Size then ⟨2, n⟩ else ⟨y.State, n⟩
def wakeZ (p : Dv) : List TZone := (p.zones.map pz).mapIdx fun i y => wakeC p i y
def wakeD (p : Dv) : Dv := { p with zones := wakeZ p, now := p.safe, cached := [], left_ := -1, down := false }

theorem gap_loop (p : Dv) (z : Int) (hs : 0 ≤ p.g.Size ∧ p.g.Size ≤ 1000) :
    loop (σ := Int) (ρ := Int) (fun s88 => bif clt s88 p.g.Size then (bif (!(gGet eAt p.safe (TAt.mk z s88)).isSome) then (some (.inr (s88))) else some (.inl (iadd s88 1))) else (some (.inr (s88)))) 0 = some ((gap (hasS p.safe z) 0 p.g.Size.toNat : Nat) : Int) := by
  have a := gap_le (hasS p.safe z) p.g.Size.toNat 0
  refine loop_run (fun i => (i : Int)) (gap (hasS p.safe z) 0 p.g.Size.toNat) (by omega) ?_ ?_ rfl
  · intro i hi
    have h := gap_all (hasS p.safe z) _ 0 i (by omega) hi
    unfold hasS at h
    rw [show clt (i : Int) p.g.Size = true from decide_eq_true (by omega), cond_true, h, show iadd (i : Int) 1 = ((i + 1 : Nat) : Int) from (add_ok (by omega)).trans (by omega)]
    rfl
  · by_cases e : gap (hasS p.safe z) 0 p.g.Size.toNat < p.g.Size.toNat
    · have h := gap_end (hasS p.safe z) p.g.Size.toNat 0 (by omega)
      rw [show clt ((gap (hasS p.safe z) 0 p.g.Size.toNat : Nat) : Int) p.g.Size = true from decide_eq_true (by omega), cond_true]
      unfold hasS at h ⊢
      rw [h]; rfl
    · rw [show clt ((gap (hasS p.safe z) 0 p.g.Size.toNat : Nat) : Int) p.g.Size = false from decide_eq_false (by omega), cond_false]

theorem wake_eq (p : Dv) (hc : 0 ≤ p.g.Conv) (hl : p.g.Conv ≤ p.zones.length) (hl2 : p.zones.length ≤ 1000) (hs : 0 ≤ p.g.Size ∧ p.g.Size ≤ 1000) : m___dev_Device__wake p = some (wakeD p) := by
  unfold m___dev_Device__wake
  rw [zone_Power p.zones hl2]
  simp only [let_eq, jn_eq, bnd_some]
  obtain ⟨c, hcc⟩ := Int.eq_ofNat_of_zero_le hc
  have hlen : (wakeZ p).length = p.zones.length := by simp [wakeZ]
  have hlm : (p.zones.map pz).length = p.zones.length := by simp
  have hat : ∀ i (h : i < p.zones.length), (wakeZ p)[i]'(by omega) = wakeC p i (p.zones.map pz)[i] := by
    intro i h; simp [wakeZ]
  refine bnd_run (fun i => (((c + i : Nat) : Int), ({ p with zones := (wakeZ p).take (c + i) ++ (p.zones.map pz).drop (c + i) } : Dv))) (p.zones.length - c) { p with zones := wakeZ p } (by omega) ?_ ?_ ?_ rfl
  · simp only [Nat.add_zero, hcc, Prod.mk.injEq, true_and]
    congr 1
    refine List.ext_getElem (by simp [hlen]; omega) fun i h1 h2 => ?_
    by_cases h : i < c
    · rw [List.getElem_append_left (by simp [hlen]; omega), List.getElem_take, hat i (by simpa using h1)]
      unfold wakeC
      rw [if_pos (by omega)]
    · rw [List.getElem_append_right (by simp [hlen]; omega), List.getElem_drop]
      congr 1
      simp [hlen]; omega
  · intro i hi
    have hj : c + i < p.zones.length := by omega
    obtain ⟨j, hjj⟩ : ∃ j, j = c + i := ⟨_, rfl⟩
    rw [← hjj] at hj ⊢
    have htl : ((wakeZ p).take j).length = j := by simp [hlen]; omega
    have hd : (p.zones.map pz).drop j = (p.zones.map pz)[j]'(by omega) :: (p.zones.map pz).drop (j + 1) := List.drop_eq_getElem_cons (by omega)
    have ht : (wakeZ p).take (j + 1) = (wakeZ p).take j ++ [wakeC p j ((p.zones.map pz)[j]'(by omega))] := by
      rw [List.take_succ_eq_append_getElem (by omega), hat j hj]
    have hg : ∀ (y : TZone) (t : List TZone), at? ((wakeZ p).take j ++ y :: t) (j : Int) = some y := by
      intro y t; rw [at?_nat, List.getElem?_append_right (by omega), htl]; simp
    have hset : ∀ (y z : TZone) (t : List TZone), set' ((wakeZ p).take j ++ y :: t) (j : Int) z = (wakeZ p).take j ++ z :: t := by
      intro y z t
      unfold set'
      rw [Int.toNat_natCast, List.set_append_right _ _ (by omega), htl]; simp
    have hln : (((wakeZ p).take j ++ (p.zones.map pz).drop j).length : Int) = p.zones.length := by simp [hlen]; omega
    have hgl := gap_loop p j hs
    show (bif clt (j : Int) (ln ((wakeZ p).take j ++ (p.zones.map pz).drop j)) then _ else _) = _
    rw [show clt (j : Int) (ln ((wakeZ p).take j ++ (p.zones.map pz).drop j)) = true from decide_eq_true (by unfold ln; rw [hln]; omega), cond_true]
    simp only
    rw [hgl, bnd_some, hd]
    rw [show c + (i + 1) = j + 1 by omega, ht, show iadd (j : Int) 1 = ((j + 1 : Nat) : Int) from (add_ok (by omega)).trans (by omega)]
    simp only [hg, hset, bnd_some]
    unfold wakeC finS
    generalize (p.zones.map pz)[j]'(by omega) = y
    generalize gap (hasS p.safe j) 0 p.g.Size.toNat = n
    have hcj : ¬ (j : Int) < p.g.Conv := by omega
    simp only [hcj, if_false]
    by_cases f1 : (gGet (eI .i64) p.finished (j : Int)).getD false = true
    · simp [f1]
    by_cases f2 : n = 0
    · simp [f1, f2]
    by_cases f3 : (n : Int) < p.g.Size
    · simp [f1, f2, f3]
    · simp [f1, f2, f3]
  · rw [show c + (p.zones.length - c) = p.zones.length by omega, List.take_of_length_le (by omega), List.drop_eq_nil_of_le (by omega), List.append_nil]
    show (bif clt ((p.zones.length : Nat) : Int) (ln (wakeZ p)) then _ else _) = _
    rw [show clt ((p.zones.length : Nat) : Int) (ln (wakeZ p)) = false from decide_eq_false (by unfold ln; rw [hlen]; omega), cond_false]

def torn (b x : Ar 64) (n : Int) : Ar 64 := Ar.cp b (b.l.take (if 64 < n then 64 else n).toNat).length (x.l.take (if 64 < n then 64 else n).toNat)
def keepN (g : TGeom) (w : TWreck) (z : Int) : Int := if z - g.Conv < w.Keep.length then (let y := w.Keep.getD (z - g.Conv).toNat 0; if 0 > y then 0 else y) else 0
def bitC (w : TWreck) (soft : Int) : Bool := decide (binI .and .u64 (binI .shr .u64 w.Soft (IntKind.wrap .u64 (binI .rem .i64 soft 64))) 1 = 1)
def hadN (m : List (Int × Int)) (z : Int) : Int := (gGet (eI .i64) m z).getD 0
/-- One cached write, when the power goes: (soft writes so far, what lasts, how many of each zone so far). -/
def crS (g : TGeom) (w : TWreck) (n i : Nat) (x : TDev_write) (s : Int × Mp64 × List (Int × Int)) : Int × Mp64 × List (Int × Int) :=
  if x.at_.Zone < g.Conv then
    (iadd s.1 1, (if bitC w s.1 = true then gSet eAt s.2.1 x.at_ x.page else if i + 1 = n ∧ 0 < w.Tear then gSet eAt s.2.1 x.at_ (torn ((gGet eAt s.2.1 x.at_).getD (Ar.zero 64)) x.page w.Tear) else s.2.1), s.2.2)
  else
    (s.1, (if hadN s.2.2 x.at_.Zone < keepN g w x.at_.Zone then gSet eAt s.2.1 x.at_ x.page else if i + 1 = n ∧ hadN s.2.2 x.at_.Zone = keepN g w x.at_.Zone ∧ 0 < w.Tear then gSet eAt s.2.1 x.at_ (torn (Ar.zero 64) x.page w.Tear) else s.2.1), gSet (eI .i64) s.2.2 x.at_.Zone (iadd (hadN s.2.2 x.at_.Zone) 1))
def crN (p : Dv) (w : TWreck) : Nat → Int × Mp64 × List (Int × Int)
  | 0 => (0, p.safe, [])
  | i + 1 => match p.cached[i]? with
    | some x => crS p.g w p.cached.length i x (crN p w i)
    | none => crN p w i
def crashD (p : Dv) (w : TWreck) : Dv := wakeD { p with safe := (crN p w p.cached.length).2.1 }

theorem keep_eq (p : Dv) (w : TWreck) (z : Int) (h0 : p.g.Conv ≤ z) (h1 : 0 ≤ p.g.Conv) (h2 : z < 9223372036854775808) : m___dev_Device__keep w z p = some (keepN p.g w z) := by
  unfold m___dev_Device__keep keepN
  simp only [let_eq, clt_eq, ln, cond_dec]
  rw [show isub z p.g.Conv = z - p.g.Conv from sub_ok (by omega)]
  by_cases h : z - p.g.Conv < (w.Keep.length : Int)
  · obtain ⟨i, hi⟩ := Int.eq_ofNat_of_zero_le (show 0 ≤ z - p.g.Conv by omega)
    rw [if_pos h, if_pos h, hi, at?_nat, List.getElem?_eq_getElem (by omega), bnd_some, Int.toNat_natCast, List.getD_eq_getElem?_getD, List.getElem?_eq_getElem (by omega)]
    rfl
  · rw [if_neg h, if_neg h]
theorem tear_eq (p : Dv) (x : TDev_write) (n : Int) (hn : 0 < n) : m___dev_Device__tear x n p = some { p with safe := gSet eAt p.safe x.at_ (torn (if x.at_.Zone < p.g.Conv then (gGet eAt p.safe x.at_).getD (Ar.zero 64) else Ar.zero 64) x.page n) } := by
  have up : ∀ a : Ar 64, upto? a.l (if 64 < n then 64 else n) = some (a.l.take (if 64 < n then 64 else n).toNat) := by
    intro a
    unfold upto?
    rw [if_pos (by rw [a.h]; split <;> omega)]
  unfold m___dev_Device__tear torn
  simp only [let_eq, jn_eq, clt_eq, cond_dec, up, bnd_some]
  split <;> rfl

theorem rem64 (a : Int) : 0 ≤ a → binI .rem .i64 a 64 = a % 64 := by
  intro h
  show a.tmod 64 = _
  rw [Int.tmod_eq_emod_of_nonneg h]
theorem wrapu {a : Int} (h : 0 ≤ a) (h1 : a < 18446744073709551616) : IntKind.wrap .u64 a = a := by
  rw [IntKind.wrap_u64]; omega
theorem crash_eq (p : Dv) (w : TWreck) (hc : 0 ≤ p.g.Conv) (hl : p.g.Conv ≤ p.zones.length) (hl2 : p.zones.length ≤ 1000) (hs : 0 ≤ p.g.Size ∧ p.g.Size ≤ 1000)
    (hn : p.cached.length ≤ 1000000) (hz : ∀ x ∈ p.cached, x.at_.Zone < 9223372036854775808) : m___dev_Device__Crash w p = some (crashD p w) := by
  unfold m___dev_Device__Crash
  simp only [let_eq, jn_eq]
  have hsoft : ∀ i, 0 ≤ (crN p w i).1 ∧ (crN p w i).1 ≤ i := by
    intro i
    induction i with
    | zero => simp [crN]
    | succ i ih =>
      simp only [crN]
      by_cases hi : i < p.cached.length
      · rw [List.getElem?_eq_getElem hi]
        simp only [crS]
        split
        · simp only
          rw [show iadd (crN p w i).1 1 = (crN p w i).1 + 1 from add_ok (by omega)]; omega
        · simp only; omega
      · rw [List.getElem?_eq_none (by omega)]; simp only; omega
  refine bnd_run (fun i => ((crN p w i).1, (i : Int), ({ p with safe := (crN p w i).2.1 } : Dv), (crN p w i).2.2)) p.cached.length { p with safe := (crN p w p.cached.length).2.1 } (by omega) rfl ?_ ?_ ?_
  · intro i hi
    have hsi := hsoft i
    have hx : crN p w (i + 1) = crS p.g w p.cached.length i p.cached[i] (crN p w i) := by simp [crN, List.getElem?_eq_getElem hi]
    have hzx := hz p.cached[i] (List.getElem_mem hi)
    revert hx hzx hsi
    generalize crN p w i = s
    generalize crN p w (i + 1) = s'
    have hat : at? p.cached (i : Int) = some p.cached[i] := by rw [at?_nat, List.getElem?_eq_getElem hi]
    revert hat
    generalize p.cached[i] = x
    intro hat hsi hx hzx
    subst hx
    obtain ⟨a, m, hd⟩ := s
    simp only at hsi
    simp only [let_eq, clt_eq, cond_dec, jn_eq, ln, ceq_eq, cgt_eq]
    rw [if_pos (by omega), hat, bnd_some, show iadd (i : Int) 1 = ((i + 1 : Nat) : Int) from (add_ok (by omega)).trans (by omega)]
    have e1 : isub (p.cached.length : Int) 1 = (p.cached.length : Int) - 1 := sub_ok (by omega)
    have elast : ((i : Int) = isub (p.cached.length : Int) 1) ↔ (i + 1 = p.cached.length) := by rw [e1]; omega
    by_cases k : x.at_.Zone < p.g.Conv
    · have e3 : nz? 64 = some () := rfl
      have e4 : IntKind.wrap .u64 (binI .rem .i64 a 64) = a % 64 := by rw [rem64 a hsi.1, wrapu (by omega) (by omega)]
      have e5 : sh? (a % 64) = some () := by unfold sh?; rw [if_pos (by omega)]
      have e6 : bitC w a = decide (binI .and .u64 (binI .shr .u64 w.Soft (a % 64)) 1 = 1) := by unfold bitC; rw [e4]
      simp only [k, if_true, e3, bnd_some, e4, e5, crS, e6, elast, decide_eq_true_eq]
      by_cases b : binI .and .u64 (binI .shr .u64 w.Soft (a % 64)) 1 = 1
      · simp only [b, decide_true, cond_true, if_true]
      · simp only [b, decide_false, cond_false, if_false]
        by_cases l : i + 1 = p.cached.length
        · by_cases t : 0 < w.Tear
          · rw [if_pos l, cond_true, if_pos t, tear_eq _ _ _ t, bnd_some, lenq_ok (by rfl), bnd_some]
            simp only [l, t, and_self, if_true, k]
          · simp only [l, t, and_false, if_false, if_true, decide_false, cond_true, cond_false]
        · simp only [l, false_and, if_false, cond_false]
    · simp only [k, if_false]
      have hk : ∀ q : TDev_Device, q.g.Conv = p.g.Conv → m___dev_Device__keep w x.at_.Zone q = some (keepN p.g w x.at_.Zone) := by
        intro q hq
        rw [keep_eq q w _ (by omega) (by omega) hzx]
        unfold keepN; rw [hq]
      simp only [hk, bnd_some, crS, k, if_false, elast]
      rw [show (gGet (eI .i64) hd x.at_.Zone).getD 0 = hadN hd x.at_.Zone from rfl]
      by_cases b : hadN hd x.at_.Zone < keepN p.g w x.at_.Zone
      · simp only [b, decide_true, cond_true, if_true]
      · simp only [b, decide_false, cond_false, if_false]
        by_cases l : i + 1 = p.cached.length
        · by_cases q : hadN hd x.at_.Zone = keepN p.g w x.at_.Zone
          · by_cases t : 0 < w.Tear
            · rw [if_pos l, if_pos q, if_pos t, tear_eq _ _ _ t, bnd_some, lenq_ok (by rfl), bnd_some]
              simp only [l, t, q, and_self, if_true, k, if_false]
            · simp only [l, t, q, and_false, if_false, if_true, decide_false, cond_true, cond_false, decide_true]
          · simp only [l, q, false_and, and_false, if_false, if_true, decide_false, cond_false]
        · simp only [l, false_and, if_false]
  · show (bif clt ((p.cached.length : Nat) : Int) (ln p.cached) then _ else _) = _
    rw [show clt ((p.cached.length : Nat) : Int) (ln p.cached) = false from decide_eq_false (by unfold ln; omega), cond_false]
  · rw [wake_eq { p with safe := (crN p w p.cached.length).2.1 } hc hl hl2 hs]
    rfl
end Go.AX

namespace Go.AX
set_option autoImplicit false
set_option linter.unusedVariables false
set_option linter.unusedSimpArgs false
set_option maxRecDepth 4000
set_option maxHeartbeats 1000000

/-! #### lists that rise -/
def up14 (l : List TFound) : Prop := l.Pairwise fun a b => a.Rec.Seq < b.Rec.Seq
theorem chain_none2 {l : List TFound} {q : Int} (h : ∀ y ∈ l, q + 1 < y.Rec.Seq) : chain l q = [] := by
  have := chain_skip l [] q (fun y hy => by have := h y hy; omega)
  simpa [chain] using this
theorem chain_pre : ∀ (a b : List TFound) (q : Int), up14 a → up14 b → (∀ y ∈ a, y ∈ b) → (∀ y ∈ b, q < y.Rec.Seq) → chain a q = b.take (chain a q).length ∧ ∀ y ∈ a, y.Rec.Seq ≠ q + (chain a q).length + 1
  | [], b, q, _, _, _, _ => ⟨rfl, fun y hy => by cases hy⟩
  | y :: t, b, q, ha, hb, hs, hq => by
    obtain ⟨a1, a2⟩ := List.pairwise_cons.1 ha
    have hyb := hs y (by simp)
    have hyq := hq y hyb
    by_cases e : y.Rec.Seq = q + 1
    · rw [chain_cons, if_pos e]
      cases b with
      | nil => cases hyb
      | cons y' t' =>
        obtain ⟨b1, b2⟩ := List.pairwise_cons.1 hb
        have h1 : y = y' := by
          rcases List.mem_cons.1 hyb with h | h
          · exact h
          · have := b1 y h
            have := hq y' (by simp)
            omega
        subst h1
        obtain ⟨k1, k2⟩ := chain_pre t t' (q + 1) a2 b2 (fun z hz => by
          rcases List.mem_cons.1 (hs z (by simp [hz])) with h | h
          · subst h; have := a1 z hz; omega
          · exact h) (fun z hz => by have := b1 z hz; omega)
        refine ⟨?_, fun z hz => ?_⟩
        · rw [List.length_cons, List.take_succ_cons, ← k1]
        · rw [List.length_cons]
          rcases List.mem_cons.1 hz with h | h
          · subst h; omega
          · have := k2 z h; omega
    · have hn : chain (y :: t) q = [] := chain_none2 fun z hz => by
        rcases List.mem_cons.1 hz with h | h
        · subst h; omega
        · have := a1 z h; omega
      rw [hn]
      refine ⟨rfl, fun z hz => ?_⟩
      simp only [List.length_nil]
      rcases List.mem_cons.1 hz with h | h
      · subst h; omega
      · have := a1 z h; omega
/-! #### the device laid -/
def pg14 (s i : Nat) : Ar 64 := pageS (put14 7 (s + i + 1))
theorem pg14_read (s i : Nat) (hs : s + i < 100000) : readR (pg14 s i) = (put14 7 (s + i + 1), 0) := put14_read (by decide) (by omega)
theorem pg14_inj {s i j : Nat} (hi : s + i < 100000) (hj : s + j < 100000) (h : pg14 s i = pg14 s j) : i = j := by
  have h1 := pg14_read s i hi
  rw [h, pg14_read s j hj] at h1
  have h2 : (put14 7 (s + j + 1)).Seq = (put14 7 (s + i + 1)).Seq := congrArg (fun r => r.1.Seq) h1
  simp only [put14] at h2
  omega
structure KI (s n : Nat) (p : Dv) : Prop where
  safe : p.safe = []
  now : ∀ z o : Nat, o < pt p z → ∃ i, i < n ∧ gGet eAt p.now ⟨z, o⟩ = some (pg14 s i)
  dist : ∀ z o z' o' : Nat, o < pt p z → o' < pt p z' → gGet eAt p.now ⟨z, o⟩ = gGet eAt p.now ⟨z', o'⟩ → z = z' ∧ o = o'
  cach : ∀ x ∈ p.cached, ∃ z o : Nat, x.at_ = ⟨z, o⟩ ∧ p.g.Conv ≤ z ∧ z < p.g.Conv + p.g.Seq ∧ o < pt p z ∧ gGet eAt p.now x.at_ = some x.page
theorem KI.new (s : Nat) (g : TGeom) : KI s 0 (newD g) where
  safe := rfl
  now z o h := by
    exfalso
    have : pt (newD g) z = 0 := by
      unfold pt
      show (zat (newZ g) z).Point.toNat = 0
      rw [zat_new]; split <;> rfl
    omega
  dist z o z' o' h := by
    exfalso
    have : pt (newD g) z = 0 := by
      unfold pt
      show (zat (newZ g) z).Point.toNat = 0
      rw [zat_new]; split <;> rfl
    omega
  cach x hx := by cases hx
theorem KI.step {s n : Nat} {p : Dv} (h : KI s n p) (hD : DI p) (hn : s + n < 100000) (Z : Nat) (hc : p.g.Conv ≤ Z) (hz : (Z : Int) < p.g.Conv + p.g.Seq) : KI s (n + 1) (devW p ⟨Z, (zat p.zones Z).Point⟩ (pg14 s n)).2 := by
  have hl := hD.ok.len
  have hpt := hD.ok.pt Z
  have hptN : (pt p Z : Int) = (zat p.zones Z).Point := by unfold pt; omega
  rw [← hptN]
  unfold devW
  rw [if_neg (by rw [hD.dn]; decide)]
  by_cases he : (zW p.g p.zones ⟨Z, pt p Z⟩).2 = 0
  · rw [if_pos he]
    simp only
    have hcd : ∀ q : Dv, q.left_ = p.left_ → countD q = q := fun q e => countD_id (e.trans hD.lf)
    rw [hcd (TDev_Device.mk p.g (zW p.g p.zones ⟨Z, pt p Z⟩).1 p.finished p.safe (gSet eAt p.now ⟨Z, pt p Z⟩ (pg14 s n)) (p.cached ++ [TDev_write.mk ⟨Z, pt p Z⟩ (pg14 s n)]) p.left_ p.down p.illegal) rfl]
    have hset : (zW p.g p.zones ⟨Z, pt p Z⟩).1 = p.zones.set Z ⟨if (pt p Z : Int) + 1 = p.g.Size then 3 else 1, (pt p Z : Int) + 1⟩ := by
      unfold zW at he ⊢
      split
      case isFalse hn => rw [if_neg hn] at he; cases he
      rename_i ht
      rw [if_pos ht] at he
      rw [if_neg (hD.seq Z hc hz)] at he ⊢
      split
      case isTrue k3 => rw [if_pos k3] at he; cases he
      rename_i k3
      rw [if_neg k3] at he
      rw [if_neg (by simp only [hptN, ne_eq, not_true]; exact id)] at he ⊢
      split
      case isTrue ko => rw [if_pos ko] at he; cases he
      simp only [hptN, Int.toNat_natCast]
    rw [hset]
    have hptq : ∀ z : Nat, pt (TDev_Device.mk p.g (p.zones.set Z ⟨if (pt p Z : Int) + 1 = p.g.Size then 3 else 1, (pt p Z : Int) + 1⟩) p.finished p.safe (gSet eAt p.now ⟨Z, pt p Z⟩ (pg14 s n)) (p.cached ++ [TDev_write.mk ⟨Z, pt p Z⟩ (pg14 s n)]) p.left_ p.down p.illegal) z = if z = Z then pt p Z + 1 else pt p z := by
      intro z
      show (zat (p.zones.set Z _) (z : Int)).Point.toNat = _
      rw [zat_set (by omega), Int.toNat_natCast]
      split
      · simp only; omega
      · rfl
    generalize hq : TDev_Device.mk p.g (p.zones.set Z ⟨if (pt p Z : Int) + 1 = p.g.Size then 3 else 1, (pt p Z : Int) + 1⟩) p.finished p.safe (gSet eAt p.now ⟨Z, pt p Z⟩ (pg14 s n)) (p.cached ++ [TDev_write.mk ⟨Z, pt p Z⟩ (pg14 s n)]) p.left_ p.down p.illegal = q at hptq
    have hget : ∀ z o : Nat, gGet eAt q.now ⟨z, o⟩ = if z = Z ∧ o = pt p Z then some (pg14 s n) else gGet eAt p.now ⟨z, o⟩ := by
      intro z o
      rw [← hq]
      show gGet eAt (gSet eAt p.now _ _) _ = _
      haveI : Decidable ((⟨(z : Int), (o : Int)⟩ : TAt) = ⟨Z, pt p Z⟩) := Classical.propDecidable _
      rw [gGet_set inj_at]
      by_cases c : z = Z ∧ o = pt p Z
      · rw [if_pos c, if_pos (by rw [c.1, c.2])]
      · rw [if_neg c, if_neg (fun e => c (by
          have e1 := congrArg TAt.Zone e
          have e2 := congrArg TAt.Off e
          simp only at e1 e2
          omega))]
    have hold : ∀ z o : Nat, o < pt q z → ¬ (z = Z ∧ o = pt p Z) → o < pt p z := by
      intro z o h1 h2
      rw [hptq] at h1
      split at h1
      · rename_i e; subst e; omega
      · exact h1
    have hup : ∀ z o : Nat, o < pt p z → o < pt q z ∧ ¬ (z = Z ∧ o = pt p Z) := by
      intro z o h1
      rw [hptq]
      split
      · rename_i e; subst e; omega
      · exact ⟨h1, fun e => absurd e.1 ‹_›⟩
    refine ⟨by rw [← hq]; exact h.safe, fun z o ho => ?_, fun z o z' o' ho ho' e => ?_, fun x hx => ?_⟩
    · rw [hget]
      by_cases c : z = Z ∧ o = pt p Z
      · rw [if_pos c]; exact ⟨n, by omega, rfl⟩
      · rw [if_neg c]
        obtain ⟨i, h1, h2⟩ := h.now z o (hold z o ho c)
        exact ⟨i, by omega, h2⟩
    · rw [hget, hget] at e
      by_cases c : z = Z ∧ o = pt p Z
      · by_cases c' : z' = Z ∧ o' = pt p Z
        · omega
        · rw [if_pos c, if_neg c'] at e
          obtain ⟨i, h1, h2⟩ := h.now z' o' (hold z' o' ho' c')
          rw [h2] at e
          have := pg14_inj (by omega) (by omega) (Option.some.inj e)
          omega
      · by_cases c' : z' = Z ∧ o' = pt p Z
        · rw [if_neg c, if_pos c'] at e
          obtain ⟨i, h1, h2⟩ := h.now z o (hold z o ho c)
          rw [h2] at e
          have := pg14_inj (by omega) (by omega) (Option.some.inj e)
          omega
        · rw [if_neg c, if_neg c'] at e
          exact h.dist z o z' o' (hold z o ho c) (hold z' o' ho' c') e
    · have hg : q.g = p.g := by rw [← hq]
      have hx : x ∈ p.cached ++ [TDev_write.mk ⟨Z, pt p Z⟩ (pg14 s n)] := by rw [← hq] at hx; exact hx
      rw [hg]
      rcases List.mem_append.1 hx with hx | hx
      · obtain ⟨z, o, h1, h2, h3, h4, h5⟩ := h.cach x hx
        obtain ⟨u1, u2⟩ := hup z o h4
        refine ⟨z, o, h1, h2, h3, u1, ?_⟩
        rw [h1, hget, if_neg u2, ← h1, h5]
      · obtain rfl := List.mem_singleton.1 hx
        refine ⟨Z, pt p Z, rfl, hc, hz, by rw [hptq, if_pos rfl]; omega, ?_⟩
        simp only [hget, and_self, if_true]
  · rw [if_neg he]
    exact ⟨h.safe, fun z o ho => by
      obtain ⟨i, h1, h2⟩ := h.now z o ho
      exact ⟨i, by omega, h2⟩, h.dist, h.cach⟩
/-! #### what is found -/
theorem KI.fnd {s n : Nat} {p : Dv} (h : KI s n p) (hn : s + n < 100000) {z o : Nat} (ho : o < pt p z) : ∃ i, i < n ∧ gGet eAt p.now ⟨z, o⟩ = some (pg14 s i) ∧ fnd p 7 s z o = some ⟨num p.g z o, put14 7 (s + i + 1)⟩ := by
  obtain ⟨i, h1, h2⟩ := h.now z o ho
  refine ⟨i, h1, h2, ?_⟩
  unfold Go.AX.fnd
  have : pageAt p ⟨z, o⟩ = pg14 s i := by unfold pageAt; rw [h2]; rfl
  rw [this, pg14_read s i (by omega), if_pos ⟨rfl, rfl, by simp only [put14]; omega⟩]
theorem mem_fA {p : Dv} {ep sq : Int} : ∀ {N : Nat} {y : TFound}, y ∈ fA p ep sq N → ∃ z o, o < pt p z ∧ fnd p ep sq z o = some y
  | 0, y, h => by cases h
  | N + 1, y, h => by
    rw [fA_succ] at h
    rcases List.mem_append.1 h with h | h
    · exact mem_fA h
    · unfold fz at h
      obtain ⟨o, h1, h2⟩ := List.mem_filterMap.1 h
      exact ⟨N, o, List.mem_range.1 h1, h2⟩
theorem KI.up {s n : Nat} {p : Dv} (h : KI s n p) (hD : DI p) (hn : s + n < 100000) (N : Nat) : up14 (isort (fA p 7 s N)) ∧ ∀ y ∈ isort (fA p 7 s N), (s : Int) < y.Rec.Seq := by
  obtain ⟨h1, h2⟩ := isort_ok _ _ rfl (fA_rise hD 7 s N)
  have key : ∀ y ∈ isort (fA p 7 s N), ∃ z o, o < pt p z ∧ Go.AX.fnd p 7 s z o = some y := fun y hy => mem_fA (h1.mem_iff.1 hy)
  refine ⟨h2.imp_of_mem fun {a b} ha hb hab => ?_, fun y hy => ?_⟩
  · obtain ⟨z, o, k1, k2⟩ := key a ha
    obtain ⟨z', o', k1', k2'⟩ := key b hb
    obtain ⟨i, _, g1, g2⟩ := h.fnd hn k1
    obtain ⟨i', _, g1', g2'⟩ := h.fnd hn k1'
    rw [g2] at k2; rw [g2'] at k2'
    have e1 := Option.some.inj k2; have e2 := Option.some.inj k2'
    rcases hab with h3 | ⟨h3, h4⟩
    · exact h3
    · exfalso
      rw [← e1, ← e2] at h3 h4
      simp only [put14] at h3
      have hi : i = i' := by omega
      subst hi
      obtain ⟨rfl, rfl⟩ := h.dist z o z' o' k1 k1' (g1.trans g1'.symm)
      simp at h4
  · obtain ⟨z, o, k1, k2⟩ := key y hy
    obtain ⟨i, _, g1, g2⟩ := h.fnd hn k1
    rw [g2] at k2
    have e1 := Option.some.inj k2
    rw [← e1]; simp only [put14]; omega
/-- Fewer sectors, the same pages: part of what is found. -/
theorem fz_pre (p : Dv) (ep sq : Int) (z : Nat) : ∀ {n m : Nat}, n ≤ m → (fz p ep sq z n).Sublist (fz p ep sq z m)
  | n, 0, h => by obtain rfl : n = 0 := by omega
                  exact List.Sublist.refl _
  | n, m + 1, h => by
    by_cases e : n = m + 1
    · subst e; exact List.Sublist.refl _
    · rw [fz_succ]
      exact (fz_pre p ep sq z (show n ≤ m by omega)).trans (List.sublist_append_left _ _)
theorem fz_eq {p q : Dv} {ep sq : Int} {z : Nat} (hg : q.g = p.g) : ∀ {n : Nat}, (∀ o, o < n → pageAt q ⟨z, (o : Nat)⟩ = pageAt p ⟨z, (o : Nat)⟩) → fz q ep sq z n = fz p ep sq z n
  | 0, _ => rfl
  | n + 1, h => by
    rw [fz_succ, fz_succ, fz_eq hg (fun o ho => h o (by omega))]
    unfold fnd
    rw [h n (by omega), hg]
theorem fA_part {p q : Dv} {ep sq : Int} (hg : q.g = p.g) (h : ∀ z : Nat, pt q z ≤ pt p z ∧ ∀ o, o < pt q z → pageAt q ⟨z, (o : Nat)⟩ = pageAt p ⟨z, (o : Nat)⟩) : ∀ N, (fA q ep sq N).Sublist (fA p ep sq N)
  | 0 => List.Sublist.refl _
  | N + 1 => by
    rw [fA_succ, fA_succ, fz_eq hg (h N).2]
    exact (fA_part hg h N).append (fz_pre p ep sq N (h N).1)
end Go.AX

namespace Go.AX
set_option autoImplicit false
set_option linter.unusedVariables false
set_option linter.unusedSimpArgs false
set_option maxRecDepth 4000
set_option maxHeartbeats 1000000

theorem cr_from (p : Dv) (w : TWreck) (hs : p.safe = []) (ht : w.Tear = 0) : ∀ (i : Nat) (a : TAt) (v : Ar 64), gGet eAt (crN p w i).2.1 a = some v → ∃ x ∈ p.cached, x.at_ = a ∧ x.page = v
  | 0, a, v, h => by
    simp only [crN, hs] at h; cases h
  | i + 1, a, v, h => by
    simp only [crN] at h
    by_cases hi : i < p.cached.length
    · rw [List.getElem?_eq_getElem hi] at h
      have hx : p.cached[i] ∈ p.cached := List.getElem_mem hi
      revert hx h
      generalize p.cached[i] = x
      intro h hx
      haveI : Decidable (a = x.at_) := Classical.propDecidable _
      have hset : gGet eAt (gSet eAt (crN p w i).2.1 x.at_ x.page) a = some v → ∃ x ∈ p.cached, x.at_ = a ∧ x.page = v := by
        intro h
        rw [gGet_set inj_at] at h
        split at h
        · rename_i e; exact ⟨x, hx, e.symm, Option.some.inj h⟩
        · exact cr_from p w hs ht i a v h
      have ht' : ¬ 0 < w.Tear := by omega
      simp only [crS, ht', and_false, if_false] at h
      split at h
      · split at h
        · exact hset h
        · exact cr_from p w hs ht i a v h
      · split at h
        · exact hset h
        · exact cr_from p w hs ht i a v h
    · rw [List.getElem?_eq_none (by omega)] at h
      exact cr_from p w hs ht i a v h
theorem zat_wake (p : Dv) (z : Int) : zat (wakeZ p) z = if z.toNat < p.zones.length then wakeC p z.toNat (pz (zat p.zones z)) else ⟨0, 0⟩ := by
  unfold zat wakeZ
  simp only [List.getD_eq_getElem?_getD, List.getElem?_mapIdx, List.getElem?_map]
  by_cases h : z.toNat < p.zones.length
  · rw [if_pos h, List.getElem?_eq_getElem h]; rfl
  · rw [if_neg h, List.getElem?_eq_none (by omega)]; rfl
theorem pz_four {y : TZone} (h : y.State ≠ 4) : (pz y).State ≠ 4 := by
  unfold pz
  split
  · split <;> simp
  · exact h
theorem crash14 {s n : Nat} {p : Dv} (h : KI s n p) (hD : DI p) (w : TWreck) (ht : w.Tear = 0) :
    DI { crashD p w with cached := [] } ∧ (crashD p w).g = p.g ∧ ∀ z : Nat, pt { crashD p w with cached := [] } z ≤ pt p z ∧ ∀ o, o < pt { crashD p w with cached := [] } z → pageAt { crashD p w with cached := [] } ⟨z, (o : Nat)⟩ = pageAt p ⟨z, (o : Nat)⟩ := by
  have hgeo := hD.ok.g
  have hc := hgeo.c
  have hcs := hgeo.cs
  have hss := hgeo.s
  have hsz := hgeo.z
  have hlen := hD.ok.len
  have hfrom := cr_from p w h.safe ht p.cached.length
  unfold crashD
  generalize (crN p w p.cached.length).2.1 = S at *
  have hpg : ∀ a v, gGet eAt S a = some v → ∃ z o : Nat, a = ⟨z, o⟩ ∧ p.g.Conv ≤ z ∧ z < p.g.Conv + p.g.Seq ∧ o < pt p z ∧ gGet eAt p.now a = some v := by
    intro a v hv
    obtain ⟨x, h1, h2, h3⟩ := hfrom a v hv
    obtain ⟨z, o, k1, k2, k3, k4, k5⟩ := h.cach x h1
    exact ⟨z, o, h2 ▸ k1, k2, k3, k4, by rw [← h2, k5, h3]⟩
  have hgap : ∀ z : Nat, gap (hasS S z) 0 p.g.Size.toNat ≤ p.g.Size.toNat := fun z => by
    have := (gap_le (hasS S z) p.g.Size.toNat 0).2; omega
  have hsome : ∀ z o : Nat, o < gap (hasS S z) 0 p.g.Size.toNat → ∃ v, gGet eAt S ⟨z, o⟩ = some v := by
    intro z o ho
    have := gap_all (hasS S z) _ 0 o (by omega) ho
    unfold hasS at this
    exact Option.isSome_iff_exists.1 this
  have hz : ∀ z : Int, zat (wakeZ { p with safe := S }) z = if z.toNat < p.zones.length then wakeC { p with safe := S } z.toNat (pz (zat p.zones z)) else ⟨0, 0⟩ := zat_wake _
  have hwc : ∀ z : Nat, ¬ (z : Int) < p.g.Conv → ∀ y : TZone, (wakeC { p with safe := S } z y).Point = gap (hasS S z) 0 p.g.Size.toNat := by
    intro z hzc y
    unfold wakeC
    simp only [hzc, if_false]
    split
    · rfl
    · split
      · rfl
      · split <;> rfl
  have hconv : ∀ z : Nat, (z : Int) < p.g.Conv → ∀ y, wakeC { p with safe := S } z y = y := by
    intro z hzc y
    unfold wakeC
    simp only [hzc, if_true]
  have hpt : ∀ z : Nat, ((wakeC { p with safe := S } z (pz (zat p.zones z))).Point = 0 ∧ (z : Int) < p.g.Conv) ∨ ((wakeC { p with safe := S } z (pz (zat p.zones z))).Point = gap (hasS S z) 0 p.g.Size.toNat ∧ ¬ (z : Int) < p.g.Conv) := by
    intro z
    by_cases k : (z : Int) < p.g.Conv
    · left
      rw [hconv z k, hD.conv z (by omega) k]
      exact ⟨rfl, k⟩
    · exact .inr ⟨hwc z k _, k⟩
  have hat : ∀ z : Int, zat p.zones z = zat p.zones (z.toNat : Nat) := by
    intro z; unfold zat; rw [Int.toNat_natCast]
  refine ⟨⟨⟨hgeo, ?_, fun z => ?_⟩, rfl, rfl, fun z h0 h1 => ?_, fun z h0 h1 => ?_, fun a x hx => ?_⟩, rfl, fun z => ?_⟩
  · show ((wakeZ { p with safe := S }).length : Int) = p.g.Conv + p.g.Seq
    rw [show (wakeZ { p with safe := S }).length = p.zones.length by simp [wakeZ]]
    exact hlen
  · show 0 ≤ (zat (wakeZ { p with safe := S }) z).Point ∧ (zat (wakeZ { p with safe := S }) z).Point ≤ p.g.Size
    rw [hz]
    split
    · rw [hat]
      have := hgap z.toNat
      rcases hpt z.toNat with ⟨e, _⟩ | ⟨e, _⟩
      · rw [e]; omega
      · rw [e]; omega
    · simp only; omega
  · show zat (wakeZ { p with safe := S }) z = _
    have h1 : z < p.g.Conv := h1
    rw [hz, if_pos (by omega), hconv _ (by omega), hD.conv z h0 h1]
    rfl
  · show (zat (wakeZ { p with safe := S }) z).State ≠ 4
    have h0 : p.g.Conv ≤ z := h0
    have h1 : z < p.g.Conv + p.g.Seq := h1
    have hk := pz_four (hD.seq z h0 h1)
    rw [hz, if_pos (by omega)]
    unfold wakeC
    rw [if_neg (by simp only; omega)]
    simp only
    split
    · exact hk
    · split
      · show (0 : Int) ≠ 4; decide
      · split
        · show (2 : Int) ≠ 4; decide
        · exact hk
  · have hx : gGet eAt S a = some x := hx
    obtain ⟨z, o, k1, k2, k3, k4, k5⟩ := hpg a x hx
    exact hD.byt a x k5
  · have hq : pt { wakeD { p with safe := S } with cached := [] } z ≤ (if (z : Int) < p.g.Conv then 0 else gap (hasS S z) 0 p.g.Size.toNat) := by
      unfold pt
      show (zat (wakeZ { p with safe := S }) (z : Int)).Point.toNat ≤ _
      rw [hz, Int.toNat_natCast]
      split
      · rcases hpt z with ⟨e, k⟩ | ⟨e, k⟩
        · rw [e, if_pos k]; decide
        · rw [e, if_neg k]; omega
      · exact Nat.zero_le _
    have hev : ∀ o : Nat, o < pt { wakeD { p with safe := S } with cached := [] } z → o < pt p z ∧ pageAt { wakeD { p with safe := S } with cached := [] } ⟨z, (o : Nat)⟩ = pageAt p ⟨z, (o : Nat)⟩ := by
      intro o ho
      have ho2 : o < gap (hasS S z) 0 p.g.Size.toNat := by
        split at hq
        · omega
        · omega
      obtain ⟨v, hv⟩ := hsome z o ho2
      obtain ⟨z', o', k1, k2, k3, k4, k5⟩ := hpg _ v hv
      have e1 := congrArg TAt.Zone k1
      have e2 := congrArg TAt.Off k1
      simp only at e1 e2
      obtain rfl : z = z' := by omega
      obtain rfl : o = o' := by omega
      refine ⟨k4, ?_⟩
      show (gGet eAt S _).getD _ = (gGet eAt p.now _).getD _
      rw [hv, k5]
    refine ⟨?_, fun o ho => (hev o ho).2⟩
    by_cases c : pt { wakeD { p with safe := S } with cached := [] } z ≤ pt p z
    · exact c
    · have := (hev (pt p z) (by omega)).1
      omega
end Go.AX

namespace Go.AX
set_option autoImplicit false
set_option linter.unusedVariables false
set_option linter.unusedSimpArgs false
set_option maxRecDepth 4000
set_option maxHeartbeats 1000000

theorem up_inj : ∀ {l : List TFound}, up14 l → ∀ {a b : TFound}, a ∈ l → b ∈ l → a.Rec.Seq = b.Rec.Seq → a = b
  | [], _, a, b, ha, _, _ => by cases ha
  | y :: t, h, a, b, ha, hb, e => by
    obtain ⟨h1, h2⟩ := List.pairwise_cons.1 h
    rcases List.mem_cons.1 ha with ea | ea
    · rcases List.mem_cons.1 hb with eb | eb
      · rw [ea, eb]
      · have := h1 b eb; rw [ea] at e; omega
    · rcases List.mem_cons.1 hb with eb | eb
      · have := h1 a ea; rw [eb] at e; omega
      · exact up_inj h2 ea eb e
/-- The steps. -/
def stp : Nat → List Int → List TRef14_Step
  | _, [] => []
  | s, y :: t => ⟨y % 3, put14 7 (s + 1), false⟩ :: stp (s + 1) t
theorem stp_len : ∀ (s : Nat) (l : List Int), (stp s l).length = l.length
  | _, [] => rfl
  | s, y :: t => by simp [stp, stp_len (s + 1) t]
theorem stp_get : ∀ (s : Nat) (l : List Int) (i : Nat) (h : i < l.length), (stp s l)[i]'(by rw [stp_len]; exact h) = ⟨l[i] % 3, put14 7 (s + i + 1), false⟩
  | _, [], i, h => by simp at h
  | s, y :: t, 0, h => rfl
  | s, y :: t, i + 1, h => by
    have := stp_get (s + 1) t i (by simpa using h)
    simp only [stp, List.getElem_cons_succ, this]
    rw [show s + 1 + i + 1 = s + (i + 1) + 1 by omega]
theorem wf_mk8 {n : Int} (h : 0 ≤ n ∧ n < 256) : (Lit.int .u8 n).wf = true := by
  have e1 : IntKind.min .u8 = 0 := rfl
  have e2 : IntKind.max .u8 = 255 := rfl
  simp [Lit.wf, e1, e2]; omega
theorem wf_mk64 {n : Int} (h : -1000000000 ≤ n ∧ n < 1000000000) : (Lit.int .i64 n).wf = true := by
  have e1 : IntKind.min .i64 = -9223372036854775808 := rfl
  have e2 : IntKind.max .i64 = 9223372036854775807 := rfl
  simp [Lit.wf, e1, e2]; omega
theorem stp_b : ∀ (s : Nat) (l : List Int), s + l.length < 100000 → ∀ x ∈ stp s l, BRef14_Step x
  | _, [], _, x, hx => by cases hx
  | s, y :: t, hs, x, hx => by
    have hz : ∀ x ∈ (Ar.zero 32).l, (Lit.int .u8 x).wf = true := fun x hx => by rw [(List.mem_replicate.1 hx).2]; rfl
    rw [List.length_cons] at hs
    rcases List.mem_cons.1 hx with rfl | h
    · exact ⟨wf_mk8 (by simp only; omega), ⟨rfl, rfl, wf_mk64 (by simp only [put14]; omega), rfl, rfl, hz⟩, trivial⟩
    · exact stp_b (s + 1) t (by omega) x h
theorem stp_inv (s : Nat) (g : TGeom) (hg : Geo g) : ∀ (l : List Int) (n : Nat) (p : Dv), s + n + l.length < 100000 → KI s n p → DI p → p.g = g → KI s (n + l.length) ((stp (s + n) l).foldl (layStep g) p)
  | [], n, p, _, h, _, _ => h
  | y :: t, n, p, hn, h, hD, hpg => by
    rw [List.length_cons] at hn
    have hc := hg.c
    have hs := hg.s
    have h0 : 0 ≤ y % 3 % g.Seq := Int.emod_nonneg _ (by omega)
    have h1 : y % 3 % g.Seq < g.Seq := Int.emod_lt_of_pos _ (by omega)
    obtain ⟨Z, hZ⟩ := Int.eq_ofNat_of_zero_le (show 0 ≤ g.Conv + y % 3 % g.Seq by omega)
    have e : layStep g p ⟨y % 3, put14 7 (s + n + 1), false⟩ = (devW p ⟨Z, (zat p.zones Z).Point⟩ (pg14 s n)).2 := by
      unfold layStep
      simp only [hZ]
      rfl
    have k := h.step hD (by omega) Z (by rw [hpg]; omega) (by rw [hpg]; omega)
    have hb : Byt (pg14 s n).l := full_byt _ (bodyX_byt _ (fun x hx => by rw [(List.mem_replicate.1 hx).2]; omega))
    obtain ⟨d1, d2, _⟩ := devW_DI hD ⟨Z, (zat p.zones Z).Point⟩ (pg14 s n) hb
    simp only [stp, List.foldl_cons, List.length_cons, e]
    have := stp_inv s g hg t (n + 1) _ (by omega) k d1 (d2.trans hpg)
    rw [show n + (t.length + 1) = n + 1 + t.length by omega]
    exact this
theorem put14_7 (q : Nat) : m_law14_put 7 (q : Int) = some (put14 7 q) := rfl
theorem steps14 (s : Nat) (l : List Int) (hs : s < 65536) (hl : l.length ≤ 60) (hb : ∀ x ∈ l, 0 ≤ x ∧ x < 256) {β : Type} (k : List TRef14_Step → Option β) :
    Bnd (loop (σ := Int × (List TRef14_Step)) (ρ := ((List TRef14_Step))) (fun (v16, l17) => Let (ln l) fun v18 => Let (clt v16 v18) fun b19 => bif b19 then (Bnd (at? l v16) fun y20 => Bnd (nz? 3) fun _ => Let (binI .rem .u8 y20 3) fun v24 => Let (IntKind.wrap .i64 s) fun v25 => Let (iadd v25 v16) fun v26 => Let (iadd v26 1) fun v27 => Bnd (m_law14_put 7 v27) fun o29 => Bnd (app? 88 l17 [(TRef14_Step.mk v24 o29 false)]) fun l30 => Let (iadd v16 1) fun v31 => some (.inl (v31, l30))) else (some (.inr l17))) (0, ([] : List TRef14_Step))) k = k (stp s l) := by
  refine bnd_run (fun i => ((i : Int), (stp s l).take i)) l.length (stp s l) (by omega) rfl (fun i hi => ?_) ?_ rfl
  · simp only [let_eq]
    have hx := hb l[i] (List.getElem_mem hi)
    have e1 : clt (i : Int) (ln l) = true := decide_eq_true (by simp only [ln]; omega)
    have e2 : IntKind.wrap .i64 (s : Int) = s := by rw [IntKind.wrap_i64]; omega
    have e3 : iadd (s : Int) (i : Int) = s + i := add_ok (by omega)
    have e4 : iadd ((s : Int) + i) 1 = ((s + i + 1 : Nat) : Int) := (add_ok (by omega)).trans (by omega)
    have e5 : binI .rem .u8 l[i] 3 = l[i] % 3 := by
      show (l[i]).tmod 3 = _
      rw [Int.tmod_eq_emod_of_nonneg hx.1]
    have e6 : nz? 3 = some () := rfl
    rw [e1, cond_true, at?_nat, List.getElem?_eq_getElem hi, bnd_some, e6, bnd_some, e5, e2, e3, e4, put14_7, bnd_some, app_ok (by simp only [List.length_take, List.length_singleton]; omega), bnd_some, inc_nat i (by omega),
      show (stp s l).take (i + 1) = (stp s l).take i ++ [(stp s l)[i]'(by rw [stp_len]; exact hi)] by rw [List.take_add_one, List.getElem?_eq_getElem (by rw [stp_len]; exact hi)]; rfl, stp_get]
  · simp only [let_eq]
    rw [show clt ((l.length : Nat) : Int) (ln l) = false from decide_eq_false (by simp only [ln]; omega), cond_false, List.take_of_length_le (by rw [stp_len]; omega)]
end Go.AX

namespace Go.AX
set_option autoImplicit false
set_option linter.unusedVariables false
set_option linter.unusedSimpArgs false
set_option maxRecDepth 4000
set_option maxHeartbeats 1000000

theorem wf_u16 {n : Int} (h : (Lit.int .u16 n).wf = true) : 0 ≤ n ∧ n < 65536 := by
  have := wf_of h
  have e1 : IntKind.min .u16 = 0 := rfl
  have e2 : IntKind.max .u16 = 65535 := rfl
  omega
def noC (p : Dv) : Dv := ⟨p.g, p.zones, p.finished, p.safe, p.now, [], p.left_, p.down, p.illegal⟩
theorem crash14' {s n : Nat} {p : Dv} (h : KI s n p) (hD : DI p) (w : TWreck) (ht : w.Tear = 0) :
    DI (noC (crashD p w)) ∧ (noC (crashD p w)).g = p.g ∧ ∀ z : Nat, pt (noC (crashD p w)) z ≤ pt p z ∧ ∀ o, o < pt (noC (crashD p w)) z → pageAt (noC (crashD p w)) ⟨z, (o : Nat)⟩ = pageAt p ⟨z, (o : Nat)⟩ := crash14 h hD w ht
theorem law_ScanPrefix (g : TGeom) (xs : List Int) (q : Int) (w : TWreck) (wg : BGeom g) (wl : (∀ x ∈ xs, (Lit.int .u8 x).wf = true) ∧ xs.length ≤ maxLen) (wq : (Lit.int .u16 q).wf = true) (ww : BWreck w) : m_law14_ScanPrefix g xs q w = some true := by
  obtain ⟨b, hb, hL⟩ := little14 g wg
  have hq := wf_u16 wq
  obtain ⟨s, rfl⟩ := Int.eq_ofNat_of_zero_le hq.1
  have hs : s < 65536 := by omega
  unfold m_law14_ScanPrefix
  simp only [jn_eq, let_eq, awake14, bnd_some, Bool.not_true, cond_false, hb, cond_true]
  cases b with
  | false => simp
  | true =>
    obtain ⟨hg, h14, h24, h60⟩ := hL rfl
    by_cases h1 : (60 : Int) < xs.length
    · simp [h1, cgt_eq, ln]
    have hxs : xs.length ≤ 60 := by omega
    have hby : ∀ x ∈ xs, 0 ≤ x ∧ x < 256 := fun x hx => wf_u8 (wl.1 x hx)
    have hgt : cgt (ln xs) 60 = false := decide_eq_false h1
    have hw : IntKind.wrap .i64 (s : Int) = s := by rw [IntKind.wrap_i64]; omega
    simp only [hgt, cond_false, Bool.not_true]
    refine (steps14 s xs hs hxs hby _).trans ?_
    have hB := stp_b s xs (by omega)
    have hSl := stp_len s xs
    obtain ⟨hD, hDg⟩ := lay_DI hg hB
    have hK := stp_inv s g hg xs 0 (newD g) (by omega) (KI.new s g) (DI.new g hg) rfl
    obtain ⟨_, _, hcl⟩ := lay_inv g hg (stp s xs) (newD g) hB (DI.new g hg) rfl
    rw [ref14Lay g hg (stp s xs) hB (by omega), bnd_some]
    have hcl : (layAll g (stp s xs)).cached.length ≤ 1000 := by
      have e : (newD g).cached.length = 0 := rfl
      unfold layAll; omega
    have hK : KI s (0 + xs.length) (layAll g (stp s xs)) := hK
    generalize layAll g (stp s xs) = L at *
    simp only [hw]
    have hlen := hD.ok.len
    have hcs := hD.ok.g.cs
    have hcc := hD.ok.g.c
    have hss := hD.ok.g.s
    have hsz := hD.ok.g.z
    rw [scanAll hD g hDg.symm 7 s, bnd_some]
    have hcr : m___dev_Device__Crash ⟨w.Keep, w.Soft, 0⟩ L = some (crashD L ⟨w.Keep, w.Soft, 0⟩) := crash_eq L _ (by omega) (by omega) hD.ok.sm (by omega) (by omega) (fun x hx => by
      obtain ⟨z, o, k1, k2, k3, _⟩ := hK.cach x hx
      rw [k1]; simp only; omega)
    obtain ⟨c1, c2, c3⟩ := crash14' hK hD ⟨w.Keep, w.Soft, 0⟩ rfl
    simp only [hcr, bnd_some]
    generalize crashD L ⟨w.Keep, w.Soft, 0⟩ = L1 at *
    have hm : TDev_Device.mk L1.g L1.zones L1.finished L1.safe L1.now ([] : List TDev_write) L1.left_ L1.down L1.illegal = noC L1 := rfl
    simp only [hm]
    clear hm hcr
    generalize noC L1 = L2 at *
    have ezl : L2.zones.length = L.zones.length := by
      have e1 := c1.ok.len
      rw [c2] at e1
      omega
    have hsc := scanAll c1 g (hDg.symm.trans c2.symm) 7 s
    have hpart := fA_part (ep := 7) (sq := s) c2 c3 L.zones.length
    rw [ezl] at hsc
    rw [sortF_isort (fA_rise c1 7 s _)] at hsc
    rw [sortF_isort (fA_rise hD 7 s _)]
    rw [hsc, bnd_some]
    obtain ⟨u1, u2⟩ := hK.up hD (by omega) L.zones.length
    obtain ⟨p1, p2⟩ := isort_ok _ _ rfl (fA_rise hD 7 s L.zones.length)
    obtain ⟨q1, q2⟩ := isort_ok _ _ rfl (fA_rise c1 7 s L.zones.length)
    have hRl := p1.length_eq
    have hQl := q1.length_eq
    have hRb := fA_len hD 7 s L.zones.length
    have hsm := hD.ok.sm
    have hsub : ∀ y ∈ isort (fA L2 7 s L.zones.length), y ∈ isort (fA L 7 s L.zones.length) := fun y hy => p1.mem_iff.2 (hpart.subset (q1.mem_iff.1 hy))
    have hQR : (isort (fA L2 7 s L.zones.length)).length ≤ (isort (fA L 7 s L.zones.length)).length := by
      have := hpart.length_le; omega
    have heq : ¬ (isort (fA L2 7 s L.zones.length)).length < (isort (fA L 7 s L.zones.length)).length → isort (fA L2 7 s L.zones.length) = isort (fA L 7 s L.zones.length) := fun h => by
      rw [hpart.eq_of_length_le (by omega)]
    have uq : up14 (isort (fA L2 7 s L.zones.length)) := q2.imp_of_mem fun {a b} ha hb hab => by
      rcases hab with h | ⟨h, h'⟩
      · exact h
      · have := up_inj u1 (hsub a ha) (hsub b hb) h
        subst this; omega
    obtain ⟨v1, v2⟩ := chain_pre _ _ (s : Int) uq u1 hsub u2
    generalize isort (fA L2 7 s L.zones.length) = Q at *
    generalize isort (fA L 7 s L.zones.length) = R at *
    have hR : R.length ≤ 1000000 := by omega
    have hQ : Q.length ≤ 1000000 := by omega
    have hcq := chain_len Q s
    have hcr := chain_len R s
    simp only [cne_eq, ne_eq, not_true, decide_false, cond_false, scanChain Q s hQ (by omega), scanChain R s hR (by omega), bnd_some]
    generalize hC : chain Q s = C at *
    have hg2 : cgt (ln C) (ln R) = false := decide_eq_false (by simp only [ln]; omega)
    have hup : upto? R (ln C) = some C := by
      unfold upto?
      rw [if_pos (by simp only [ln]; omega)]
      simp only [ln, Int.toNat_natCast]
      rw [← v1]
    simp only [hg2, cond_false, hup, bnd_some, same14 C (by omega), Bool.not_true]
    refine bnd_run (fun i => (i : Int)) Q.length (.inl ()) (by omega) rfl (fun i hi => ?_) ?_ ?_
    · have e1 : clt (i : Int) (ln Q) = true := decide_eq_true (by simp only [ln]; omega)
      have e2 : iadd (s : Int) (ln C) = s + C.length := add_ok (by simp only [ln]; omega)
      have e3 : iadd ((s : Int) + C.length) 1 = s + C.length + 1 := add_ok (by omega)
      have e4 : ceq (Q[i]).Rec.Seq ((s : Int) + C.length + 1) = false := decide_eq_false (v2 _ (List.getElem_mem hi))
      simp only [e1, cond_true, get14 hi, bnd_some, e2, e3, e4, cond_false, inc_nat i (by omega)]
    · have e1 : clt ((Q.length : Nat) : Int) (ln Q) = false := decide_eq_false (by simp only [ln]; omega)
      simp only [e1, cond_false]
    · simp only [clt_eq, ceq_eq, ln]
      by_cases h : Q.length < R.length
      · by_cases k : ((C.length : Nat) : Int) = (chain R s).length
        · simp [k]
        · simp [k, h]
      · have := heq h
        subst this
        simp [hC]
end Go.AX
