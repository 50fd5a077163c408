/- Chapter 14: those that follow one another. Chapter 14: the reference's chain; chains of chains. Chapter 14: awake. Chapter 14: awake. Chapter 14: the laws of chains. Chapter 14: scan.All on a device that is down; the law of all. -/
import Derived.Test.YtgphlcbjgcogkaaDd
import Derived.Test.YtgphlcbjgcogkaaCc
namespace Go.AX
set_option autoImplicit false
set_option linter.unusedVariables false
set_option linter.unusedSimpArgs false
set_option maxRecDepth 4000
set_option maxHeartbeats 4000000

def chain : List TFound → Int → List TFound
  | [], _ => []
  | y :: t, q => if y.Rec.Seq = q + 1 then y :: chain t (q + 1) else chain t q
theorem chain_cons (y : TFound) (t : List TFound) (q : Int) : chain (y :: t) q = if y.Rec.Seq = q + 1 then y :: chain t (q + 1) else chain t q := rfl
theorem chain_skip (A B : List TFound) (q : Int) (h : ∀ y ∈ A, y.Rec.Seq ≠ q + 1) : chain (A ++ B) q = chain B q := by
  induction A with
  | nil => rfl
  | cons y t ih =>
    have h1 := h y (by simp)
    show (if y.Rec.Seq = q + 1 then _ else chain (t ++ B) q) = _
    rw [if_neg h1]
    exact ih (fun z hz => h z (by simp [hz]))
theorem chain_len (l : List TFound) : ∀ q, (chain l q).length ≤ l.length := by
  induction l with
  | nil => intro q; simp [chain]
  | cons y t ih =>
    intro q
    unfold chain
    split
    · have := ih (q + 1); simp; omega
    · have := ih q; simp; omega
theorem get14 {l : List TFound} {j : Nat} (hj : j < l.length) : at? l (j : Int) = some (l[j]) := by rw [at?_nat, List.getElem?_eq_getElem hj]
theorem inc14 (j : Nat) (h : j < 1099511627776) : iadd (j : Int) 1 = (j : Int) + 1 := add_ok (by omega)
theorem scanChain (l : List TFound) (q0 : Int) (hl : l.length ≤ 1000) (hq : 0 ≤ q0 ∧ q0 ≤ 1099511627776) : m_scan_Chain l q0 = some (chain l q0) := by
  unfold m_scan_Chain
  simp only [let_eq, jn_eq]
  obtain ⟨r, h1, h2⟩ := loop_inv (σ := Int × Int × (List TFound)) (ρ := ((List TFound))) (s0 := (q0, 0, ([] : List TFound))) (step := fun s22 => bif clt s22.2.1 (ln l) then (Bnd (at? l s22.2.1) fun y29 => bif ceq y29.Rec.Seq (iadd s22.1 1) then (Bnd (app? 80 s22.2.2 [y29]) fun l45 => some (.inl (iadd s22.1 1, iadd s22.2.1 1, l45))) else (some (.inl (s22.1, iadd s22.2.1 1, s22.2.2)))) else (some (.inr (s22.2.2))))
    (fun s => (0 ≤ s.2.1 ∧ s.2.1 ≤ l.length) ∧ s.1 = q0 + s.2.2.length ∧ (s.2.2.length : Int) ≤ s.2.1 ∧ s.2.2 ++ chain (l.drop s.2.1.toNat) s.1 = chain l q0) (fun s => (l.length - s.2.1).toNat) (fun r => r = chain l q0)
    ⟨⟨by simp, by simp⟩, by simp, by simp, by simp⟩ (by simp only; omega) (by
      rintro ⟨q, i, o⟩ ⟨⟨k1, k2⟩, k3, k4, k5⟩
      simp only at k1 k2 k3 k4 k5
      obtain ⟨j, rfl⟩ := Int.eq_ofNat_of_zero_le k1
      simp only [Int.toNat_natCast] at k5
      by_cases hj : j < l.length
      · left
        have e1 : (j : Int) < ln l := by simp only [ln]; omega
        have e2 : iadd q 1 = q + 1 := add_ok (by omega)
        have e3 : app? 80 o [l[j]] = some (o ++ [l[j]]) := app_ok (by simp; omega)
        have e4 : l.drop j = l[j] :: l.drop (j + 1) := List.drop_eq_getElem_cons hj
        simp only [clt_eq, e1, decide_true, cond_true, get14 hj, bnd_some, e2, ceq_eq, inc14 j (by omega)]
        rw [e4, chain_cons] at k5
        by_cases c1 : (l[j]).Rec.Seq = q + 1
        · rw [decide_eq_true c1, cond_true, e3]
          rw [if_pos c1] at k5
          refine ⟨_, rfl, ⟨⟨by simp only; omega, by simp only; omega⟩, by simp only [List.length_append, List.length_singleton]; omega, by simp only [List.length_append, List.length_singleton]; omega, ?_⟩, by simp only; omega⟩
          show (o ++ [l[j]]) ++ chain (l.drop ((j : Int) + 1).toNat) (q + 1) = _
          rw [show ((j : Int) + 1).toNat = j + 1 by omega, List.append_assoc]
          exact k5
        · rw [decide_eq_false c1, cond_false]
          rw [if_neg c1] at k5
          refine ⟨_, rfl, ⟨⟨by simp only; omega, by simp only; omega⟩, k3, by simp only; omega, ?_⟩, by simp only; omega⟩
          show o ++ chain (l.drop ((j : Int) + 1).toNat) q = _
          rw [show ((j : Int) + 1).toNat = j + 1 by omega]
          exact k5
      · right
        have e1 : ¬ (j : Int) < ln l := by simp only [ln]; omega
        refine ⟨o, by simp only [clt_eq, e1, decide_false, cond_false], ?_⟩
        rw [List.drop_of_length_le (by omega)] at k5
        simpa [chain] using k5)
  rw [h1, h2]; rfl
theorem scanLast (l : List TFound) (q0 : Int) (hl : l.length ≤ 1000) (hq : 0 ≤ q0 ∧ q0 ≤ 1099511627776) : m_scan_Last l q0 = some (q0 + (chain l q0).length) := by
  have := chain_len l q0
  unfold m_scan_Last
  rw [scanChain l q0 hl hq]
  simp only [bnd_some, let_eq, jn_eq]
  rw [show iadd q0 (ln (chain l q0)) = q0 + (chain l q0).length from add_ok (by simp only [ln]; omega)]
theorem same14 (l : List TFound) (hl : l.length ≤ 1000000) : m_ref14_Same l l = some true := by
  unfold m_ref14_Same
  simp only [let_eq, jn_eq, cne_eq, ne_eq, not_true, decide_false, cond_false]
  refine bnd_run (fun i => (i : Int)) l.length (.inl ()) (by omega) rfl (fun j hj => ?_) ?_ rfl
  · have e1 : (j : Int) < ln l := by simp only [ln]; omega
    simp only [clt_eq, e1, decide_true, cond_true, get14 hj, bnd_some, beq_self_eq_true, Bool.and_true, Bool.not_true, cond_false]
    rw [show iadd (j : Int) 1 = ((j + 1 : Nat) : Int) by rw [inc14 j (by omega)]; rfl]
  · simp only [clt_eq, ln, Int.lt_irrefl, decide_false, cond_false]
/-- The reference's: the first one behind a place. -/
theorem inner14 (l : List TFound) (f : Nat) (s : Int) (hl : l.length ≤ 1000) (hf : f ≤ l.length) (hs : -1000 ≤ s ∧ s ≤ 2199023255552) :
    ∃ r : Int, loop (σ := Int × Int) (ρ := Int) (fun s38 => bif cge s38.2 (f : Int) then (Bnd (at? l s38.2) fun y41 => bif ceq y41.Rec.Seq s then (some (.inl (s38.2, isub s38.2 1))) else (some (.inl (s38.1, isub s38.2 1)))) else (some (.inr (s38.1)))) (-1, isub (ln l) 1) = some r ∧
      ((r = -1 ∧ ∀ j (hj : j < l.length), f ≤ j → (l[j]).Rec.Seq ≠ s) ∨ ∃ (j : Nat) (hj : j < l.length), r = j ∧ f ≤ j ∧ (l[j]).Rec.Seq = s ∧ ∀ i (hi : i < l.length), f ≤ i → i < j → (l[i]).Rec.Seq ≠ s) := by
  have e0 : isub (ln l) 1 = (l.length : Int) - 1 := sub_ok (by simp only [ln]; omega)
  rw [e0]
  refine loop_inv (σ := Int × Int) (ρ := Int) (s0 := (-1, (l.length : Int) - 1)) (step := fun s38 => bif cge s38.2 (f : Int) then (Bnd (at? l s38.2) fun y41 => bif ceq y41.Rec.Seq s then (some (.inl (s38.2, isub s38.2 1))) else (some (.inl (s38.1, isub s38.2 1)))) else (some (.inr (s38.1))))
    (fun t => ((f : Int) - 1 ≤ t.2 ∧ t.2 < l.length) ∧ ((t.1 = -1 ∧ ∀ j (hj : j < l.length), t.2 < (j : Int) → (l[j]).Rec.Seq ≠ s) ∨ ∃ (j : Nat) (hj : j < l.length), t.1 = j ∧ t.2 < (j : Int) ∧ (l[j]).Rec.Seq = s ∧ ∀ i (hi : i < l.length), t.2 < (i : Int) → i < j → (l[i]).Rec.Seq ≠ s))
    (fun t => (t.2 + 1).toNat) _ ⟨⟨by simp only; omega, by simp only; omega⟩, .inl ⟨rfl, fun j hj h => by simp only at h; omega⟩⟩ (by simp only; omega) ?_
  rintro ⟨a, i⟩ ⟨⟨k1, k2⟩, k3⟩
  simp only at k1 k2 k3
  by_cases hi : (f : Int) ≤ i
  · left
    obtain ⟨m, rfl⟩ := Int.eq_ofNat_of_zero_le (show 0 ≤ i by omega)
    have hm : m < l.length := by omega
    have e1 : isub (m : Int) 1 = (m : Int) - 1 := sub_ok (by omega)
    simp only [cge_eq, hi, decide_true, cond_true, get14 hm, bnd_some, ceq_eq, e1]
    by_cases c1 : (l[m]).Rec.Seq = s
    · rw [decide_eq_true c1, cond_true]
      refine ⟨_, rfl, ⟨⟨by simp only; omega, by simp only; omega⟩, .inr ⟨m, hm, rfl, by simp only; omega, c1, fun q hq h1 h2 => by simp only at h1; omega⟩⟩, by simp only; omega⟩
    · rw [decide_eq_false c1, cond_false]
      refine ⟨_, rfl, ⟨⟨by simp only; omega, by simp only; omega⟩, ?_⟩, by simp only; omega⟩
      rcases k3 with ⟨h1, h2⟩ | ⟨j, hj, h1, h2, h3, h4⟩
      · refine .inl ⟨h1, fun j hj hjm => ?_⟩
        simp only at hjm
        by_cases e : j = m
        · subst e; exact c1
        · exact h2 j hj (by omega)
      · refine .inr ⟨j, hj, h1, by simp only; omega, h3, fun q hq hqm hqj => ?_⟩
        simp only at hqm
        by_cases e : q = m
        · subst e; exact c1
        · exact h4 q hq (by omega) hqj
  · right
    refine ⟨a, by simp only [cge_eq, hi, decide_false, cond_false], ?_⟩
    rcases k3 with ⟨h1, h2⟩ | ⟨j, hj, h1, h2, h3, h4⟩
    · exact .inl ⟨h1, fun j hj hjf => h2 j hj (by omega)⟩
    · by_cases hfj : f ≤ j
      · exact .inr ⟨j, hj, h1, hfj, h3, fun q hq hqf hqj => h4 q hq (by omega) hqj⟩
      · omega
end Go.AX

namespace Go.AX
set_option autoImplicit false
set_option linter.unusedVariables false
set_option linter.unusedSimpArgs false
set_option maxRecDepth 4000
set_option maxHeartbeats 4000000

theorem chain_none (l : List TFound) (f : Nat) (q : Int) (h : ∀ j (hj : j < l.length), f ≤ j → (l[j]).Rec.Seq ≠ q + 1) : chain (l.drop f) q = [] := by
  have := chain_skip (l.drop f) [] q (fun y hy => by
    obtain ⟨i, hi, rfl⟩ := List.getElem_of_mem hy
    rw [List.getElem_drop]
    exact h (f + i) (by rw [List.length_drop] at hi; omega) (by omega))
  rw [List.append_nil] at this
  rw [this]; rfl
theorem chain_first (l : List TFound) (f j : Nat) (q : Int) (hj : j < l.length) (hf : f ≤ j) (hs : (l[j]).Rec.Seq = q + 1) (h : ∀ i (hi : i < l.length), f ≤ i → i < j → (l[i]).Rec.Seq ≠ q + 1) : chain (l.drop f) q = l[j] :: chain (l.drop (j + 1)) (q + 1) := by
  have e : l.drop f = (l.drop f).take (j - f) ++ l[j] :: l.drop (j + 1) := by
    have h1 := List.take_append_drop (j - f) (l.drop f)
    rw [List.drop_drop, show f + (j - f) = j by omega, List.drop_eq_getElem_cons hj] at h1
    exact h1.symm
  rw [e, chain_skip _ _ q (fun y hy => ?_), chain_cons, if_pos hs]
  obtain ⟨i, hi, rfl⟩ := List.getElem_of_mem hy
  rw [List.length_take, List.length_drop] at hi
  rw [List.getElem_take, List.getElem_drop]
  exact h (f + i) (by omega) (by omega) (by omega)
theorem refChain (l : List TFound) (q0 : Int) (hl : l.length ≤ 1000) (hq : 0 ≤ q0 ∧ q0 ≤ 1099511627776) : m_ref14_Chain l q0 = some (chain l q0) := by
  unfold m_ref14_Chain
  simp only [let_eq, jn_eq]
  obtain ⟨r, h1, h2⟩ := loop_inv (σ := Int × (List TFound)) (ρ := ((List TFound))) (s0 := (0, ([] : List TFound))) (step := fun s21 => Bnd (loop (σ := Int × Int) (ρ := Int) (fun s38 => bif cge s38.2 s21.1 then (Bnd (at? l s38.2) fun y41 => bif ceq y41.Rec.Seq (iadd (iadd q0 1) (ln s21.2)) then (some (.inl (s38.2, isub s38.2 1))) else (some (.inl (s38.1, isub s38.2 1)))) else (some (.inr (s38.1)))) (-1, isub (ln l) 1)) fun q28 => bif clt q28 0 then (some (.inr (s21.2))) else (Bnd (at? l q28) fun y42 => Bnd (app? 80 s21.2 [y42]) fun l56 => some (.inl (iadd q28 1, l56))))
    (fun s => (0 ≤ s.1 ∧ s.1 ≤ l.length) ∧ (s.2.length : Int) ≤ s.1 ∧ s.2 ++ chain (l.drop s.1.toNat) (q0 + s.2.length) = chain l q0) (fun s => (l.length - s.1).toNat) (fun r => r = chain l q0)
    ⟨⟨by simp, by simp⟩, by simp, by simp⟩ (by simp only; omega) (by
      rintro ⟨i, o⟩ ⟨⟨k1, k2⟩, k4, k5⟩
      simp only at k1 k2 k4 k5
      obtain ⟨f, rfl⟩ := Int.eq_ofNat_of_zero_le k1
      simp only [Int.toNat_natCast] at k5
      have e1 : iadd q0 1 = q0 + 1 := add_ok (by omega)
      have e2 : iadd (q0 + 1) (ln o) = q0 + 1 + o.length := add_ok (by simp only [ln]; omega)
      obtain ⟨r, hr, hc⟩ := inner14 l f (q0 + 1 + o.length) hl (by omega) (by omega)
      simp only [e1, e2, hr, bnd_some]
      rcases hc with ⟨rfl, hn⟩ | ⟨j, hj, rfl, hfj, hs, hb⟩
      · right
        refine ⟨o, rfl, ?_⟩
        rw [chain_none l f _ (fun j hj hfj => by rw [show q0 + (o.length : Int) + 1 = q0 + 1 + o.length by omega]; exact hn j hj hfj)] at k5
        simpa using k5
      · left
        have e3 : ¬ (j : Int) < 0 := by omega
        have e4 : app? 80 o [l[j]] = some (o ++ [l[j]]) := app_ok (by simp; omega)
        simp only [clt_eq, e3, decide_false, cond_false, get14 hj, bnd_some, e4, inc14 j (by omega)]
        rw [chain_first l f j _ hj hfj (by omega) (fun i hi hfi hij => by rw [show q0 + (o.length : Int) + 1 = q0 + 1 + o.length by omega]; exact hb i hi hfi hij)] at k5
        refine ⟨_, rfl, ⟨⟨by simp only; omega, by simp only; omega⟩, by simp only [List.length_append, List.length_singleton]; omega, ?_⟩, by simp only; omega⟩
        show (o ++ [l[j]]) ++ chain (l.drop ((j : Int) + 1).toNat) (q0 + ((o ++ [l[j]]).length : Nat)) = _
        rw [show ((j : Int) + 1).toNat = j + 1 by omega, List.append_assoc, List.length_append, List.length_singleton, show q0 + ((o.length + 1 : Nat) : Int) = q0 + o.length + 1 by omega]
        exact k5)
  rw [h1, h2]; rfl
theorem chain_chain (l : List TFound) : ∀ q, chain (chain l q) q = chain l q := by
  induction l with
  | nil => intro q; rfl
  | cons y t ih =>
    intro q
    rw [chain_cons]
    by_cases h : y.Rec.Seq = q + 1
    · rw [if_pos h, chain_cons, if_pos h, ih]
    · rw [if_neg h, ih]
theorem chain_at (l : List TFound) : ∀ (q : Int) (i : Nat) (hi : i < (chain l q).length), ((chain l q)[i]).Rec.Seq = q + 1 + i := by
  induction l with
  | nil => intro q i hi; simp [chain] at hi
  | cons y t ih =>
    intro q i hi
    by_cases h : y.Rec.Seq = q + 1
    · have e : chain (y :: t) q = y :: chain t (q + 1) := by rw [chain_cons, if_pos h]
      cases i with
      | zero => simp only [e, List.getElem_cons_zero]; omega
      | succ i =>
        simp only [e, List.length_cons] at hi
        simp only [e, List.getElem_cons_succ]
        rw [ih (q + 1) i (by omega)]; omega
    · have e : chain (y :: t) q = chain t q := by rw [chain_cons, if_neg h]
      simp only [e] at hi ⊢
      exact ih q i hi
theorem chain_over (l : List TFound) (q : Int) : chain (chain l q) (q + (chain l q).length) = [] := by
  have := chain_none (chain l q) 0 (q + (chain l q).length) (fun j hj _ => by rw [chain_at l q j hj]; omega)
  simpa using this
end Go.AX

namespace Go.AX
set_option autoImplicit false
set_option linter.unusedVariables false
set_option linter.unusedSimpArgs false
set_option maxRecDepth 8000
set_option maxHeartbeats 4000000

def pageS (r : TRec) : Ar 64 := ⟨full (bodyX r), full_len _ (by rw [bodyX_len]; decide)⟩
theorem pageS_read (k e q b c : Nat) (d : Ar 32) (hk : k < 256) (h : rightR ⟨k, e, q, b, c, d⟩ = true) : readR (pageS ⟨k, e, q, b, c, d⟩) = (⟨k, e, q, b, c, d⟩, 0) := by
  have h' := h
  unfold rightR at h'
  simp only [Bool.and_eq_true, Bool.or_eq_true, decide_eq_true_eq] at h'
  refine readR_full _ k e q b c d ?_ h
  show full (bodyX _) = _
  rw [bodyX_nat k e q b c d hk (by omega) (by omega) (by omega) (by omega)]
/-- Laid as pages. -/
def layL (g : TGeom) (l : List (Int × Ar 64)) : Dv := l.foldl (fun p s => (devW p ⟨g.Conv + s.1 % g.Seq, (zat p.zones (g.Conv + s.1 % g.Seq)).Point⟩ s.2).2) (newD g)
theorem layAll_L (g : TGeom) (l : List TRef14_Step) : layAll g l = layL g (l.map fun s => (s.Zone, if s.Junk = true then Ar.zero 64 else pageS s.Rec)) := by
  unfold layAll layL
  rw [List.foldl_map]
  rfl
def put14 (e q : Nat) : TRec := ⟨(2 : Nat), e, q, (1 : Nat), (0 : Nat), Ar.zero 32⟩
theorem put14_eq (e q : Nat) : m_law14_put (e : Int) (q : Int) = some (put14 e q) := rfl
theorem put14_right {e q : Nat} (he : 1 ≤ e ∧ e ≤ 1000) (hq : 1 ≤ q ∧ q ≤ 1000000) : rightR (put14 e q) = true := by
  unfold rightR put14
  simp only [Bool.and_eq_true, Bool.or_eq_true, decide_eq_true_eq]
  exact ⟨⟨by omega, by omega, by omega, by omega⟩, .inl (.inr ⟨rfl, by decide, by decide, rfl, trivial⟩)⟩
theorem put14_read {e q : Nat} (he : 1 ≤ e ∧ e ≤ 1000) (hq : 1 ≤ q ∧ q ≤ 1000000) : readR (pageS (put14 e q)) = (put14 e q, 0) :=
  pageS_read 2 e q 1 0 _ (by decide) (put14_right he hq)
def g14 : TGeom := ⟨2, 8, 6, 8, 3⟩
def l14 : List TRef14_Step := [⟨1, put14 2 5, false⟩, ⟨0, put14 2 6, false⟩, ⟨1, put14 2 8, false⟩, ⟨1, put14 1 9, false⟩]
theorem g14_geo : Geo g14 := ⟨by decide, by decide, by decide, by decide⟩
theorem l14_b : ∀ s ∈ l14, BRef14_Step s := by
  intro s hs
  have hz : ∀ x ∈ (Ar.zero 32).l, (Lit.int .u8 x).wf = true := fun x hx => by rw [(List.mem_replicate.1 hx).2]; rfl
  simp only [l14, List.mem_cons, List.not_mem_nil, or_false] at hs
  rcases hs with rfl | rfl | rfl | rfl <;> exact ⟨rfl, ⟨rfl, rfl, rfl, rfl, rfl, hz⟩, trivial⟩
theorem lay_DI {g : TGeom} (hg : Geo g) {l : List TRef14_Step} (hb : ∀ s ∈ l, BRef14_Step s) : DI (layAll g l) ∧ (layAll g l).g = g := by
  obtain ⟨h1, h2, _⟩ := lay_inv g hg l (newD g) hb (DI.new g hg) rfl
  exact ⟨h1, h2⟩
theorem fz_none {p : Dv} {ep sq : Int} {z : Nat} (h : pt p z = 0) : fz p ep sq z (pt p z) = [] := by rw [h]; rfl
def f14 : List TFound := [⟨1, put14 2 6⟩, ⟨9, put14 2 5⟩, ⟨10, put14 2 8⟩]
theorem lay14_found : fA (layAll g14 l14) 2 4 8 = f14 ∧ (layAll g14 l14).zones.length = 8 := by
  have e : layAll g14 l14 = layL g14 [(1, pageS (put14 2 5)), (0, pageS (put14 2 6)), (1, pageS (put14 2 8)), (1, pageS (put14 1 9))] := layAll_L _ _
  have r1 := put14_read (e := 2) (q := 5) (by decide) (by decide)
  have r2 := put14_read (e := 2) (q := 6) (by decide) (by decide)
  have r3 := put14_read (e := 2) (q := 8) (by decide) (by decide)
  have r4 := put14_read (e := 1) (q := 9) (by decide) (by decide)
  rw [e]
  generalize pageS (put14 2 5) = p1 at *
  generalize pageS (put14 2 6) = p2 at *
  generalize pageS (put14 2 8) = p3 at *
  generalize pageS (put14 1 9) = p4 at *
  clear e
  have hD : layL g14 [(1, p1), (0, p2), (1, p3), (1, p4)] = ⟨g14, [⟨4, 0⟩, ⟨4, 0⟩, ⟨1, 1⟩, ⟨1, 3⟩, ⟨0, 0⟩, ⟨0, 0⟩, ⟨0, 0⟩, ⟨0, 0⟩], [], [], [(⟨3, 0⟩, p1), (⟨2, 0⟩, p2), (⟨3, 1⟩, p3), (⟨3, 2⟩, p4)], [⟨⟨3, 0⟩, p1⟩, ⟨⟨2, 0⟩, p2⟩, ⟨⟨3, 1⟩, p3⟩, ⟨⟨3, 2⟩, p4⟩], -1, false, 0⟩ := by kernel_rfl
  rw [hD]
  refine ⟨?_, rfl⟩
  rw [fA_succ, fA_succ, fA_succ, fA_succ, fA_succ, fA_succ, fA_succ, fA_succ]
  rw [fz_none (z := 0) rfl, fz_none (z := 1) rfl, fz_none (z := 4) rfl, fz_none (z := 5) rfl, fz_none (z := 6) rfl, fz_none (z := 7) rfl]
  generalize hX : (⟨g14, [⟨4, 0⟩, ⟨4, 0⟩, ⟨1, 1⟩, ⟨1, 3⟩, ⟨0, 0⟩, ⟨0, 0⟩, ⟨0, 0⟩, ⟨0, 0⟩], [], [], [(⟨3, 0⟩, p1), (⟨2, 0⟩, p2), (⟨3, 1⟩, p3), (⟨3, 2⟩, p4)], [⟨⟨3, 0⟩, p1⟩, ⟨⟨2, 0⟩, p2⟩, ⟨⟨3, 1⟩, p3⟩, ⟨⟨3, 2⟩, p4⟩], -1, false, 0⟩ : Dv) = X
  have q2 : pt X 2 = 1 := by rw [← hX]; rfl
  have q3 : pt X 3 = 3 := by rw [← hX]; rfl
  have g : X.g = g14 := by rw [← hX]
  have a1 : pageAt X ⟨((3 : Nat) : Int), ((0 : Nat) : Int)⟩ = p1 := by rw [← hX]; rfl
  have a2 : pageAt X ⟨((2 : Nat) : Int), ((0 : Nat) : Int)⟩ = p2 := by rw [← hX]; rfl
  have a3 : pageAt X ⟨((3 : Nat) : Int), ((1 : Nat) : Int)⟩ = p3 := by rw [← hX]; rfl
  have a4 : pageAt X ⟨((3 : Nat) : Int), ((2 : Nat) : Int)⟩ = p4 := by rw [← hX]; rfl
  have h2 : fz X 2 4 2 (pt X 2) = [⟨1, put14 2 6⟩] := by
    rw [q2, fz_succ]
    have : fnd X 2 4 2 0 = some ⟨1, put14 2 6⟩ := by
      unfold fnd
      rw [a2, r2, g, if_pos (by decide)]; rfl
    rw [this]; rfl
  have h3 : fz X 2 4 3 (pt X 3) = [⟨9, put14 2 5⟩, ⟨10, put14 2 8⟩] := by
    rw [q3, fz_succ, fz_succ, fz_succ]
    have f1 : fnd X 2 4 3 0 = some ⟨9, put14 2 5⟩ := by
      unfold fnd
      rw [a1, r1, g, if_pos (by decide)]; rfl
    have f2 : fnd X 2 4 3 1 = some ⟨10, put14 2 8⟩ := by
      unfold fnd
      rw [a3, r3, g, if_pos (by decide)]; rfl
    have f3 : fnd X 2 4 3 2 = none := by
      unfold fnd
      rw [a4, r4, if_neg (by decide)]
    rw [f1, f2, f3]; rfl
  rw [h2, h3]
  rfl
end Go.AX

namespace Go.AX
set_option autoImplicit false
set_option linter.unusedVariables false
set_option linter.unusedSimpArgs false
set_option maxRecDepth 8000
set_option maxHeartbeats 400000

def f14s : List TFound := [⟨9, put14 2 5⟩, ⟨1, put14 2 6⟩, ⟨10, put14 2 8⟩]
theorem isort14 : isort f14 = f14s := rfl
theorem chain14 : chain f14s 4 = [⟨9, put14 2 5⟩, ⟨1, put14 2 6⟩] := rfl
theorem chain14b : chain f14s 6 = [] := rfl
theorem awake14 : m_law14_awake = some true := by
  obtain ⟨h1, h2⟩ := lay_DI g14_geo l14_b
  obtain ⟨h3, h4⟩ := lay14_found
  have e1 := ref14Lay g14 g14_geo l14 l14_b (by decide)
  have e2 := scanAll h1 g14 h2.symm 2 4
  rw [sortF_isort (fA_rise h1 2 4 _), h4, h3, isort14] at e2
  have c1 := scanChain f14s 4 (by decide) (by decide)
  have c2 := scanLast f14s 4 (by decide) (by decide)
  have c3 := scanLast f14s 6 (by decide) (by decide)
  rw [chain14] at c1 c2
  rw [chain14b] at c3
  generalize layAll g14 l14 = L at *
  have p1 : m_law14_put 2 5 = _ := put14_eq 2 5
  have p2 : m_law14_put 2 6 = _ := put14_eq 2 6
  have p3 : m_law14_put 2 8 = _ := put14_eq 2 8
  have p4 : m_law14_put 1 9 = _ := put14_eq 1 9
  unfold m_law14_awake
  rw [let_eq, p1, bnd_some, p2, bnd_some, p3, bnd_some, p4, bnd_some]
  show Bnd (m_ref14_Lay g14 l14) _ = _
  rw [e1, bnd_some]
  show Bnd (m_scan_All g14 2 4 L) _ = _
  rw [e2, bnd_some]
  clear e1 e2 h1 h2 h3 h4 p1 p2 p3 p4
  have q0 : at? f14s 0 = some ⟨9, put14 2 5⟩ := rfl
  have q1 : at? f14s 1 = some ⟨1, put14 2 6⟩ := rfl
  have q2 : at? f14s 2 = some ⟨10, put14 2 8⟩ := rfl
  have l1 : ln f14s = 3 := rfl
  simp only [let_eq, l1, q0, q1, q2, bnd_some, c1, c2, c3]
  rfl
end Go.AX

namespace Go.AX
set_option autoImplicit false
set_option linter.unusedVariables false
set_option linter.unusedSimpArgs false
set_option maxRecDepth 4000
set_option maxHeartbeats 4000000

theorem law_ScanChains (l : List TFound) (q : Int) (wl : (∀ x ∈ l, BFound x) ∧ l.length ≤ maxLen) (wq : (Lit.int .i64 q).wf = true) : m_law14_ScanChains l q = some true := by
  have hq := wf_i64 wq
  unfold m_law14_ScanChains
  simp only [jn_eq, let_eq, awake14, bnd_some, Bool.not_true, cond_false, cgt_eq, clt_eq, cond_true, ln]
  by_cases h1 : (60 : Int) < l.length
  · simp [h1]
  by_cases h2 : q < 0
  · simp [h1, h2]
  by_cases h3 : 1099511627776 < q
  · simp [h1, h2, h3]
  have hl : l.length ≤ 1000 := by omega
  have hq2 : 0 ≤ q ∧ q ≤ 1099511627776 := by omega
  have hc := chain_len l q
  simp only [h1, h2, h3, decide_false, cond_false, refChain l q hl hq2, scanChain l q hl hq2, bnd_some, same14 (chain l q) (by omega), cond_true, scanLast l q hl hq2]
  rw [show iadd q ((chain l q).length : Int) = q + (chain l q).length from add_ok (by omega)]
  simp
theorem law_ScanTwice (l : List TFound) (q : Int) (wl : (∀ x ∈ l, BFound x) ∧ l.length ≤ maxLen) (wq : (Lit.int .i64 q).wf = true) : m_law14_ScanTwice l q = some true := by
  have hq := wf_i64 wq
  unfold m_law14_ScanTwice
  simp only [jn_eq, let_eq, awake14, bnd_some, Bool.not_true, cond_false, cgt_eq, clt_eq, cond_true]
  by_cases h1 : (60 : Int) < ln l
  · simp [h1]
  by_cases h2 : q < 0
  · simp [h1, h2]
  by_cases h3 : 549755813888 < q
  · simp [h1, h2, h3]
  simp only [ln] at h1
  have hl : l.length ≤ 1000 := by omega
  have hq2 : 0 ≤ q ∧ q ≤ 1099511627776 := by omega
  have hc := chain_len l q
  simp only [ln, h1, h2, h3, decide_false, cond_false, scanChain l q hl hq2, bnd_some]
  refine bnd_run (fun i => (i : Int)) (chain l q).length (.inl ()) (by omega) rfl (fun j hj => ?_) ?_ ?_
  · have e1 : (j : Int) < (chain l q).length := by omega
    have e2 : iadd q 1 = q + 1 := add_ok (by omega)
    have e3 : iadd (q + 1) (j : Int) = q + 1 + j := add_ok (by omega)
    simp only [e1, decide_true, cond_true, get14 hj, bnd_some, e2, e3, cne_eq, chain_at l q j hj, ne_eq, not_true, decide_false, cond_false]
    rw [show iadd (j : Int) 1 = ((j + 1 : Nat) : Int) by rw [inc14 j (by omega)]; rfl]
  · simp only [Int.lt_irrefl, decide_false, cond_false]
  · simp only [scanLast l q hl hq2, bnd_some, scanChain (chain l q) q (by omega) hq2, chain_chain, same14 (chain l q) (by omega), cond_true]
    rw [show iadd q ((chain l q).length : Int) = q + (chain l q).length from add_ok (by omega)]
    simp only [ceq_eq, decide_true, cond_true, scanChain (chain l q) (q + (chain l q).length) (by omega) (by omega), bnd_some, chain_over]
    rfl
end Go.AX

namespace Go.AX
set_option autoImplicit false
set_option linter.unusedVariables false
set_option linter.unusedSimpArgs false
set_option maxRecDepth 4000
set_option maxHeartbeats 1000000

theorem first_or (P : Nat → Prop) : ∀ n, (∀ i, i < n → ¬ P i) ∨ ∃ k, k < n ∧ P k ∧ ∀ i, i < k → ¬ P i
  | 0 => .inl fun i hi => absurd hi (Nat.not_lt_zero i)
  | n + 1 => by
    rcases first_or P n with h | ⟨k, h1, h2, h3⟩
    · by_cases hn : P n
      · exact .inr ⟨n, Nat.lt_succ_self n, hn, h⟩
      · refine .inl fun i hi => ?_
        by_cases e : i = n
        · subst e; exact hn
        · exact h i (by omega)
    · exact .inr ⟨k, by omega, h2, h3⟩
theorem scanDead (p : Dv) (g : TGeom) (hd : p.down = true) (hl : p.zones.length ≤ 1000) (ep sq : Int) : m_scan_All g ep sq p = some ([], 2, p) := by
  unfold m_scan_All
  rw [devZones p hl]
  simp only [let_eq, jn_eq, bnd_some]
  have hin : ∀ z, (hz : z < p.zones.length) → at? p.zones (z : Int) = some p.zones[z] := fun z hz => by rw [at?_nat, List.getElem?_eq_getElem hz]
  have hs : srt2? (fun f : TFound => f.Rec.Seq) (fun f : TFound => f.Place) [] = some [] := by
    have e : sortF [] = [] := (sortF_isort (l := []) List.Pairwise.nil).trans rfl
    unfold srt2?
    rw [if_pos ⟨noDup_rise _ List.Pairwise.nil, by decide⟩]
    exact congrArg some e
  have hr : ∀ a, m___dev_Device__Read a p = some (Ar.zero 64, 2, p) := fun a => by
    unfold m___dev_Device__Read
    simp only [let_eq, hd, cond_true]
  rcases first_or (fun z => 0 < (zat p.zones z).Point) p.zones.length with h | ⟨k, hk, h1, h2⟩
  · refine bnd_run (fun i => ((i : Int), p, ([] : List TFound))) p.zones.length (.inl (p, [])) (by omega) rfl (fun z hz => ?_) ?_ ?_
    · have e1 : clt (z : Int) (ln p.zones) = true := decide_eq_true (by simp only [ln]; omega)
      show (bif clt (z : Int) (ln p.zones) then _ else _) = _
      rw [e1, cond_true, zat_at (l := p.zones) (z := (z : Int)) (by omega) (by omega), bnd_some]
      have f1 : clt (0 : Int) (zat p.zones (z : Int)).Point = false := decide_eq_false (h z hz)
      refine bnd_run (fun o => ((0 : Int), p, ([] : List TFound))) 0 (.inl (p, [])) (by omega) rfl (fun o ho => absurd ho (Nat.not_lt_zero o)) ?_ ?_
      · show (bif clt (0 : Int) (zat p.zones (z : Int)).Point then _ else _) = _
        rw [f1, cond_false]
      · simp only [inc_nat z (by omega)]
    · have e1 : clt ((p.zones.length : Nat) : Int) (ln p.zones) = false := decide_eq_false (by simp only [ln]; omega)
      show (bif clt ((p.zones.length : Nat) : Int) (ln p.zones) then _ else _) = _
      rw [e1, cond_false]
    · simp only [hs, bnd_some]
      unfold m_scan_down
      rw [devDown, bnd_some, hd]
      rfl
  · refine bnd_run (fun i => ((i : Int), p, ([] : List TFound))) k (.inr (2, p)) (by omega) rfl (fun z hz => ?_) ?_ ?_
    · have e1 : clt (z : Int) (ln p.zones) = true := decide_eq_true (by simp only [ln]; omega)
      show (bif clt (z : Int) (ln p.zones) then _ else _) = _
      rw [e1, cond_true, zat_at (l := p.zones) (z := (z : Int)) (by omega) (by omega), bnd_some]
      have f1 : clt (0 : Int) (zat p.zones (z : Int)).Point = false := decide_eq_false (h2 z hz)
      refine bnd_run (fun o => ((0 : Int), p, ([] : List TFound))) 0 (.inl (p, [])) (by omega) rfl (fun o ho => absurd ho (Nat.not_lt_zero o)) ?_ ?_
      · show (bif clt (0 : Int) (zat p.zones (z : Int)).Point then _ else _) = _
        rw [f1, cond_false]
      · simp only [inc_nat z (by omega)]
    · have e1 : clt (k : Int) (ln p.zones) = true := decide_eq_true (by simp only [ln]; omega)
      show (bif clt (k : Int) (ln p.zones) then _ else _) = _
      rw [e1, cond_true, zat_at (l := p.zones) (z := (k : Int)) (by omega) (by omega), bnd_some]
      have f1 : clt (0 : Int) (zat p.zones (k : Int)).Point = true := decide_eq_true h1
      refine bnd_run (fun o => ((0 : Int), p, ([] : List TFound))) 0 (.inr (2, p)) (by omega) rfl (fun o ho => absurd ho (Nat.not_lt_zero o)) ?_ rfl
      show (bif clt (0 : Int) (zat p.zones (k : Int)).Point then _ else _) = _
      rw [f1, cond_true, hr, bnd_some]
      rfl
    · rfl
theorem little14 (g : TGeom) (w : BGeom g) : ∃ b, m_ref14_Little g = some b ∧ (b = true → Geo g ∧ g.Conv + g.Seq ≤ 14 ∧ g.Size ≤ 24 ∧ g.Soft ≤ 60) := by
  unfold m_ref14_Little
  rw [ref03_Right g w, bnd_some]
  cases hr : rightG g with
  | false => exact ⟨false, rfl, fun h => by cases h⟩
  | true =>
    have hg := rightG_geo hr
    have h3 := hg.c
    have h4 := hg.cs
    have h5 := hg.s
    simp only [cond_true, let_eq, cle_eq]
    rw [show iadd g.Conv g.Seq = g.Conv + g.Seq from add_ok (by omega)]
    by_cases k1 : g.Conv + g.Seq ≤ 14
    · by_cases k2 : g.Size ≤ 24
      · by_cases k3 : g.Soft ≤ 60
        · exact ⟨true, by simp [k1, k2, k3], fun _ => ⟨hg, k1, k2, k3⟩⟩
        · exact ⟨false, by simp [k1, k2, k3], fun h => by cases h⟩
      · exact ⟨false, by simp [k1, k2], fun h => by cases h⟩
    · exact ⟨false, by simp [k1], fun h => by cases h⟩
theorem law_ScanAlls (g : TGeom) (l : List TRef14_Step) (ep sq : Int) (wg : BGeom g) (wl : (∀ x ∈ l, BRef14_Step x) ∧ l.length ≤ maxLen) (we : (Lit.int .i64 ep).wf = true) (wq : (Lit.int .i64 sq).wf = true) : m_law14_ScanAlls g l ep sq = some true := by
  obtain ⟨b, hb, hL⟩ := little14 g wg
  unfold m_law14_ScanAlls
  simp only [jn_eq, let_eq, awake14, bnd_some, Bool.not_true, cond_false, hb, cgt_eq, cond_true, ln]
  cases b with
  | false => simp
  | true =>
    obtain ⟨hg, h14, h24, h60⟩ := hL rfl
    by_cases h1 : (60 : Int) < l.length
    · simp [h1]
    have hl : l.length ≤ 1000 := by omega
    obtain ⟨hD, hDg⟩ := lay_DI hg (l := l) wl.1
    have e1 := ref14Lay g hg l wl.1 hl
    generalize layAll g l = L at *
    have e2 := scanAll hD g hDg.symm ep sq
    have e3 := ref14All hD g hDg.symm ep sq
    rw [sortF_isort (fA_rise hD ep sq _)] at e2
    have hlen : (isort (fA L ep sq L.zones.length)).length ≤ 1000000 := by
      rw [(isort_ok _ _ rfl (fA_rise hD ep sq _)).1.length_eq]
      have := fA_len hD ep sq L.zones.length
      have := hD.ok.len
      have := hD.ok.g.cs
      omega
    generalize isort (fA L ep sq L.zones.length) = R at *
    have e4 : m___dev_Device__Arm 0 L = some { L with left_ := 0, down := true } := by
      rw [devArm]; unfold armD; rw [if_neg (by rw [hD.dn]; decide)]; rfl
    have e5 := scanDead { L with left_ := 0, down := true } g rfl hD.ok.sm ep sq
    simp only [h1, decide_false, cond_false, e1, e2, e3, bnd_some, cne_eq, ne_eq, not_true, same14 R hlen, cond_false, Bool.not_true, devIllegal, e4, e5, ceq_eq, decide_true, cond_true, List.length_nil]
    simp
end Go.AX
