/- Chapter 10: a measure's numbers, maps. Chapter 10: places and their numbers; the reference's list. Chapter 10: the live places. Chapter 10: the reference's functions. Chapter 10: counts. Chapter 10: of places. Chapter 10: what was dropped can be added again. Chapter 10: of whatever places. -/
import Derived.KernelRfl
import Derived.Test.YthecmjmlkoomiaaLM
import Derived.Test.YthecmjmlkoomiaaLR
import Derived.Test.YthecmjmlkoomiaaKc
import Derived.Test.YthecmjmlkoomiaaBT
namespace Go.AX
set_option autoImplicit false
set_option linter.unusedVariables false
set_option linter.unusedSimpArgs false
set_option maxRecDepth 4000
set_option maxHeartbeats 4000000

/-- What a right measure tells. -/
structure Geo (g : TGeom) : Prop where
  c : 2 ≤ g.Conv
  cs : g.Conv + g.Seq ≤ 64
  s : 6 ≤ g.Seq
  z : 8 ≤ g.Size ∧ g.Size ≤ 256

theorem ref03_Blocks (g : TGeom) (h : Geo g) : ∃ n, m_ref03_Blocks g = some n ∧ 0 ≤ n ∧ n ≤ 4096 := by
  obtain ⟨h1, h2, h3, h4⟩ := h
  unfold m_ref03_Blocks
  have hq : binI .quo .i64 g.Size 2 = g.Size / 2 := by
    show IntKind.wrap .i64 (g.Size.tdiv 2) = _
    rw [IntKind.wrap_i64, Int.tdiv_eq_ediv_of_nonneg (by omega)]; omega
  obtain ⟨r, h5, h6⟩ := loop_inv (σ := Int × Int) (ρ := Int) (s0 := (0, 5)) (step := fun s18 => Let (clt s18.2 g.Seq) fun b20 => bif b20 then (Bnd (nz? 2) fun _ => Let (binI .quo .i64 g.Size 2) fun v21 => Let (iadd s18.1 v21) fun v22 => Let (iadd s18.2 1) fun v23 => some (.inl (v22, v23))) else (some (.inr (s18.1))))
    (fun s => 0 ≤ s.1 ∧ s.1 ≤ 128 * s.2 ∧ 5 ≤ s.2 ∧ s.2 ≤ g.Seq) (fun s => (g.Seq - s.2).toNat) (fun r => 0 ≤ r) (by simp; omega) (by simp; omega) (by
      rintro ⟨a, i⟩ ⟨k1, k2, k3, k4⟩
      simp only at k1 k2 k3 k4
      by_cases hi : i < g.Seq
      · left
        refine ⟨(a + g.Size / 2, i + 1), ?_, ⟨?_, ?_, ?_, ?_⟩, ?_⟩
        · simp [hi, nz?, hq, iadd, add_ok (a := a) (b := g.Size / 2) (by omega), add_ok (a := i) (b := 1) (by omega)]
        all_goals simp only; omega
      · right
        exact ⟨a, by simp [hi], k1⟩)
  rw [h5]
  by_cases hr : 4096 < r
  · exact ⟨4096, by simp [hr], by omega, by omega⟩
  · exact ⟨r, by simp [hr], h6, by omega⟩

theorem ref03_Pages (g : TGeom) (h : Geo g) : ∃ n, m_ref03_Pages g = some n ∧ 0 ≤ n ∧ n ≤ 4096 := by
  obtain ⟨B, hB, hB0, hB1⟩ := ref03_Blocks g h
  unfold m_ref03_Pages
  rw [hB]
  obtain ⟨r, h5, h6⟩ := loop_inv (σ := Int) (ρ := Int) (s0 := 0) (step := fun s18 => Let (imul 10 s18) fun v19 => Bnd (some B) fun r20 => Let (clt v19 r20) fun b23 => bif b23 then (Let (iadd s18 1) fun v24 => some (.inl (v24))) else (some (.inr (s18))))
    (fun s => 0 ≤ s ∧ s ≤ 4096) (fun s => (4096 - s).toNat) (fun r => 0 ≤ r ∧ r ≤ 4096) (by omega) (by simp) (by
      rintro i ⟨k1, k2⟩
      have e : imul 10 i = 10 * i := mul_ok (by omega)
      by_cases hi : 10 * i < B
      · left
        refine ⟨i + 1, ?_, ⟨by omega, by omega⟩, by omega⟩
        simp [e, hi, iadd, add_ok (a := i) (b := 1) (by omega)]
      · right
        exact ⟨i, by simp [e, hi], k1, k2⟩)
  rw [h5]
  exact ⟨r, rfl, h6⟩

theorem ref03_Right (g : TGeom) (w : BGeom g) : ∃ b, m_ref03_Right g = some b ∧ (b = true → Geo g ∧ 3 ≤ g.Open ∧ g.Soft ≤ 65536) := by
  obtain ⟨w1, w2, w3, w4, w5⟩ := w
  have w1 := wf_i64 w1
  have w3 := wf_i64 w3
  unfold m_ref03_Right
  simp only [jn_eq, let_eq, ceq_eq, cne_eq, clt_eq, cgt_eq, cge_eq, cond_dec]
  by_cases k1 : g.Conv < 2
  · exact ⟨false, by simp [k1], by simp⟩
  by_cases k2 : 64 < g.Conv
  · exact ⟨false, by simp [k1, k2], by simp⟩
  by_cases k3 : g.Seq < 6
  · exact ⟨false, by simp [k1, k2, k3], by simp⟩
  by_cases k4 : 64 < g.Seq
  · exact ⟨false, by simp [k1, k2, k3, k4], by simp⟩
  rw [show iadd g.Conv g.Seq = g.Conv + g.Seq from add_ok (by omega)]
  by_cases k5 : 64 < g.Conv + g.Seq
  · exact ⟨false, by simp [k1, k2, k3, k4, k5], by simp⟩
  by_cases k6 : g.Size < 8
  · exact ⟨false, by simp [k1, k2, k3, k4, k5, k6], by simp⟩
  by_cases k7 : 256 < g.Size
  · exact ⟨false, by simp [k1, k2, k3, k4, k5, k6, k7], by simp⟩
  have hg : Geo g := ⟨by omega, by omega, by omega, by omega, by omega⟩
  obtain ⟨n, hn, hn0, hn1⟩ := ref03_Pages g hg
  rw [hn]
  simp only [k1, k2, k3, k4, k5, k6, k7, if_false, bnd_some]
  by_cases k8 : g.Open < 3
  · exact ⟨false, by simp [k8], by simp⟩
  by_cases k9 : 65536 < g.Soft
  · exact ⟨false, by simp [k8, k9], by simp⟩
  · exact ⟨decide (iadd n 3 ≤ g.Soft), by simp [k8, k9], fun _ => ⟨hg, by omega, by omega⟩⟩

def Sect (g : TGeom) (z : Int) : Int := if z < 0 then 0 else if g.Conv + g.Seq ≤ z then 0 else if z < g.Conv then g.Soft else g.Size
theorem ref03Sectors (g : TGeom) (h : Geo g) (z : Int) : m_ref03_Sectors g z = some (Sect g z) := by
  have e : iadd g.Conv g.Seq = g.Conv + g.Seq := by obtain ⟨h1, h2, h3, h4⟩ := h; exact add_ok (by omega)
  unfold m_ref03_Sectors Sect
  simp only [jn_eq, let_eq, clt_eq, cge_eq, cond_dec, e]
  repeat' split
  all_goals rfl

/-- A loop that looks whether all are right. -/
theorem loop_all {step : Int → Option (Sum Int (Sum Unit Unit))} (n : Nat) (P : Nat → Prop) (hn : n < 1099511627776)
    (h1 : ∀ i, i < n → P i → step i = some (.inl ((i : Int) + 1))) (h2 : ∀ i, i < n → ¬ P i → step i = some (.inr (.inr ()))) (he : step n = some (.inr (.inl ()))) :
    (∃ q, loop step 0 = some q ∧ ((∀ i, i < n → P i) → q = .inl ()) ∧ ((¬ ∀ i, i < n → P i) → q = .inr ())) := by
  classical
  obtain ⟨q, h3, h4⟩ := loop_inv (σ := Int) (ρ := Sum Unit Unit) (s0 := 0) (step := step) (fun s => 0 ≤ s ∧ s ≤ n ∧ ∀ i : Nat, (i : Int) < s → P i) (fun s => (n - s).toNat)
    (fun q : Sum Unit Unit => ((∀ i, i < n → P i) → q = .inl ()) ∧ ((¬ ∀ i, i < n → P i) → q = .inr ())) ⟨by omega, by omega, fun i hi => by omega⟩ (by omega) (by
      rintro s ⟨k1, k2, k3⟩
      obtain ⟨i, rfl⟩ := Int.eq_ofNat_of_zero_le k1
      by_cases hi : i < n
      · by_cases hP : P i
        · left
          refine ⟨(i : Int) + 1, h1 i hi hP, ⟨by omega, by omega, fun j hj => ?_⟩, by omega⟩
          by_cases e : j = i
          · subst e; exact hP
          · exact k3 j (by omega)
        · right
          exact ⟨_, h2 i hi hP, fun h => absurd (h i hi) hP, fun _ => rfl⟩
      · right
        obtain rfl : i = n := by omega
        exact ⟨_, he, fun _ => rfl, fun h => absurd (fun j hj => k3 j (by omega)) h⟩)
  exact ⟨q, h3, h4⟩



theorem Sect.inn {g : TGeom} {z : Int} (h : Sect g z ≠ 0) : 0 ≤ z ∧ z < g.Conv + g.Seq := by
  unfold Sect at h
  split at h
  · exact absurd rfl h
  split at h
  · exact absurd rfl h
  · omega
theorem Sect.seq {g : TGeom} {z : Int} (h : g.Conv ≤ z) (h1 : z < g.Conv + g.Seq) (hg : Geo g) : Sect g z = g.Size := by
  have := hg.c
  unfold Sect
  rw [if_neg (by omega), if_neg (by omega), if_neg (by omega)]
/-! #### maps -/
section
variable {α β : Type} {f : α → List D}
/-- Keys are told apart by their data. -/
def Inj (f : α → List D) : Prop := ∀ a b, sameL (f a) (f b) = true ↔ a = b
theorem inj_at : Inj eAt := by
  rintro ⟨a, b⟩ ⟨c, d⟩
  simp [eAt, sameL, D.same]
theorem inj_int (k : IntKind) : Inj (eI k) := by
  intro a b; simp [eI, sameL, D.same]
theorem gGet_set (hf : Inj f) (m : List (α × β)) (k k' : α) (v : β) [Decidable (k' = k)] : gGet f (gSet f m k v) k' = if k' = k then some v else gGet f m k' := by
  induction m with
  | nil =>
    simp only [gSet, gGet]
    by_cases h : k' = k
    · rw [if_pos ((hf _ _).2 h), if_pos h]
    · rw [if_neg (fun q => h ((hf _ _).1 q)), if_neg h]
  | cons p t ih =>
    simp only [gSet]
    by_cases h1 : k = p.1
    · rw [if_pos ((hf _ _).2 h1)]
      simp only [gGet]
      by_cases h : k' = k
      · rw [if_pos ((hf _ _).2 h), if_pos h]
      · rw [if_neg (fun q => h ((hf _ _).1 q)), if_neg h, if_neg (fun q => h (h1 ▸ (hf _ _).1 q))]
    · rw [if_neg (fun q => h1 ((hf _ _).1 q))]
      simp only [gGet]
      by_cases h2 : k' = p.1
      · have h3 : ¬ k' = k := fun q => h1 (q ▸ h2)
        rw [if_pos ((hf _ _).2 h2), if_neg h3]
        rw [if_pos ((hf _ _).2 h2)]
      · rw [if_neg (fun q => h2 ((hf _ _).1 q)), ih, if_neg (fun q => h2 ((hf _ _).1 q))]
theorem gNod_set (hf : Inj f) (k : α) (v : β) : ∀ (m : List (α × β)), gNod f m = true → gNod f (gSet f m k v) = true
  | [], _ => by simp [gSet, gNod]
  | p :: t, h => by
    simp only [gNod, Bool.and_eq_true, List.all_eq_true, Bool.not_eq_true'] at h
    simp only [gSet]
    by_cases h1 : k = p.1
    · rw [if_pos ((hf _ _).2 h1)]
      simp only [gNod, Bool.and_eq_true, List.all_eq_true, Bool.not_eq_true']
      exact ⟨fun q hq => by rw [h1]; exact h.1 q hq, h.2⟩
    · rw [if_neg (fun q => h1 ((hf _ _).1 q))]
      simp only [gNod, Bool.and_eq_true, List.all_eq_true, Bool.not_eq_true']
      refine ⟨?_, gNod_set hf k v t h.2⟩
      have mem : ∀ (t : List (α × β)) q, q ∈ gSet f t k v → q.1 = k ∨ q ∈ t := by
        intro t
        induction t with
        | nil => intro q hq; simp [gSet] at hq; exact .inl (by rw [hq])
        | cons r s ih =>
          intro q hq
          simp only [gSet] at hq
          split at hq
          · rcases List.mem_cons.1 hq with e | e
            · exact .inl (by rw [e])
            · exact .inr (List.mem_cons_of_mem _ e)
          · rcases List.mem_cons.1 hq with e | e
            · exact .inr (by rw [e]; exact List.mem_cons_self)
            · rcases ih q e with e | e
              · exact .inl e
              · exact .inr (List.mem_cons_of_mem _ e)
      intro q hq
      rcases mem t q hq with e | e
      · cases hs : sameL (f p.1) (f q.1) with
        | false => rfl
        | true => exact absurd (((hf _ _).1 hs).trans e).symm h1
      · exact h.1 q e
theorem gGet_del (hf : Inj f) (k k' : α) [Decidable (k' = k)] : ∀ (m : List (α × β)), gNod f m = true → gGet f (gDel f m k) k' = if k' = k then none else gGet f m k'
  | [], _ => by simp [gDel, gGet]
  | p :: t, h => by
    simp only [gNod, Bool.and_eq_true, List.all_eq_true, Bool.not_eq_true'] at h
    have none_of : ∀ t : List (α × β), (∀ q ∈ t, sameL (f p.1) (f q.1) = false) → gGet f t p.1 = none := by
      intro t
      induction t with
      | nil => intro _; rfl
      | cons q s ih =>
        intro h
        simp only [gGet]
        rw [if_neg (by rw [h q List.mem_cons_self]; exact Bool.false_ne_true)]
        exact ih fun r hr => h r (List.mem_cons_of_mem _ hr)
    simp only [gDel]
    by_cases h1 : k = p.1
    · rw [if_pos ((hf _ _).2 h1)]
      by_cases h2 : k' = k
      · rw [if_pos h2, h2, h1]; exact none_of t h.1
      · rw [if_neg h2]
        simp only [gGet]
        rw [if_neg (fun q => h2 (h1 ▸ (hf _ _).1 q))]
    · rw [if_neg (fun q => h1 ((hf _ _).1 q))]
      simp only [gGet]
      by_cases h2 : k' = p.1
      · have h3 : ¬ k' = k := fun q => h1 (q ▸ h2)
        rw [if_pos ((hf _ _).2 h2), if_neg h3, if_pos ((hf _ _).2 h2)]
      · rw [if_neg (fun q => h2 ((hf _ _).1 q)), gGet_del hf k k' t h.2, if_neg (fun q => h2 ((hf _ _).1 q))]
theorem gDel_sub (k : α) : ∀ (m : List (α × β)), (gDel f m k).Sublist m
  | [] => .slnil
  | p :: t => by
    simp only [gDel]
    split
    · exact List.sublist_cons_self _ _
    · exact (gDel_sub k t).cons_cons _
/-- maps.DeleteFunc. -/
theorem mFilt_tot {g : α → β → Option Bool} {q : α → β → Bool} (h : ∀ a b, g a b = some (q a b)) : ∀ (m : List (α × β)), mFilt g m = some (m.filter fun p => !q p.1 p.2)
  | [] => rfl
  | p :: t => by
    simp only [mFilt, h, mFilt_tot h t]
    cases hq : q p.1 p.2 <;> simp [hq]
theorem gGet_filter (hf : Inj f) (q : α → Bool) (k : α) : ∀ (m : List (α × β)), gGet f (m.filter fun p => !q p.1) k = if q k then none else gGet f m k
  | [] => by simp [gGet]
  | p :: t => by
    by_cases hp : q p.1 = true
    · have : (p :: t).filter (fun p => !q p.1) = t.filter fun p => !q p.1 := by simp [hp]
      rw [this, gGet_filter hf q k t]
      simp only [gGet]
      by_cases h : k = p.1
      · subst h; simp [hp]
      · rw [if_neg (fun r => h ((hf _ _).1 r))]
    · have : (p :: t).filter (fun p => !q p.1) = p :: t.filter fun p => !q p.1 := by simp [hp]
      rw [this]
      simp only [gGet]
      by_cases h : k = p.1
      · subst h; simp [hp, (hf p.1 p.1).2 rfl]
      · rw [if_neg (fun r => h ((hf _ _).1 r)), gGet_filter hf q k t, if_neg (fun r => h ((hf _ _).1 r))]
end
end Go.AX

namespace Go.AX
set_option autoImplicit false
set_option linter.unusedVariables false
set_option linter.unusedSimpArgs false
set_option maxRecDepth 4000
set_option maxHeartbeats 4000000

def okN (g : TGeom) (n : Int) : Prop := 1 ≤ n ∧ n ≤ g.Seq * g.Size
def atN (g : TGeom) (n : Int) : TAt := ⟨g.Conv + (n - 1) / g.Size, (n - 1) % g.Size⟩
def okA (g : TGeom) (a : TAt) : Prop := g.Conv ≤ a.Zone ∧ a.Zone < g.Conv + g.Seq ∧ 0 ≤ a.Off ∧ a.Off < g.Size
def numA (g : TGeom) (a : TAt) : Int := (a.Zone - g.Conv) * g.Size + a.Off + 1
instance (g : TGeom) (n : Int) : Decidable (okN g n) := by unfold okN; exact inferInstance
theorem at_ext {a b : TAt} (h1 : a.Zone = b.Zone) (h2 : a.Off = b.Off) : a = b := by cases a; cases b; simp_all
instance : DecidableEq TAt := fun a b => if h : a.Zone = b.Zone ∧ a.Off = b.Off then Decidable.isTrue (at_ext h.1 h.2) else Decidable.isFalse fun e => h (by subst e; exact ⟨rfl, rfl⟩)

theorem prod_le {g : TGeom} (hg : Geo g) : 0 ≤ g.Seq * g.Size ∧ g.Seq * g.Size ≤ 16384 := by
  obtain ⟨h1, h2, h3, h4⟩ := hg
  refine ⟨Int.mul_nonneg (by omega) (by omega), ?_⟩
  have := Int.mul_le_mul (show g.Seq ≤ 64 by omega) (show g.Size ≤ 256 by omega) (by omega) (by omega)
  omega
/-- A number's parts. -/
theorem parts {s q r n : Int} (hs : 0 < s) (h0 : 0 ≤ r) (h1 : r < s) (hn : n = q * s + r) : n / s = q ∧ n % s = r := by
  subst hn
  rw [Int.add_comm]
  refine ⟨?_, ?_⟩
  · rw [Int.add_mul_ediv_right _ _ (by omega), Int.ediv_eq_zero_of_lt h0 h1]; omega
  · rw [Int.add_mul_emod_self_right, Int.emod_eq_of_lt h0 h1]
theorem num_ok {g : TGeom} (hg : Geo g) {a : TAt} (h : okA g a) : okN g (numA g a) ∧ atN g (numA g a) = a := by
  obtain ⟨h1, h2, h3, h4⟩ := h
  have hz := hg.z
  unfold okN atN numA
  have e : (a.Zone - g.Conv) * g.Size + a.Off + 1 - 1 = (a.Zone - g.Conv) * g.Size + a.Off := by omega
  obtain ⟨p1, p2⟩ := parts (by omega) h3 h4 e
  have m1 : 0 ≤ (a.Zone - g.Conv) * g.Size := Int.mul_nonneg (by omega) (by omega)
  have m2 : (a.Zone - g.Conv + 1) * g.Size ≤ g.Seq * g.Size := Int.mul_le_mul_of_nonneg_right (by omega) (by omega)
  rw [Int.add_mul, Int.one_mul] at m2
  refine ⟨⟨by omega, by omega⟩, at_ext ?_ ?_⟩
  · simp only; rw [p1]; omega
  · simp only; rw [p2]
theorem at_ok {g : TGeom} (hg : Geo g) {n : Int} (h : okN g n) : okA g (atN g n) ∧ numA g (atN g n) = n := by
  obtain ⟨h1, h2⟩ := h
  have hz := hg.z
  have hs := hg.s
  unfold okA atN numA
  simp only
  have d1 : 0 ≤ (n - 1) / g.Size := Int.ediv_nonneg (by omega) (by omega)
  have d2 : (n - 1) / g.Size < g.Seq := Int.ediv_lt_of_lt_mul (by omega) (by omega)
  have d3 := Int.emod_nonneg (n - 1) (show g.Size ≠ 0 by omega)
  have d4 := Int.emod_lt_of_pos (n - 1) (show 0 < g.Size by omega)
  have d5 := Int.emod_add_mul_ediv (n - 1) g.Size
  have d6 : (g.Conv + (n - 1) / g.Size - g.Conv) * g.Size = g.Size * ((n - 1) / g.Size) := by
    rw [show g.Conv + (n - 1) / g.Size - g.Conv = (n - 1) / g.Size by omega, Int.mul_comm]
  rw [d6]
  exact ⟨⟨by omega, by omega, d3, d4⟩, by omega⟩
theorem geom_At (g : TGeom) (hg : Geo g) (n : Int) : m_geom_At g n = some (if okN g n then (atN g n, true) else (⟨0, 0⟩, false)) := by
  have hp := prod_le hg
  have hz := hg.z
  have hc := hg.c
  have hcs := hg.cs
  unfold m_geom_At
  simp only [jn_eq, let_eq, clt_eq, cgt_eq, cond_dec]
  rw [show imul g.Seq g.Size = g.Seq * g.Size from mul_ok (by omega)]
  by_cases h1 : n < 1
  · rw [if_pos h1, if_neg (fun h => by have := h.1; omega)]
  rw [if_neg h1]
  by_cases h2 : g.Seq * g.Size < n
  · rw [if_pos h2, if_neg (fun h => by have := h.2; omega)]
  rw [if_neg h2, if_pos ⟨by omega, by omega⟩]
  have e1 : isub n 1 = n - 1 := sub_ok (by omega)
  have e2 : nz? g.Size = some () := by unfold nz?; rw [if_neg (by omega)]
  have d1 : 0 ≤ (n - 1) / g.Size := Int.ediv_nonneg (by omega) (by omega)
  have d2 : (n - 1) / g.Size < g.Seq := Int.ediv_lt_of_lt_mul (by omega) (by omega)
  have e3 : binI .quo .i64 (n - 1) g.Size = (n - 1) / g.Size := by
    show IntKind.wrap .i64 ((n - 1).tdiv g.Size) = _
    rw [Int.tdiv_eq_ediv_of_nonneg (by omega), IntKind.wrap_i64]; omega
  have e4 : binI .rem .i64 (n - 1) g.Size = (n - 1) % g.Size := by
    show (n - 1).tmod g.Size = _
    rw [Int.tmod_eq_emod_of_nonneg (by omega)]
  rw [e1, e2, bnd_some, e3, bnd_some, e4, show iadd g.Conv ((n - 1) / g.Size) = g.Conv + (n - 1) / g.Size from add_ok (by omega)]
  rfl
theorem ref03_At (g : TGeom) (hg : Geo g) (n : Int) (hn : n < 9223372036854775808 ∧ -9223372036854775808 ≤ n) : m_ref03_At g n = some (if okN g n then (atN g n, true) else (⟨0, 0⟩, false)) := by
  have hp := prod_le hg
  have hz := hg.z
  have hc := hg.c
  have hcs := hg.cs
  have hs := hg.s
  unfold m_ref03_At
  refine bnd_rnd (fun r => r = some (if okN g n then (atN g n, true) else (⟨0, 0⟩, false))) (fun s : Int × Int => g.Conv ≤ s.2 ∧ s.2 ≤ g.Conv + g.Seq ∧ s.1 = n - (s.2 - g.Conv) * g.Size ∧ (s.2 = g.Conv ∨ 1 ≤ s.1)) (fun s => (g.Conv + g.Seq - s.2).toNat)
    (fun r : Sum Unit (Bool × Int × Int) => (okN g n ∧ ∃ z o, r = .inr (true, z, o) ∧ atN g n = ⟨z, o⟩) ∨ (¬ okN g n ∧ (r = .inl () ∨ r = .inr (false, 0, 0)))) ⟨by simp only; omega, by simp only; omega, by simp only; rw [Int.sub_self, Int.zero_mul]; omega, .inl rfl⟩ (by simp only; omega) ?_ ?_
  · rintro ⟨m, z⟩ ⟨k1, k2, k3, k4⟩
    simp only at k1 k2 k3 k4
    simp only [jn_eq, let_eq, clt_eq, cge_eq, cle_eq, cond_dec]
    rw [show iadd g.Conv g.Seq = g.Conv + g.Seq from add_ok (by omega)]
    have m1 : 0 ≤ (z - g.Conv) * g.Size := Int.mul_nonneg (by omega) (by omega)
    have m2 : (z - g.Conv) * g.Size ≤ g.Seq * g.Size := Int.mul_le_mul_of_nonneg_right (by omega) (by omega)
    by_cases hlt : z < g.Conv + g.Seq
    · have m3 : (z - g.Conv + 1) * g.Size ≤ g.Seq * g.Size := Int.mul_le_mul_of_nonneg_right (by omega) (by omega)
      rw [Int.add_mul, Int.one_mul] at m3
      rw [if_pos hlt]
      by_cases h1 : 1 ≤ m
      · rw [if_pos h1]
        by_cases h2 : m ≤ g.Size
        · rw [if_pos h2, show isub m 1 = m - 1 from sub_ok (by omega)]
          obtain ⟨p1, p2⟩ := parts (n := n - 1) (s := g.Size) (q := z - g.Conv) (r := m - 1) (by omega) (by omega) (by omega) (by omega)
          refine rnd_r (.inl ⟨⟨by omega, by omega⟩, z, m - 1, rfl, at_ext ?_ ?_⟩)
          · show g.Conv + (n - 1) / g.Size = z
            rw [p1]; omega
          · show (n - 1) % g.Size = m - 1
            exact p2
        · rw [if_neg h2, if_neg (show ¬ m < 1 by omega), show isub m g.Size = m - g.Size from sub_ok (by omega), show iadd z 1 = z + 1 from add_ok (by omega)]
          refine rnd_l ⟨by simp only; omega, by simp only; omega, ?_, .inr (by simp only; omega)⟩ (by simp only; omega)
          simp only
          rw [show z + 1 - g.Conv = (z - g.Conv) + 1 by omega, Int.add_mul, Int.one_mul]; omega
      · rw [if_neg h1]
        simp only [cond_false]
        rw [if_pos (by omega)]
        exact rnd_r (.inr ⟨fun h => by have := h.1; rcases k4 with e | e
                                       · rw [e, Int.sub_self, Int.zero_mul] at k3; omega
                                       · omega, .inr rfl⟩)
    · rw [if_neg hlt]
      obtain rfl : z = g.Conv + g.Seq := by omega
      rw [show g.Conv + g.Seq - g.Conv = g.Seq by omega] at k3
      exact rnd_r (.inr ⟨fun h => by have := h.2; omega, .inl rfl⟩)
  · rintro r (⟨h, z, o, rfl, e⟩ | ⟨h, rfl | rfl⟩)
    · simp only; rw [if_pos h, e]
    · simp only; rw [if_neg h]
    · simp only; rw [if_neg h]
theorem ref03_Num (g : TGeom) (hg : Geo g) (a : TAt) (h : okA g a) : m_ref03_Num g a = some (numA g a) := by
  obtain ⟨h1, h2, h3, h4⟩ := h
  have hp := prod_le hg
  have hz := hg.z
  have hc := hg.c
  have hcs := hg.cs
  have hs := hg.s
  obtain ⟨sz, hsz⟩ := Int.eq_ofNat_of_zero_le (show 0 ≤ g.Size by omega)
  have hmul : ∀ i : Nat, (i : Int) ≤ g.Seq → 0 ≤ (i : Int) * g.Size ∧ (i : Int) * g.Size ≤ 16384 := by
    intro i hi
    have := Int.mul_le_mul_of_nonneg_right hi (show 0 ≤ g.Size by omega)
    exact ⟨Int.mul_nonneg (by omega) (by omega), by omega⟩
  unfold m_ref03_Num
  refine bnd_run (fun i => ((i : Int) * g.Size, g.Conv + i)) (a.Zone - g.Conv).toNat (.inr (numA g a)) (by omega) (by simp) ?_ ?_ rfl
  · intro i hi
    have hm := hmul i (by omega)
    simp only [let_eq, clt_eq, cond_dec, ceq_eq]
    rw [show iadd g.Conv g.Seq = g.Conv + g.Seq from add_ok (by omega), if_pos (by omega)]
    refine bnd_run (fun j => ((i : Int) * g.Size + j, (j : Int))) sz (.inl ((i : Int) * g.Size + sz)) (by omega) (by simp) ?_ ?_ ?_
    · intro j hj
      simp only
      rw [if_pos (by omega), if_neg (show ¬ a.Zone = g.Conv + (i : Int) by omega), show iadd ((i : Int) * g.Size + j) 1 = (i : Int) * g.Size + j + 1 from add_ok (by omega), show iadd (j : Int) 1 = ((j + 1 : Nat) : Int) from (add_ok (by omega)).trans (by omega)]
      exact congrArg (fun v => some (Sum.inl (v, ((j + 1 : Nat) : Int)))) (by omega)
    · simp only
      rw [if_neg (by omega)]
    · simp only
      rw [show iadd (g.Conv + (i : Int)) 1 = g.Conv + ((i + 1 : Nat) : Int) from (add_ok (by omega)).trans (by omega)]
      congr 3
      rw [← hsz, show ((i + 1 : Nat) : Int) = (i : Int) + 1 by omega, Int.add_mul, Int.one_mul]
  · have hm := hmul (a.Zone - g.Conv).toNat (by omega)
    have e0 : (((a.Zone - g.Conv).toNat : Nat) : Int) = a.Zone - g.Conv := by omega
    rw [e0] at hm ⊢
    simp only [let_eq, clt_eq, cond_dec, ceq_eq]
    rw [show iadd g.Conv g.Seq = g.Conv + g.Seq from add_ok (by omega), if_pos (by omega)]
    refine bnd_run (fun j => ((a.Zone - g.Conv) * g.Size + j, (j : Int))) a.Off.toNat (.inr (numA g a)) (by omega) (by simp) ?_ ?_ rfl
    · intro j hj
      simp only
      rw [if_pos (by omega), if_pos (by omega), if_neg (by omega), show iadd ((a.Zone - g.Conv) * g.Size + j) 1 = (a.Zone - g.Conv) * g.Size + j + 1 from add_ok (by omega), show iadd (j : Int) 1 = ((j + 1 : Nat) : Int) from (add_ok (by omega)).trans (by omega)]
      exact congrArg (fun v => some (Sum.inl (v, ((j + 1 : Nat) : Int)))) (by omega)
    · have e1 : ((a.Off.toNat : Nat) : Int) = a.Off := by omega
      simp only [e1]
      rw [if_pos (by omega), if_pos (by omega), if_pos trivial, show iadd ((a.Zone - g.Conv) * g.Size + a.Off) 1 = (a.Zone - g.Conv) * g.Size + a.Off + 1 from add_ok (by omega)]
      rfl

abbrev Ce := TRef10_Cell
theorem ref10_Find (l : List Ce) (x : Int) (hl : l.length ≤ 1000000) : (m_ref10_Find l x = some (-1) ∧ ∀ c ∈ l, c.Place ≠ x) ∨ ∃ i : Nat, m_ref10_Find l x = some (i : Int) ∧ ∃ h : i < l.length, l[i].Place = x := by
  unfold m_ref10_Find
  simp only [let_eq]
  obtain ⟨r, h1, h2⟩ := loop_inv (σ := Int) (ρ := Sum Unit Int) (s0 := 0) (step := fun s18 => bif clt s18 (ln l) then (Bnd (at? l s18) fun y21 => bif ceq y21.Place x then (some (.inr (.inr (s18)))) else some (.inl (iadd s18 1))) else (some (.inr (.inl ()))))
    (fun s => 0 ≤ s ∧ s ≤ l.length ∧ ∀ c ∈ l.take s.toNat, c.Place ≠ x) (fun s => (l.length - s).toNat)
    (fun r => (r = .inl () ∧ ∀ c ∈ l, c.Place ≠ x) ∨ ∃ i : Nat, r = .inr (i : Int) ∧ ∃ h : i < l.length, l[i].Place = x)
    ⟨by omega, by omega, by simp⟩ (by omega) (by
      rintro s ⟨k1, k2, k3⟩
      obtain ⟨i, rfl⟩ := Int.eq_ofNat_of_zero_le k1
      simp only [Int.toNat_natCast] at k3
      by_cases hi : i < l.length
      · simp only [clt_eq, ln, cond_dec, ceq_eq]
        rw [if_pos (by omega), at?_nat, List.getElem?_eq_getElem hi, bnd_some]
        by_cases hc : l[i].Place = x
        · exact .inr ⟨_, by rw [if_pos hc], .inr ⟨i, rfl, hi, hc⟩⟩
        · refine .inl ⟨(i : Int) + 1, by rw [if_neg hc, show iadd (i : Int) 1 = (i : Int) + 1 from add_ok (by omega)], ⟨by omega, by omega, ?_⟩, by omega⟩
          rw [show ((i : Int) + 1).toNat = i + 1 by omega, List.take_succ_eq_append_getElem hi]
          intro y hy
          rcases List.mem_append.1 hy with e | e
          · exact k3 y e
          · rw [List.mem_singleton.1 e]; exact hc
      · refine .inr ⟨.inl (), by simp only [clt_eq, ln, cond_dec]; rw [if_neg (by omega)], .inl ⟨rfl, ?_⟩⟩
        rw [List.take_of_length_le (by omega)] at k3; exact k3)
  rw [h1, bnd_some]
  rcases h2 with ⟨rfl, h3⟩ | ⟨i, rfl, h3⟩
  · exact .inl ⟨rfl, h3⟩
  · exact .inr ⟨i, rfl, h3⟩
end Go.AX

namespace Go.AX
set_option autoImplicit false
set_option linter.unusedVariables false
set_option linter.unusedSimpArgs false
set_option maxRecDepth 4000
set_option maxHeartbeats 4000000

section
variable {α β : Type} {f : α → List D}
theorem gGet_mem (hf : Inj f) {a : α} {b : β} : ∀ {m : List (α × β)}, gNod f m = true → (gGet f m a = some b ↔ (a, b) ∈ m)
  | [], _ => by simp [gGet]
  | p :: t, h => by
    simp only [gNod, Bool.and_eq_true, List.all_eq_true, Bool.not_eq_true'] at h
    simp only [gGet]
    by_cases e : a = p.1
    · rw [if_pos ((hf _ _).2 e)]
      constructor
      · intro q
        have : p = (a, b) := by rw [e, ← Option.some.inj q]
        rw [this]; exact List.mem_cons_self
      · intro q
        rcases List.mem_cons.1 q with q | q
        · rw [← q]
        · have h1 := h.1 _ q
          rw [(hf _ _).2 e.symm] at h1; cases h1
    · rw [if_neg (fun q => e ((hf _ _).1 q)), gGet_mem hf h.2]
      constructor
      · exact fun q => List.mem_cons_of_mem _ q
      · intro q
        rcases List.mem_cons.1 q with q | q
        · exact absurd (by rw [← q]) e
        · exact q
theorem gSet_new (hf : Inj f) {k : α} {v : β} : ∀ {m : List (α × β)}, gGet f m k = none → gSet f m k v = m ++ [(k, v)]
  | [], _ => rfl
  | p :: t, h => by
    simp only [gGet] at h
    by_cases e : k = p.1
    · rw [if_pos ((hf _ _).2 e)] at h; cases h
    · rw [if_neg (fun q => e ((hf _ _).1 q))] at h
      simp only [gSet]
      rw [if_neg (fun q => e ((hf _ _).1 q)), gSet_new hf h]; rfl
theorem gDel_len (hf : Inj f) {k : α} {v : β} (q : α × β → Bool) : ∀ {m : List (α × β)}, gGet f m k = some v → (m.filter q).length = ((gDel f m k).filter q).length + if q (k, v) = true then 1 else 0
  | [], h => by simp [gGet] at h
  | p :: t, h => by
    simp only [gGet] at h
    simp only [gDel]
    by_cases e : k = p.1
    · rw [if_pos ((hf _ _).2 e)] at h ⊢
      have : p = (k, v) := by rw [e, ← Option.some.inj h]
      rw [this]
      by_cases hq : q (k, v) = true
      · rw [List.filter_cons_of_pos hq, if_pos hq]; rfl
      · rw [List.filter_cons_of_neg hq, if_neg hq]; rfl
    · rw [if_neg (fun r => e ((hf _ _).1 r))] at h ⊢
      have ih := gDel_len hf q h
      by_cases hq : q p = true
      · rw [List.filter_cons_of_pos hq, List.filter_cons_of_pos hq, List.length_cons, List.length_cons, ih]; omega
      · rw [List.filter_cons_of_neg hq, List.filter_cons_of_neg hq, ih]
theorem gNod_del (k : α) : ∀ (m : List (α × β)), gNod f m = true → gNod f (gDel f m k) = true
  | [], _ => rfl
  | p :: t, h => by
    simp only [gNod, Bool.and_eq_true, List.all_eq_true] at h
    simp only [gDel]
    split
    · exact h.2
    · simp only [gNod, Bool.and_eq_true, List.all_eq_true]
      exact ⟨fun r hr => h.1 r ((gDel_sub k t).subset hr), gNod_del k t h.2⟩
theorem gNod_keys (hf : Inj f) {m : List (α × β)} (h : gNod f m = true) : (m.map Prod.fst).Nodup := by
  rcases gNod_inj h with e | ⟨a, e⟩
  · exact e
  · rw [(hf a a).2 rfl] at e; cases e
end

abbrev Lv := TLive_Live
def inZ (z : Int) (q : TAt × Int) : Bool := decide (q.1.Zone = z)
structure LI (n : Nat) (p : Lv) : Prop where
  geo : Geo p.g
  nb : gNod eAt p.block = true
  ok : ∀ q ∈ p.block, okA p.g q.1
  cn : ∀ z, (gGet (eI .i64) p.count z).getD 0 = ((p.block.filter (inZ z)).length : Int)
  ln : p.block.length ≤ n
theorem LI.more {n m : Nat} {p : Lv} (h : LI n p) (hm : n ≤ m) : LI m p := ⟨h.geo, h.nb, h.ok, h.cn, Nat.le_trans h.ln hm⟩
theorem LI.new (g : TGeom) (hg : Geo g) : LI 0 ⟨g, [], []⟩ := ⟨hg, rfl, (fun q hq => nomatch hq), fun z => rfl, Nat.le_refl _⟩
def addD (p : Lv) (x b : Int) : Lv := { p with block := p.block ++ [(atN p.g x, b)], count := gSet (eI .i64) p.count (atN p.g x).Zone (iadd ((gGet (eI .i64) p.count (atN p.g x).Zone).getD 0) 1) }
def dropD (p : Lv) (x : Int) : Lv := { p with block := gDel eAt p.block (atN p.g x), count := gSet (eI .i64) p.count (atN p.g x).Zone (isub ((gGet (eI .i64) p.count (atN p.g x).Zone).getD 0) 1) }
theorem Add_eq (p : Lv) (hg : Geo p.g) (x b : Int) : m___live_Live__Add x b p = some (if okN p.g x ∧ gGet eAt p.block (atN p.g x) = none then (true, addD p x b) else (false, p)) := by
  unfold m___live_Live__Add addD
  rw [geom_At p.g hg]
  by_cases h : okN p.g x
  · rw [if_pos h]
    simp only [bnd_some, let_eq, Bool.not_true, cond_false]
    cases hb : gGet eAt p.block (atN p.g x) with
    | none => rw [if_pos ⟨h, rfl⟩, gSet_new inj_at hb]; rfl
    | some v => rw [if_neg (fun q => by cases q.2)]; rfl
  · rw [if_neg h, if_neg (fun q => h q.1)]; rfl
theorem Drop_eq (p : Lv) (hg : Geo p.g) (x : Int) : m___live_Live__Drop x p = some (if okN p.g x ∧ (gGet eAt p.block (atN p.g x)).isSome = true then (true, dropD p x) else (false, p)) := by
  unfold m___live_Live__Drop dropD
  rw [geom_At p.g hg]
  by_cases h : okN p.g x
  · rw [if_pos h]
    simp only [bnd_some, let_eq, Bool.not_true, cond_false]
    cases hb : gGet eAt p.block (atN p.g x) with
    | none => rw [if_neg (fun q => by cases q.2)]; rfl
    | some v => rw [if_pos ⟨h, rfl⟩]; rfl
  · rw [if_neg h, if_neg (fun q => h q.1)]; rfl
theorem filt_le {p : Lv} {n : Nat} (h : LI n p) (z : Int) : (p.block.filter (inZ z)).length ≤ n := Nat.le_trans (List.length_filter_le _ _) h.ln
theorem LI.add {n : Nat} {p : Lv} (h : LI n p) (hn : n ≤ 1000000) {x : Int} (b : Int) (hx : okN p.g x) (hb : gGet eAt p.block (atN p.g x) = none) : LI (n + 1) (addD p x b) := by
  have hk := (at_ok h.geo hx).1
  refine ⟨h.geo, ?_, ?_, fun z => ?_, ?_⟩
  · show gNod eAt (p.block ++ [(atN p.g x, b)]) = true
    rw [← gSet_new inj_at hb]
    exact gNod_set inj_at _ _ _ h.nb
  · intro q hq
    rcases List.mem_append.1 hq with e | e
    · exact h.ok q e
    · rw [List.mem_singleton.1 e]; exact hk
  · show (gGet (eI .i64) (gSet (eI .i64) p.count (atN p.g x).Zone _) z).getD 0 = (((p.block ++ [(atN p.g x, b)]).filter (inZ z)).length : Int)
    have hle := filt_le h z
    rw [gGet_set (inj_int _), List.filter_append, List.length_append]
    by_cases e : z = (atN p.g x).Zone
    · rw [if_pos e]
      have h1 : [(atN p.g x, b)].filter (inZ z) = [(atN p.g x, b)] := by simp [inZ, e]
      rw [h1, Option.getD_some, ← e, h.cn z]
      show iadd _ 1 = (((p.block.filter (inZ z)).length + 1 : Nat) : Int)
      exact (add_ok (by omega)).trans (by omega)
    · rw [if_neg e]
      have e2 : ¬ (atN p.g x).Zone = z := fun q => e q.symm
      have h1 : [(atN p.g x, b)].filter (inZ z) = [] := by simp [inZ, e2]
      rw [h1, h.cn z]; rfl
  · have := h.ln
    show (p.block ++ [(atN p.g x, b)]).length ≤ n + 1
    simp; omega
theorem LI.drop {n : Nat} {p : Lv} (h : LI n p) (hn : n ≤ 1000000) {x : Int} (hb : (gGet eAt p.block (atN p.g x)).isSome = true) : LI n (dropD p x) := by
  obtain ⟨v, hv⟩ := Option.isSome_iff_exists.1 hb
  refine ⟨h.geo, gNod_del _ _ h.nb, fun q hq => h.ok q ((gDel_sub _ _).subset hq), fun z => ?_, Nat.le_trans (gDel_sub _ _).length_le h.ln⟩
  show (gGet (eI .i64) (gSet (eI .i64) p.count (atN p.g x).Zone _) z).getD 0 = (((gDel eAt p.block (atN p.g x)).filter (inZ z)).length : Int)
  have hle := filt_le h z
  have hd := gDel_len inj_at (inZ z) hv
  rw [gGet_set (inj_int _)]
  by_cases e : z = (atN p.g x).Zone
  · rw [if_pos (show inZ z (atN p.g x, v) = true by simp [inZ, e])] at hd
    rw [if_pos e, Option.getD_some, ← e, h.cn z, hd]
    exact (sub_ok (by omega)).trans (by omega)
  · have e2 : ¬ (atN p.g x).Zone = z := fun q => e q.symm
    rw [if_neg (show ¬ inZ z (atN p.g x, v) = true by simp [inZ, e2])] at hd
    rw [if_neg e, h.cn z, hd]; rfl

/-! #### the places of a zone -/
def hasB (p : Lv) (z : Int) (o : Nat) : Bool := (gGet eAt p.block ⟨z, (o : Int)⟩).isSome
def zoneL (p : Lv) (z : Int) (k : Nat) : List TAt := ((List.range k).filter (hasB p z)).map fun o : Nat => (⟨z, (o : Int)⟩ : TAt)
def zoneK (g : TGeom) (z : Int) : Nat := if g.Conv ≤ z then (Sect g z).toNat else 0
theorem zoneK_le {g : TGeom} (hg : Geo g) (z : Int) : zoneK g z ≤ 256 := by
  have := hg.z
  unfold zoneK Sect
  repeat' split
  all_goals omega
theorem keys_eq {n : Nat} {p : Lv} (h : LI n p) (z : Int) : srt (fun a b : TAt => cmp3 a.Off b.Off) ((p.block.filter fun q => decide (q.1.Zone = z)).map Prod.fst) = zoneL p z (zoneK p.g z) := by
  have hz := h.geo.z
  have hc := h.geo.c
  have mem1 : ∀ a : TAt, a ∈ (p.block.filter fun q => decide (q.1.Zone = z)).map Prod.fst ↔ a.Zone = z ∧ (gGet eAt p.block a).isSome = true := by
    intro a
    constructor
    · intro ha
      obtain ⟨q, hq, rfl⟩ := List.mem_map.1 ha
      obtain ⟨h1, h2⟩ := List.mem_filter.1 hq
      refine ⟨by simpa using h2, ?_⟩
      rw [(gGet_mem inj_at h.nb).2 (show (q.1, q.2) ∈ p.block from h1)]; rfl
    · rintro ⟨h1, h2⟩
      obtain ⟨v, hv⟩ := Option.isSome_iff_exists.1 h2
      exact List.mem_map.2 ⟨(a, v), List.mem_filter.2 ⟨(gGet_mem inj_at h.nb).1 hv, by simpa using h1⟩, rfl⟩
  have mem2 : ∀ a : TAt, a ∈ zoneL p z (zoneK p.g z) ↔ a.Zone = z ∧ (gGet eAt p.block a).isSome = true := by
    intro a
    unfold zoneL
    constructor
    · intro ha
      obtain ⟨o, ho, rfl⟩ := List.mem_map.1 ha
      exact ⟨rfl, (List.mem_filter.1 ho).2⟩
    · rintro ⟨h1, h2⟩
      obtain ⟨v, hv⟩ := Option.isSome_iff_exists.1 h2
      obtain ⟨k1, k2, k3, k4⟩ := h.ok _ ((gGet_mem inj_at h.nb).1 hv)
      have hs := Sect.seq (g := p.g) (z := z) (by rw [← h1]; exact k1) (by rw [← h1]; exact k2) h.geo
      have e : (⟨z, ((a.Off.toNat : Nat) : Int)⟩ : TAt) = a := at_ext h1.symm (by show ((a.Off.toNat : Nat) : Int) = a.Off; simp only at k3; omega)
      refine List.mem_map.2 ⟨a.Off.toNat, List.mem_filter.2 ⟨List.mem_range.2 ?_, ?_⟩, e⟩
      · unfold zoneK
        simp only at k1 k3 k4
        rw [if_pos (by omega), hs]; omega
      · unfold hasB; rw [e]; exact h2
  have nd1 : ((p.block.filter fun q => decide (q.1.Zone = z)).map Prod.fst).Nodup := ((List.filter_sublist).map _).nodup (gNod_keys inj_at h.nb)
  have pw : (zoneL p z (zoneK p.g z)).Pairwise fun a b => a.Off < b.Off := by
    unfold zoneL
    rw [List.pairwise_map]
    refine (List.pairwise_lt_range.filter _).imp ?_
    intro a b hab
    simp only; omega
  have nd2 : (zoneL p z (zoneK p.g z)).Nodup := pw.imp fun hab e => by rw [e] at hab; omega
  have perm := (List.perm_ext_iff_of_nodup nd1 nd2).2 fun a => (mem1 a).trans (mem2 a).symm
  have tr : ∀ (a b c : TAt), (!decide (cmp3 b.Off a.Off < 0)) = true → (!decide (cmp3 c.Off b.Off < 0)) = true → (!decide (cmp3 c.Off a.Off < 0)) = true := by
    intro a b c x y
    simp only [Bool.not_eq_true', decide_eq_false_iff_not, cmp3_lt] at *
    omega
  have to : ∀ (a b : TAt), ((!decide (cmp3 b.Off a.Off < 0)) || (!decide (cmp3 a.Off b.Off < 0))) = true := by
    intro a b
    simp only [Bool.or_eq_true, Bool.not_eq_true', decide_eq_false_iff_not, cmp3_lt]
    omega
  refine List.Perm.eq_of_pairwise ?_ (List.pairwise_mergeSort tr to _) (pw.imp ?_) ((List.mergeSort_perm _ _).trans perm)
  · intro a b ha hb h3 h4
    have a1 := ((mem1 a).1 ((List.mergeSort_perm _ _).mem_iff.1 ha)).1
    have b1 := ((mem2 b).1 hb).1
    simp only [Bool.not_eq_true', decide_eq_false_iff_not, cmp3_lt] at h3 h4
    exact at_ext (by omega) (by omega)
  · intro a b hab
    simp only [Bool.not_eq_true', decide_eq_false_iff_not, cmp3_lt]; omega
theorem Zone_eq {n : Nat} {p : Lv} (h : LI n p) (hn : n ≤ 1000000) (z : Int) : m___live_Live__Zone z p = some (zoneL p z (zoneK p.g z)) := by
  unfold m___live_Live__Zone mKeys
  rw [if_pos ⟨h.nb, Nat.le_trans h.ln hn⟩, keys_eq h]; rfl
theorem Count_eq {n : Nat} {p : Lv} (h : LI n p) (z : Int) : m___live_Live__Count z p = some ((zoneL p z (zoneK p.g z)).length : Int) := by
  unfold m___live_Live__Count
  simp only [let_eq]
  rw [h.cn z, ← keys_eq h]
  unfold srt inZ
  simp
theorem Block_eq (p : Lv) (a : TAt) : m___live_Live__Block a p = some ((gGet eAt p.block a).getD 0, (gGet eAt p.block a).isSome) := rfl
theorem Same_eq (l : List TAt) (hl : l.length ≤ 1000000) : m_ref10_Same l l = some true := by
  unfold m_ref10_Same
  simp only [let_eq, cne_eq, ne_eq, not_true_eq_false, decide_false, cond_false]
  refine bnd_run (fun i => (i : Int)) l.length (.inl ()) (by omega) rfl ?_ ?_ rfl
  · intro i hi
    simp only [clt_eq, ln, cond_dec]
    rw [if_pos (by omega), at?_nat, List.getElem?_eq_getElem hi, bnd_some, bnd_some]
    simp only [ceq_eq, decide_true, Bool.and_self, Bool.not_true, cond_false]
    rw [show iadd (i : Int) 1 = ((i + 1 : Nat) : Int) from (add_ok (by omega)).trans (by omega)]
  · simp [ln]

/-! #### the reference's list -/
structure RL (g : TGeom) (n : Nat) (p : Lv) (l : List Ce) : Prop where
  dist : l.Pairwise fun a b => a.Place ≠ b.Place
  okp : ∀ c ∈ l, okN g c.Place
  mem : ∀ x b, okN g x → (gGet eAt p.block (atN g x) = some b ↔ (⟨x, b⟩ : Ce) ∈ l)
  len : l.length ≤ n
theorem RL.new (g : TGeom) : RL g 0 ⟨g, [], []⟩ [] := ⟨.nil, (fun c hc => nomatch hc), (fun x b _ => by simp [gGet]), Nat.le_refl _⟩
theorem RL.more {g : TGeom} {n m : Nat} {p : Lv} {l : List Ce} (h : RL g n p l) (hm : n ≤ m) : RL g m p l := ⟨h.dist, h.okp, h.mem, Nat.le_trans h.len hm⟩
theorem RL.no {g : TGeom} {n : Nat} {p : Lv} {l : List Ce} (h : RL g n p l) {x : Int} (hx : okN g x) (hn : gGet eAt p.block (atN g x) = none) : ∀ c ∈ l, c.Place ≠ x := by
  intro c hc e
  have := (h.mem x c.Block hx).2 (by rw [← e]; exact hc)
  rw [hn] at this; cases this
theorem atN_inj {g : TGeom} (hg : Geo g) {x y : Int} (hx : okN g x) (hy : okN g y) (e : atN g x = atN g y) : x = y := by
  rw [← (at_ok hg hx).2, ← (at_ok hg hy).2, e]
theorem RL.add {g : TGeom} (hg : Geo g) {n : Nat} {p : Lv} {l : List Ce} (hp : p.g = g) (h : RL g n p l) {x : Int} (b : Int) (hx : okN g x) (hn : gGet eAt p.block (atN g x) = none) : RL g (n + 1) (addD p x b) (l ++ [⟨x, b⟩]) := by
  have hno := h.no hx hn
  refine ⟨?_, ?_, ?_, by have := h.len; simp; omega⟩
  · rw [List.pairwise_append]
    refine ⟨h.dist, List.pairwise_singleton _ _, fun a ha c hc => ?_⟩
    rw [List.mem_singleton.1 hc]; exact hno a ha
  · intro c hc
    rcases List.mem_append.1 hc with e | e
    · exact h.okp c e
    · rw [List.mem_singleton.1 e]; exact hx
  · intro y v hy
    have e0 : (addD p x b).block = gSet eAt p.block (atN g x) b := by rw [gSet_new inj_at hn]; unfold addD; rw [hp]
    rw [e0, gGet_set inj_at]
    by_cases e : y = x
    · subst e
      rw [if_pos rfl]
      constructor
      · intro q; rw [Option.some.inj q]; simp
      · intro q
        rcases List.mem_append.1 q with r | r
        · exact absurd rfl (hno _ r)
        · have := List.mem_singleton.1 r
          rw [TRef10_Cell.mk.injEq] at this
          rw [this.2]
    · rw [if_neg (fun q => e (atN_inj hg hy hx q)), h.mem y v hy]
      simp [e]
theorem RL.drop {g : TGeom} (hg : Geo g) {n : Nat} {p : Lv} {l : List Ce} (hp : p.g = g) (hb : gNod eAt p.block = true) (h : RL g n p l) {x : Int} (hx : okN g x) {i : Nat} (hi : i < l.length) (he : l[i].Place = x) : RL g n (dropD p x) (l.take i ++ l.drop (i + 1)) := by
  have hl : l = l.take i ++ l[i] :: l.drop (i + 1) := by rw [← List.drop_eq_getElem_cons hi, List.take_append_drop]
  have hd := h.dist
  rw [hl, List.pairwise_append, List.pairwise_cons] at hd
  have hmem : ∀ c : Ce, c ∈ l.take i ++ l.drop (i + 1) ↔ c ∈ l ∧ c.Place ≠ x := by
    intro c
    constructor
    · intro hc
      rcases List.mem_append.1 hc with e | e
      · exact ⟨List.mem_of_mem_take e, fun q => hd.2.2 c e l[i] List.mem_cons_self (q.trans he.symm)⟩
      · exact ⟨List.mem_of_mem_drop e, fun q => hd.2.1.1 c e (he.trans q.symm)⟩
    · rintro ⟨hc, hn⟩
      rw [hl] at hc
      rcases List.mem_append.1 hc with e | e
      · exact List.mem_append_left _ e
      · rcases List.mem_cons.1 e with e | e
        · exact absurd (by rw [e]; exact he) hn
        · exact List.mem_append_right _ e
  refine ⟨?_, fun c hc => h.okp c ((hmem c).1 hc).1, ?_, ?_⟩
  · rw [List.pairwise_append]
    exact ⟨hd.1, hd.2.1.2, fun a ha c hc => hd.2.2 a ha c (List.mem_cons_of_mem _ hc)⟩
  · intro y v hy
    show gGet eAt (gDel eAt p.block (atN p.g x)) (atN g y) = some v ↔ _
    rw [hp, gGet_del inj_at _ _ _ hb, hmem]
    by_cases e : y = x
    · rw [if_pos (by rw [e])]
      simp [e]
    · rw [if_neg (fun q => e (atN_inj hg hy hx q)), h.mem y v hy]
      simp [e]
  · have := h.len
    simp; omega
end Go.AX

namespace Go.AX
set_option autoImplicit false
set_option linter.unusedVariables false
set_option linter.unusedSimpArgs false
set_option maxRecDepth 4000
set_option maxHeartbeats 4000000

set_option maxRecDepth 100000 in
theorem awake10 : m_law10_awake = some true := by kernel_rfl
theorem little10 (g : TGeom) (w : BGeom g) : ∃ b, m_ref10_Little g = some b ∧ (b = true → Geo g ∧ 3 ≤ g.Open ∧ g.Soft ≤ 65536) := by
  unfold m_ref10_Little
  obtain ⟨b, hb, h⟩ := ref03_Right g w
  rw [hb, bnd_some]
  cases b with
  | false => exact ⟨false, rfl, by simp⟩
  | true =>
    simp only [cond_true, let_eq, cle_eq, cond_dec]
    split
    · exact ⟨_, rfl, fun _ => h rfl⟩
    · exact ⟨_, rfl, by simp⟩
theorem lv_eta (p : Lv) : TLive_Live.mk (TGeom.mk p.g.Conv p.g.Soft p.g.Seq p.g.Size p.g.Open) p.block p.count = p := rfl
theorem live_new (g : TGeom) : m_live_New g = some ⟨g, [], []⟩ := rfl
theorem zoneL_succ (p : Lv) (z : Int) (i : Nat) : zoneL p z (i + 1) = zoneL p z i ++ if hasB p z i = true then [⟨z, (i : Int)⟩] else [] := by
  unfold zoneL
  rw [List.range_succ, List.filter_append, List.map_append]
  congr 1
  by_cases h : hasB p z i = true
  · rw [if_pos h, List.filter_cons_of_pos h]; rfl
  · rw [if_neg h, List.filter_cons_of_neg h]; rfl
theorem zoneL_len (p : Lv) (z : Int) (i : Nat) : (zoneL p z i).length ≤ i := by
  unfold zoneL
  rw [List.length_map]
  exact Nat.le_trans (List.length_filter_le _ _) (by simp)
theorem ref10_Zone {g : TGeom} (hg : Geo g) (hso : g.Soft ≤ 65536) {n m : Nat} {p : Lv} {l : List Ce} (hp : p.g = g) (hL : LI n p) (hR : RL g m p l) (hm : m ≤ 1000000) (z : Int) : m_ref10_Zone g l z = some (zoneL p z (zoneK g z)) := by
  have hz := hg.z
  have hS : Sect g z ≤ 65536 := by
    unfold Sect
    repeat' split
    all_goals omega
  unfold m_ref10_Zone
  refine bnd_run (fun i => ((i : Int), if g.Conv ≤ z then zoneL p z i else [])) (Sect g z).toNat (zoneL p z (zoneK g z)) (by omega) (by simp [zoneL]) ?_ ?_ rfl
  · intro i hi
    simp only [jn_eq, let_eq, clt_eq, cge_eq, cgt_eq, cond_dec, ref03Sectors g hg, bnd_some]
    rw [if_pos (by omega), show iadd (i : Int) 1 = ((i + 1 : Nat) : Int) from (add_ok (by omega)).trans (by omega)]
    by_cases hc : g.Conv ≤ z
    · obtain ⟨q1, q2⟩ := Sect.inn (g := g) (z := z) (by omega)
      have hsz := Sect.seq hc q2 hg
      have ha : okA g ⟨z, (i : Int)⟩ := ⟨hc, q2, by simp only; omega, by simp only; omega⟩
      obtain ⟨hn, hat⟩ := num_ok hg ha
      simp only [hc, if_true]
      rw [ref03_Num g hg _ ha, bnd_some, if_pos (show 0 < numA g ⟨z, (i : Int)⟩ by have := hn.1; omega), zoneL_succ]
      have hlen := zoneL_len p z i
      rcases ref10_Find l (numA g ⟨z, (i : Int)⟩) (by have := hR.len; omega) with ⟨f1, f2⟩ | ⟨k, f1, f2, f3⟩
      · have hb : hasB p z i = false := by
          unfold hasB
          cases hq : gGet eAt p.block ⟨z, (i : Int)⟩ with
          | none => rfl
          | some b =>
            have := (hR.mem _ b hn).1 (by rw [hat]; exact hq)
            exact absurd rfl (f2 _ this)
        rw [f1, bnd_some, hb]
        simp
      · have hb : hasB p z i = true := by
          unfold hasB
          have := (hR.mem _ l[k].Block hn).2 (by rw [← f3]; exact List.getElem_mem f2)
          rw [hat] at this
          rw [this]; rfl
        rw [f1, bnd_some, hb, if_pos (by omega), app_ok (by simp; omega)]
        simp
    · simp only [hc, if_false]
      simp
  · simp only [jn_eq, let_eq, clt_eq, cge_eq, cgt_eq, cond_dec, ref03Sectors g hg, bnd_some]
    rw [if_neg (by omega)]
    unfold zoneK
    by_cases hc : g.Conv ≤ z
    · rw [if_pos hc, if_pos hc]
    · rw [if_neg hc, if_neg hc]; rfl
theorem shows_ok {g : TGeom} (hg : Geo g) (hso : g.Soft ≤ 65536) {n m : Nat} {p : Lv} {l : List Ce} (hp : p.g = g) (hL : LI n p) (hR : RL g m p l) (hn : n ≤ 1000000) (hm : m ≤ 1000000) : m_law10_shows g l p = some true := by
  have hcs := hg.cs
  have hc := hg.c
  have hs := hg.s
  unfold m_law10_shows
  refine bnd_run (fun i : Nat => -1 + (i : Int)) (g.Conv + g.Seq + 2).toNat (.inl ()) (by omega) rfl ?_ ?_ ?_
  · intro i hi
    simp only [let_eq, cle_eq, cond_dec, cne_eq]
    rw [show iadd g.Conv g.Seq = g.Conv + g.Seq from add_ok (by omega), if_pos (by omega), ref10_Zone hg hso hp hL hR hm, bnd_some, Count_eq hL, bnd_some, if_neg (by rw [hp]; simp [ln]), Zone_eq hL hn, bnd_some, hp, Same_eq _ (by have := zoneL_len p (-1 + (i : Int)) (zoneK g (-1 + (i : Int))); have := zoneK_le hg (-1 + (i : Int)); omega), bnd_some]
    rw [Bool.not_true, cond_false, show iadd (-1 + (i : Int)) 1 = -1 + ((i + 1 : Nat) : Int) from (add_ok (by omega)).trans (by omega)]
  · simp only [let_eq, cle_eq, cond_dec, cne_eq]
    rw [show iadd g.Conv g.Seq = g.Conv + g.Seq from add_ok (by omega), if_neg (by omega)]
  · simp only
    refine bnd_run (fun i : Nat => (i : Int)) l.length (.inl ()) (by have := hR.len; omega) rfl ?_ ?_ rfl
    · intro i hi
      have hok := hR.okp _ (List.getElem_mem hi)
      have hb := (hR.mem l[i].Place l[i].Block hok).2 (List.getElem_mem hi)
      have hpr := prod_le hg
      have hlen := hR.len
      simp only [let_eq, clt_eq, cond_dec, cne_eq, ln]
      rw [if_pos (by omega), at?_nat, List.getElem?_eq_getElem hi, bnd_some, ref03_At g hg _ (by have h1 := hok.1; have h2 := hok.2; omega), if_pos hok, bnd_some, Block_eq, hb, bnd_some]
      simp only [Option.isSome_some, Bool.not_true, cond_false, bnd_some, Option.getD_some, ne_eq, not_true_eq_false, if_false]
      rw [show iadd (i : Int) 1 = ((i + 1 : Nat) : Int) from (add_ok (by omega)).trans (by omega)]
    · simp [ln]
/-- The reference adds. -/
theorem do_add {g : TGeom} (hg : Geo g) {n : Nat} {p : Lv} {l : List Ce} (hR : RL g n p l) (hn : n ≤ 100000) (x b : Int) (hx : x < 9223372036854775808 ∧ -9223372036854775808 ≤ x) : m_ref10_Do g l ⟨x, b⟩ false = some (if okN g x ∧ gGet eAt p.block (atN g x) = none then (l ++ [⟨x, b⟩], true) else (l, false)) := by
  have hlen := hR.len
  unfold m_ref10_Do
  simp only [jn_eq, let_eq]
  rw [ref03_At g hg x hx, bnd_some]
  by_cases h : okN g x
  · rw [if_pos h]
    simp only [Bool.not_true, cond_false]
    rcases ref10_Find l x (by omega) with ⟨f1, f2⟩ | ⟨k, f1, f2, f3⟩
    · have hb : gGet eAt p.block (atN g x) = none := by
        cases hq : gGet eAt p.block (atN g x) with
        | none => rfl
        | some v => exact absurd rfl (f2 _ ((hR.mem x v h).1 hq))
      rw [f1, bnd_some, if_pos ⟨h, hb⟩, app_ok (by simp; omega), bnd_some, List.nil_append, app_ok (by simp; omega)]
      rfl
    · have hb := (hR.mem x l[k].Block h).2 (by rw [← f3]; exact List.getElem_mem f2)
      rw [f1, bnd_some, if_neg (fun q => by rw [hb] at q; cases q.2)]
      simp
  · rw [if_neg h, if_neg (fun q => h q.1)]
    rcases ref10_Find l x (by omega) with ⟨f1, f2⟩ | ⟨k, f1, f2, f3⟩
    · rw [f1]; rfl
    · rw [f1]; rfl
theorem do_drop {g : TGeom} (hg : Geo g) {n : Nat} {p : Lv} {l : List Ce} (hR : RL g n p l) (hn : n ≤ 100000) (x b : Int) (hx : x < 9223372036854775808 ∧ -9223372036854775808 ≤ x) :
    (okN g x ∧ (gGet eAt p.block (atN g x)).isSome = true ∧ ∃ (i : Nat) (h : i < l.length), l[i].Place = x ∧ m_ref10_Do g l ⟨x, b⟩ true = some (l.take i ++ l.drop (i + 1), true)) ∨ (¬ (okN g x ∧ (gGet eAt p.block (atN g x)).isSome = true) ∧ m_ref10_Do g l ⟨x, b⟩ true = some (l, false)) := by
  have hlen := hR.len
  unfold m_ref10_Do
  simp only [jn_eq, let_eq]
  rw [ref03_At g hg x hx, bnd_some]
  by_cases h : okN g x
  · rw [if_pos h]
    simp only [Bool.not_true, cond_false]
    rcases ref10_Find l x (by omega) with ⟨f1, f2⟩ | ⟨k, f1, f2, f3⟩
    · have hb : gGet eAt p.block (atN g x) = none := by
        cases hq : gGet eAt p.block (atN g x) with
        | none => rfl
        | some v => exact absurd rfl (f2 _ ((hR.mem x v h).1 hq))
      refine .inr ⟨(fun q => by rw [hb] at q; cases q.2), ?_⟩
      rw [f1, bnd_some]; rfl
    · have hb := (hR.mem x l[k].Block h).2 (by rw [← f3]; exact List.getElem_mem f2)
      refine .inl ⟨h, by rw [hb]; rfl, k, f2, f3, ?_⟩
      rw [f1, bnd_some]
      have e1 : upto? l (k : Int) = some (l.take k) := by unfold upto?; rw [if_pos (by omega)]; simp
      have e2 : from? l ((k + 1 : Nat) : Int) = some (l.drop (k + 1)) := by unfold from?; rw [if_pos (by omega)]; simp
      simp only [cge_eq, show (0 : Int) ≤ (k : Int) by omega, decide_true, beq_self_eq_true, Bool.not_true, cond_false]
      rw [e1, bnd_some, app_ok (by simp; omega), bnd_some, show iadd (k : Int) 1 = ((k + 1 : Nat) : Int) from (add_ok (by omega)).trans (by omega), e2, bnd_some, List.nil_append, app_ok (by simp; omega)]
      rfl
  · rw [if_neg h]
    refine .inr ⟨fun q => h q.1, ?_⟩
    rcases ref10_Find l x (by omega) with ⟨f1, f2⟩ | ⟨k, f1, f2, f3⟩
    · rw [f1]; rfl
    · rw [f1]; rfl

theorem law_LiveActs (g : TGeom) (acts : List TLaw10_Act) (w0 : BGeom g) (w1 : (∀ x ∈ acts, BLaw10_Act x) ∧ acts.length ≤ maxLen) : m_law10_LiveActs g acts = some true := by
  unfold m_law10_LiveActs
  obtain ⟨b, hb, hb1⟩ := little10 g w0
  simp only [jn_eq, let_eq, awake10, bnd_some, Bool.not_true, cond_false, hb]
  cases b with
  | false => rfl
  | true =>
    obtain ⟨hg, hop, hso⟩ := hb1 rfl
    simp only [Bool.not_true, cond_false, cgt_eq, ln]
    by_cases hl : 60 < (acts.length : Int)
    · rw [decide_eq_true hl]; rfl
    rw [decide_eq_false hl, cond_false, live_new, bnd_some]
    refine bnd_rnd (fun r => r = some true) (fun st => ∃ (i : Nat) (p : Lv) (l : List Ce), i ≤ acts.length ∧ LI i p ∧ RL g i p l ∧ p.g = g ∧ st = (l, (i : Int), p.g.Conv, p.g.Soft, p.g.Seq, p.g.Size, p.g.Open, p.block, p.count)) (fun st => (acts.length - st.2.1).toNat)
      (fun r => ∃ (p : Lv) (l : List Ce), LI acts.length p ∧ RL g acts.length p l ∧ p.g = g ∧ r = .inl (l, p.g.Conv, p.g.Soft, p.g.Seq, p.g.Size, p.g.Open, p.block, p.count))
      ⟨0, ⟨g, [], []⟩, [], Nat.zero_le _, LI.new g hg, RL.new g, rfl, rfl⟩ (by simp only; omega) ?_ ?_
    · rintro _ ⟨i, p, l, hi, h, hR, hpg, rfl⟩
      simp only [lv_eta, clt_eq, cond_dec]
      by_cases hlt : i < acts.length
      · have hw := (w1.1 acts[i] (List.getElem_mem hlt)).2
        have hx := wf_i64 hw.1
        have e1 : iadd (i : Int) 1 = ((i + 1 : Nat) : Int) := (add_ok (by omega)).trans (by omega)
        rw [if_pos (by omega), at?_nat, List.getElem?_eq_getElem hlt, bnd_some, bnd_some]
        cases hd : acts[i].Drop with
        | true =>
          rcases do_drop hg hR (by omega) acts[i].Cell.Place acts[i].Cell.Block ⟨hx.2, hx.1⟩ with ⟨c1, c2, k, c3, c4, c5⟩ | ⟨c1, c2⟩
          · rw [show acts[i].Cell = ⟨acts[i].Cell.Place, acts[i].Cell.Block⟩ from rfl, c5, bnd_some, bnd_some, hd, cond_true, Drop_eq p (by rw [hpg]; exact hg), bnd_some, hpg, if_pos ⟨c1, c2⟩]
            simp only [beq_self_eq_true, Bool.not_true, cond_false]
            exact rnd_l ⟨i + 1, dropD p acts[i].Cell.Place, _, hlt, (h.drop (by omega) (by rw [hpg]; exact c2)).more (by omega), (hR.drop hg hpg h.nb c1 c3 c4).more (by omega), hpg, by rw [e1]⟩ (by simp only; rw [e1]; omega)
          · rw [show acts[i].Cell = ⟨acts[i].Cell.Place, acts[i].Cell.Block⟩ from rfl, c2, bnd_some, bnd_some, hd, cond_true, Drop_eq p (by rw [hpg]; exact hg), bnd_some, hpg, if_neg c1]
            simp only [beq_self_eq_true, Bool.not_true, cond_false]
            exact rnd_l ⟨i + 1, p, l, hlt, h.more (by omega), hR.more (by omega), hpg, by rw [e1]⟩ (by simp only; rw [e1]; omega)
        | false =>
          rw [show acts[i].Cell = ⟨acts[i].Cell.Place, acts[i].Cell.Block⟩ from rfl, do_add hg hR (by omega) _ _ ⟨hx.2, hx.1⟩, bnd_some, bnd_some, hd, cond_false, Add_eq p (by rw [hpg]; exact hg), bnd_some, hpg]
          by_cases c : okN g acts[i].Cell.Place ∧ gGet eAt p.block (atN g acts[i].Cell.Place) = none
          · rw [if_pos c, if_pos c]
            simp only [beq_self_eq_true, Bool.not_true, cond_false]
            exact rnd_l ⟨i + 1, addD p acts[i].Cell.Place acts[i].Cell.Block, _, hlt, h.add (by omega) _ (by rw [hpg]; exact c.1) (by rw [hpg]; exact c.2), hR.add hg hpg _ c.1 c.2, hpg, by rw [e1]⟩ (by simp only; rw [e1]; omega)
          · rw [if_neg c, if_neg c]
            simp only [beq_self_eq_true, Bool.not_true, cond_false]
            exact rnd_l ⟨i + 1, p, l, hlt, h.more (by omega), hR.more (by omega), hpg, by rw [e1]⟩ (by simp only; rw [e1]; omega)
      · obtain rfl : i = acts.length := by omega
        rw [if_neg (by omega)]
        exact rnd_r ⟨p, l, h, hR, hpg, rfl⟩
    · rintro _ ⟨p, l, h, hR, hpg, rfl⟩
      simp only [lv_eta]
      rw [shows_ok hg hso hpg h hR (by omega) (by omega)]
      rfl
end Go.AX

namespace Go.AX
set_option autoImplicit false
set_option linter.unusedVariables false
set_option linter.unusedSimpArgs false
set_option maxRecDepth 4000
set_option maxHeartbeats 4000000

/-- Places below a zone. -/
def below (p : Lv) (z : Int) : Int := ((p.block.filter fun q => decide (q.1.Zone < z)).length : Int)
theorem below_len (l : List (TAt × Int)) (z : Int) : (l.filter fun q => decide (q.1.Zone < z + 1)).length = (l.filter fun q => decide (q.1.Zone < z)).length + (l.filter (inZ z)).length := by
  induction l with
  | nil => rfl
  | cons q t ih =>
    by_cases h1 : q.1.Zone < z
    · rw [List.filter_cons_of_pos (by simpa using (by omega : q.1.Zone < z + 1)), List.filter_cons_of_pos (by simpa using h1), List.filter_cons_of_neg (by simp [inZ]; omega), List.length_cons, List.length_cons, ih]; omega
    · by_cases h2 : q.1.Zone = z
      · rw [List.filter_cons_of_pos (by simpa using (by omega : q.1.Zone < z + 1)), List.filter_cons_of_neg (by simpa using (by omega : z ≤ q.1.Zone)), List.filter_cons_of_pos (by simp [inZ, h2]), List.length_cons, List.length_cons, ih]; omega
      · rw [List.filter_cons_of_neg (by simpa using (by omega : z + 1 ≤ q.1.Zone)), List.filter_cons_of_neg (by simpa using (by omega : z ≤ q.1.Zone)), List.filter_cons_of_neg (by simp [inZ, h2]), ih]
theorem zlen {n : Nat} {p : Lv} (h : LI n p) (z : Int) : ((zoneL p z (zoneK p.g z)).length : Int) = ((p.block.filter (inZ z)).length : Int) := by
  rw [← keys_eq h]
  unfold srt inZ
  simp
theorem addD_len (p : Lv) (x b : Int) : (addD p x b).block.length = p.block.length + 1 := by unfold addD; simp
theorem dropD_len {n : Nat} {p : Lv} (h : LI n p) {x : Int} (hb : (gGet eAt p.block (atN p.g x)).isSome = true) : (dropD p x).block.length + 1 = p.block.length := by
  obtain ⟨v, hv⟩ := Option.isSome_iff_exists.1 hb
  have := gDel_len inj_at (fun _ => true) hv
  rw [List.filter_eq_self.2 (fun _ _ => rfl), List.filter_eq_self.2 (fun _ _ => rfl)] at this
  exact this.symm
theorem zone_no {n : Nat} {p : Lv} (h : LI n p) {z : Int} (hz : z < p.g.Conv) : zoneL p z (zoneK p.g z) = [] := by
  unfold zoneK
  rw [if_neg (by omega)]; rfl
theorem zone_at {p : Lv} {z : Int} {k i : Nat} {a : TAt} (h : (zoneL p z k)[i]? = some a) : a.Zone = z ∧ (gGet eAt p.block a).isSome = true := by
  have := List.mem_of_getElem? h
  unfold zoneL at this
  obtain ⟨o, ho, rfl⟩ := List.mem_map.1 this
  exact ⟨rfl, (List.mem_filter.1 ho).2⟩
theorem zone_lt (p : Lv) (z : Int) (k : Nat) : (zoneL p z k).Pairwise fun a b => a.Off < b.Off := by
  unfold zoneL
  rw [List.pairwise_map]
  refine (List.pairwise_lt_range.filter _).imp ?_
  intro a b hab
  simp only; omega

theorem law_LiveCounts (g : TGeom) (acts : List TLaw10_Act) (w0 : BGeom g) (w1 : (∀ x ∈ acts, BLaw10_Act x) ∧ acts.length ≤ maxLen) : m_law10_LiveCounts g acts = some true := by
  unfold m_law10_LiveCounts
  obtain ⟨b, hb, hb1⟩ := little10 g w0
  simp only [jn_eq, let_eq, awake10, bnd_some, Bool.not_true, cond_false, hb]
  cases b with
  | false => rfl
  | true =>
    obtain ⟨hg, hop, hso⟩ := hb1 rfl
    simp only [Bool.not_true, cond_false, cgt_eq, ln]
    by_cases hl : 60 < (acts.length : Int)
    · rw [decide_eq_true hl]; rfl
    rw [decide_eq_false hl, cond_false, live_new, bnd_some]
    have hcs := hg.cs
    have hgc := hg.c
    have hgs := hg.s
    refine bnd_rnd (fun r => r = some true) (fun st => ∃ (i : Nat) (p : Lv), i ≤ acts.length ∧ LI i p ∧ p.g = g ∧ st = ((p.block.length : Int), (i : Int), p.g.Conv, p.g.Soft, p.g.Seq, p.g.Size, p.g.Open, p.block, p.count)) (fun st => (acts.length - st.2.1).toNat)
      (fun r => ∃ (p : Lv), LI acts.length p ∧ p.g = g ∧ r = ((p.block.length : Int), p.g.Conv, p.g.Soft, p.g.Seq, p.g.Size, p.g.Open, p.block, p.count))
      ⟨0, ⟨g, [], []⟩, Nat.zero_le _, LI.new g hg, rfl, rfl⟩ (by simp only; omega) ?_ ?_
    · rintro _ ⟨i, p, hi, h, hpg, rfl⟩
      have hln := h.ln
      simp only [lv_eta, clt_eq, cond_dec]
      by_cases hlt : i < acts.length
      · have e1 : iadd (i : Int) 1 = ((i + 1 : Nat) : Int) := (add_ok (by omega)).trans (by omega)
        rw [if_pos (by omega), at?_nat, List.getElem?_eq_getElem hlt, bnd_some]
        cases hd : acts[i].Drop with
        | true =>
          simp only [cond_true, bnd_some]
          rw [Drop_eq p (by rw [hpg]; exact hg), bnd_some]
          by_cases c : okN p.g acts[i].Cell.Place ∧ (gGet eAt p.block (atN p.g acts[i].Cell.Place)).isSome = true
          · have hdl := dropD_len h c.2
            rw [if_pos c]
            simp only [cond_true]
            exact rnd_l ⟨i + 1, dropD p acts[i].Cell.Place, hlt, (h.drop (by omega) c.2).more (by omega), hpg, by rw [e1, show isub (p.block.length : Int) 1 = ((dropD p acts[i].Cell.Place).block.length : Int) from (sub_ok (by omega)).trans (by omega)]⟩ (by simp only; rw [e1]; omega)
          · rw [if_neg c]
            simp only [cond_false, hd, Bool.not_true]
            exact rnd_l ⟨i + 1, p, hlt, h.more (by omega), hpg, by rw [e1]⟩ (by simp only; rw [e1]; omega)
        | false =>
          simp only [cond_false, bnd_some, hd, Bool.not_false, cond_true, lv_eta]
          rw [Add_eq p (by rw [hpg]; exact hg), bnd_some]
          by_cases c : okN p.g acts[i].Cell.Place ∧ gGet eAt p.block (atN p.g acts[i].Cell.Place) = none
          · rw [if_pos c]
            simp only [cond_true]
            exact rnd_l ⟨i + 1, addD p acts[i].Cell.Place acts[i].Cell.Block, hlt, h.add (by omega) _ c.1 c.2, hpg, by rw [e1, show iadd (p.block.length : Int) 1 = ((addD p acts[i].Cell.Place acts[i].Cell.Block).block.length : Int) from (add_ok (by omega)).trans (by rw [addD_len]; omega)]⟩ (by simp only; rw [e1]; omega)
          · rw [if_neg c]
            simp only [cond_false]
            exact rnd_l ⟨i + 1, p, hlt, h.more (by omega), hpg, by rw [e1]⟩ (by simp only; rw [e1]; omega)
      · obtain rfl : i = acts.length := by omega
        rw [if_neg (by omega)]
        exact rnd_r ⟨p, h, hpg, rfl⟩
    · rintro _ ⟨p, h, hpg, rfl⟩
      have hln := h.ln
      simp only [lv_eta]
      have hb0 : below p 0 = 0 := by
        unfold below
        rw [List.filter_eq_nil_iff.2]
        · rfl
        · intro q hq
          have := (h.ok q hq).1
          rw [hpg] at this
          simpa using (by omega : 0 ≤ q.1.Zone)
      have hbe : below p (g.Conv + g.Seq) = (p.block.length : Int) := by
        unfold below
        rw [List.filter_eq_self.2]
        intro q hq
        have := (h.ok q hq).2.1
        rw [hpg] at this
        simpa using this
      have hble : ∀ z, 0 ≤ below p z ∧ below p z ≤ (p.block.length : Int) := by
        intro z
        unfold below
        have := List.length_filter_le (fun q : TAt × Int => decide (q.1.Zone < z)) p.block
        omega
      refine bnd_run (fun i : Nat => (below p i, (i : Int))) (g.Conv + g.Seq).toNat (.inl (below p (g.Conv + g.Seq))) (by omega) (by rw [show ((0 : Nat) : Int) = 0 from rfl, hb0]) ?_ ?_ ?_
      · intro i hi
        have hstep : below p (((i + 1 : Nat) : Int)) = below p i + ((zoneL p i (zoneK p.g i)).length : Int) := by
          rw [zlen h]
          unfold below
          rw [show ((i + 1 : Nat) : Int) = (i : Int) + 1 by omega, below_len]
          omega
        have b1 := hble i
        have b2 := hble ((i + 1 : Nat) : Int)
        simp only [clt_eq, cond_dec, cne_eq]
        rw [show iadd g.Conv g.Seq = g.Conv + g.Seq from add_ok (by omega), if_pos (by omega), Count_eq h, bnd_some, show iadd (below p i) ((zoneL p i (zoneK p.g i)).length : Int) = below p (((i + 1 : Nat) : Int)) from (add_ok (by omega)).trans hstep.symm, Zone_eq h (by omega), bnd_some, bnd_some, if_neg (by simp)]
        have hfin : (Bnd (loop (σ := Int) (ρ := Sum Unit Unit) (fun s100 => if s100 < ((zoneL p i (zoneK p.g i)).length : Int) then (Bnd (at? (zoneL p i (zoneK p.g i)) s100) fun y103 => Bnd (m___live_Live__Block y103 p) fun r109 => bif !r109.2 then (some (.inr (.inr ()))) else (Bnd (at? (zoneL p i (zoneK p.g i)) s100) fun y114 => if y114.Zone ≠ (i : Int) then (some (.inr (.inr ()))) else (if 0 < s100 then (Bnd (at? (zoneL p i (zoneK p.g i)) (isub s100 1)) fun y123 => Bnd (at? (zoneL p i (zoneK p.g i)) s100) fun y129 => if y129.Off ≤ y123.Off then (some (.inr (.inr ()))) else some (.inl (iadd s100 1))) else some (.inl (iadd s100 1))))) else (some (.inr (.inl ())))) 0) fun q90 => (match q90 with | (.inl q90') => (some (.inl (below p (((i + 1 : Nat) : Int)), iadd (i : Int) 1)) : Option (Sum (Int × Int) (Sum Int Unit))) | (.inr q90'') => some (.inr (.inr ())))) = some (.inl (below p (((i + 1 : Nat) : Int)), ((i + 1 : Nat) : Int))) := by
          have hzl := zoneL_len p i (zoneK p.g i)
          have hzk := zoneK_le h.geo i
          refine bnd_run (fun j : Nat => (j : Int)) (zoneL p i (zoneK p.g i)).length (.inl ()) (by omega) rfl ?_ ?_ ?_
          · intro j hj
            obtain ⟨z1, z2⟩ := zone_at (List.getElem?_eq_getElem hj)
            rw [if_pos (by omega), at?_nat, List.getElem?_eq_getElem hj, bnd_some, Block_eq, bnd_some]
            simp only [z2, Bool.not_true, cond_false, bnd_some]
            rw [if_neg (by simpa using z1)]
            by_cases hj0 : 0 < j
            · obtain ⟨j', rfl⟩ : ∃ j', j = j' + 1 := ⟨j - 1, by omega⟩
              rw [if_pos (by omega), show isub (((j' + 1 : Nat) : Int)) 1 = (j' : Int) from (sub_ok (by omega)).trans (by omega), at?_nat, List.getElem?_eq_getElem (by omega), bnd_some]
              have := List.pairwise_iff_getElem.1 (zone_lt p i (zoneK p.g i)) j' (j' + 1) (by omega) hj (by omega)
              rw [if_neg (by omega), show iadd (((j' + 1 : Nat) : Int)) 1 = ((j' + 1 + 1 : Nat) : Int) from (add_ok (by omega)).trans (by omega)]
            · rw [if_neg (by omega), show iadd (j : Int) 1 = ((j + 1 : Nat) : Int) from (add_ok (by omega)).trans (by omega)]
          · simp
          · simp only
            rw [show iadd (i : Int) 1 = ((i + 1 : Nat) : Int) from (add_ok (by omega)).trans (by omega)]
        by_cases hc : (i : Int) < g.Conv
        · have hz0 := zone_no h (z := i) (by rw [hpg]; exact hc)
          rw [if_pos hc, if_neg (by rw [hz0]; simp)]
          simp only [clt_eq, cond_dec, cne_eq, cge_eq] at hfin ⊢
          exact hfin
        · rw [if_neg hc]
          simp only [clt_eq, cond_dec, cne_eq, cge_eq] at hfin ⊢
          exact hfin
      · simp only [clt_eq, cond_dec]
        rw [show iadd g.Conv g.Seq = g.Conv + g.Seq from add_ok (by omega), if_neg (by omega)]
        rw [show (((g.Conv + g.Seq).toNat : Nat) : Int) = g.Conv + g.Seq by omega]
      · simp [hbe]
end Go.AX

namespace Go.AX
set_option autoImplicit false
set_option linter.unusedVariables false
set_option linter.unusedSimpArgs false
set_option maxRecDepth 4000
set_option maxHeartbeats 4000000

/-- What is live of the first i places. -/
structure OI (g : TGeom) (l : List Int) (i : Nat) (p : Lv) : Prop where
  li : LI i p
  hg : p.g = g
  ok : ∀ j x, j < i → l[j]? = some x → x ≠ 0 → okN g x
  mem : ∀ x b, okN g x → (gGet eAt p.block (atN g x) = some b ↔ ∃ j : Nat, j < i ∧ b = (j : Int) ∧ l[j]? = some x)
theorem OI.inj {g : TGeom} {l : List Int} {i : Nat} {p : Lv} (h : OI g l i p) {j k : Nat} {x : Int} (hx : okN g x) (hj : j < i) (hk : k < i) (ej : l[j]? = some x) (ek : l[k]? = some x) : j = k := by
  have h1 := (h.mem x j hx).2 ⟨j, hj, rfl, ej⟩
  have h2 := (h.mem x k hx).2 ⟨k, hk, rfl, ek⟩
  rw [h1] at h2
  have := Option.some.inj h2
  omega
theorem of_eq (g : TGeom) (hg : Geo g) (l : List Int) (hl : l.length ≤ 1000) : m_live_Of g l = some (.inl ()) ∨ ∃ p, m_live_Of g l = some (.inr p) ∧ OI g l l.length p := by
  unfold m_live_Of
  rw [live_new, bnd_some]
  simp only [let_eq, ln]
  refine bnd_rnd (fun r : Option (Sum Unit Lv) => r = some (.inl ()) ∨ ∃ p, r = some (.inr p) ∧ OI g l l.length p) (fun st => ∃ (i : Nat) (p : Lv), i ≤ l.length ∧ OI g l i p ∧ st = ((i : Int), p.g.Conv, p.g.Soft, p.g.Seq, p.g.Size, p.g.Open, p.block, p.count)) (fun st => (l.length - st.1).toNat)
    (fun r : Sum (Int × Int × Int × Int × Int × (List (TAt × Int)) × (List (Int × Int))) Unit => (∃ p, OI g l l.length p ∧ r = .inl (p.g.Conv, p.g.Soft, p.g.Seq, p.g.Size, p.g.Open, p.block, p.count)) ∨ r = .inr ())
    ⟨0, ⟨g, [], []⟩, Nat.zero_le _, ⟨LI.new g hg, rfl, fun j x h => by omega, fun x b _ => ⟨(fun q => by cases q), fun ⟨j, h, _⟩ => by omega⟩⟩, rfl⟩ (by simp only; omega) ?_ ?_
  · rintro _ ⟨i, p, hi, h, rfl⟩
    simp only [lv_eta, clt_eq, cond_dec, cne_eq]
    by_cases hlt : i < l.length
    · have e1 : iadd (i : Int) 1 = ((i + 1 : Nat) : Int) := (add_ok (by omega)).trans (by omega)
      have hli := List.getElem?_eq_getElem hlt
      rw [if_pos (by omega), at?_nat, hli, bnd_some, e1]
      by_cases h0 : l[i] ≠ 0
      · rw [if_pos h0, Add_eq p (by rw [h.hg]; exact hg), bnd_some, h.hg]
        by_cases c : okN g l[i] ∧ gGet eAt p.block (atN g l[i]) = none
        · rw [if_pos c]
          simp only [Bool.not_true, cond_false]
          refine rnd_l ⟨i + 1, addD p l[i] i, hlt, ⟨h.li.add (by omega) _ (by rw [h.hg]; exact c.1) (by rw [h.hg]; exact c.2), h.hg, ?_, ?_⟩, rfl⟩ (by simp only; omega)
          · intro j x hj hx hx0
            by_cases e : j = i
            · subst e; rw [hli] at hx; rw [← Option.some.inj hx]; exact c.1
            · exact h.ok j x (by omega) hx hx0
          · intro x b hx
            have e0 : (addD p l[i] i).block = gSet eAt p.block (atN g l[i]) i := by rw [gSet_new inj_at c.2]; unfold addD; rw [h.hg]
            rw [e0, gGet_set inj_at]
            by_cases e : x = l[i]
            · subst e
              rw [if_pos rfl]
              constructor
              · intro q; exact ⟨i, by omega, (Option.some.inj q).symm, hli⟩
              · rintro ⟨j, j1, rfl, j3⟩
                by_cases ej : j = i
                · rw [ej]
                · have := (h.mem _ j hx).2 ⟨j, by omega, rfl, j3⟩
                  rw [c.2] at this; cases this
            · rw [if_neg (fun q => e (atN_inj hg hx c.1 q)), h.mem x b hx]
              constructor
              · rintro ⟨j, j1, j2, j3⟩; exact ⟨j, by omega, j2, j3⟩
              · rintro ⟨j, j1, j2, j3⟩
                have : j ≠ i := fun q => by rw [q, hli] at j3; exact e (Option.some.inj j3).symm
                exact ⟨j, by omega, j2, j3⟩
        · rw [if_neg c]
          simp only [Bool.not_false, cond_true]
          exact rnd_r (.inr rfl)
      · rw [if_neg h0]
        have h0' : l[i] = 0 := by simpa using h0
        refine rnd_l ⟨i + 1, p, hlt, ⟨h.li.more (by omega), h.hg, ?_, ?_⟩, rfl⟩ (by simp only; omega)
        · intro j x hj hx hx0
          by_cases e : j = i
          · subst e; rw [hli] at hx; exact absurd ((Option.some.inj hx).symm.trans h0') hx0
          · exact h.ok j x (by omega) hx hx0
        · intro x b hx
          rw [h.mem x b hx]
          constructor
          · rintro ⟨j, j1, j2, j3⟩; exact ⟨j, by omega, j2, j3⟩
          · rintro ⟨j, j1, j2, j3⟩
            have : j ≠ i := fun q => by
              rw [q, hli] at j3
              have := (Option.some.inj j3).symm.trans h0'
              have := hx.1
              omega
            exact ⟨j, by omega, j2, j3⟩
    · obtain rfl : i = l.length := by omega
      rw [if_neg (by omega)]
      exact rnd_r (.inl ⟨p, h, rfl⟩)
  · rintro r (⟨p, h, rfl⟩ | rfl)
    · exact .inr ⟨p, rfl, h⟩
    · exact .inl rfl

theorem law_LiveBlocks (g : TGeom) (l : List Int) (place : Int) (w0 : BGeom g) (w1 : (∀ x ∈ l, (Lit.int .i64 x).wf = true) ∧ l.length ≤ maxLen) (w2 : (Lit.int .i64 place).wf = true) : m_law10_LiveBlocks g l place = some true := by
  unfold m_law10_LiveBlocks
  obtain ⟨b, hb, hb1⟩ := little10 g w0
  simp only [jn_eq, let_eq, awake10, bnd_some, Bool.not_true, cond_false, hb]
  cases b with
  | false => rfl
  | true =>
    obtain ⟨hg, hop, hso⟩ := hb1 rfl
    simp only [Bool.not_true, cond_false, cgt_eq, ln]
    by_cases hl : 60 < (l.length : Int)
    · rw [decide_eq_true hl]; rfl
    rw [decide_eq_false hl, cond_false]
    have hpl := wf_i64 w2
    rcases of_eq g hg l (by omega) with e | ⟨p, e, h⟩
    · unfold m_live_Of_l
      rw [e]; rfl
    · unfold m_live_Of_r
      rw [e]
      simp only [Alt, prjR, bnd_some]
      refine bnd_rnd (fun r => r = some true) (fun st : Bool × Int => ∃ (i : Nat) (t : Bool), i ≤ l.length ∧ (okN g place → (t = true ↔ ∃ j : Nat, j < i ∧ l[j]? = some place)) ∧ st = (t, (i : Int))) (fun st => (l.length - st.2).toNat)
        (fun r : Sum Bool Unit => ∃ t : Bool, (okN g place → (t = true ↔ ∃ j : Nat, j < l.length ∧ l[j]? = some place)) ∧ r = .inl t)
        ⟨0, false, Nat.zero_le _, fun _ => ⟨(fun q => by cases q), fun ⟨j, q, _⟩ => by omega⟩, rfl⟩ (by simp only; omega) ?_ ?_
      · rintro _ ⟨i, t, hi, ht, rfl⟩
        simp only [clt_eq, cond_dec, cne_eq]
        by_cases hlt : i < l.length
        · have e1 : iadd (i : Int) 1 = ((i + 1 : Nat) : Int) := (add_ok (by omega)).trans (by omega)
          have hli := List.getElem?_eq_getElem hlt
          have hx := wf_i64 (w1.1 l[i] (List.getElem_mem hlt))
          rw [if_pos (by omega), at?_nat, hli, bnd_some, ref03_At g hg _ ⟨hx.2, hx.1⟩, bnd_some, e1]
          have keep : l[i] ≠ place → (okN g place → (t = true ↔ ∃ j : Nat, j < i + 1 ∧ l[j]? = some place)) := by
            intro ne hok
            rw [ht hok]
            constructor
            · rintro ⟨j, j1, j2⟩; exact ⟨j, by omega, j2⟩
            · rintro ⟨j, j1, j2⟩
              have : j ≠ i := fun q => by rw [q, hli] at j2; exact ne (Option.some.inj j2)
              exact ⟨j, by omega, j2⟩
          by_cases c : okN g l[i]
          · rw [if_pos c]
            have hbk := (h.mem l[i] i c).2 ⟨i, hlt, rfl, hli⟩
            simp only [Bool.not_true, cond_false]
            rw [Block_eq, hbk, bnd_some]
            simp only [Option.isSome_some, Bool.not_true, cond_false, Option.getD_some, ne_eq, not_true_eq_false, if_false]
            cases t with
            | true =>
              simp only [cond_true]
              refine rnd_l ⟨i + 1, true, hlt, fun hok => ⟨fun _ => ?_, fun _ => rfl⟩, rfl⟩ (by simp only; omega)
              obtain ⟨j, j1, j2⟩ := (ht hok).1 rfl
              exact ⟨j, by omega, j2⟩
            | false =>
              simp only [cond_false, bnd_some, ceq_eq]
              refine rnd_l ⟨i + 1, decide (l[i] = place), hlt, fun hok => ?_, rfl⟩ (by simp only; omega)
              by_cases ne : l[i] = place
              · rw [decide_eq_true ne]
                exact ⟨fun _ => ⟨i, by omega, by rw [hli, ne]⟩, fun _ => rfl⟩
              · rw [decide_eq_false ne]
                exact keep ne hok
          · rw [if_neg c]
            simp only [Bool.not_false, cond_true]
            refine rnd_l ⟨i + 1, t, hlt, fun hok => keep (fun q => c (q ▸ hok)) hok, rfl⟩ (by simp only; omega)
        · obtain rfl : i = l.length := by omega
          rw [if_neg (by omega)]
          exact rnd_r ⟨t, ht, rfl⟩
      · rintro _ ⟨t, ht, rfl⟩
        simp only
        rw [ref03_At g hg _ ⟨hpl.2, hpl.1⟩, bnd_some]
        by_cases c : okN g place
        · rw [if_pos c, Block_eq, bnd_some]
          simp only [Bool.not_true, cond_false]
          have : (gGet eAt p.block (atN g place)).isSome = t := by
            rw [Bool.eq_iff_iff, ht c]
            constructor
            · intro q
              obtain ⟨v, hv⟩ := Option.isSome_iff_exists.1 q
              obtain ⟨j, j1, _, j3⟩ := (h.mem place v c).1 hv
              exact ⟨j, j1, j3⟩
            · rintro ⟨j, j1, j2⟩
              rw [(h.mem place j c).2 ⟨j, j1, rfl, j2⟩]; rfl
          rw [this]; simp
        · rw [if_neg c, Block_eq, bnd_some]
          rfl

theorem law_LiveKeeps (g : TGeom) (l : List Int) (z : Int) (w0 : BGeom g) (w1 : (∀ x ∈ l, (Lit.int .i64 x).wf = true) ∧ l.length ≤ maxLen) (w2 : (Lit.int .i64 z).wf = true) : m_law10_LiveKeeps g l z = some true := by
  unfold m_law10_LiveKeeps
  obtain ⟨b, hb, hb1⟩ := little10 g w0
  simp only [jn_eq, let_eq, awake10, bnd_some, Bool.not_true, cond_false, hb]
  cases b with
  | false => rfl
  | true =>
    obtain ⟨hg, hop, hso⟩ := hb1 rfl
    simp only [Bool.not_true, cond_false, cgt_eq, ln]
    by_cases hl : 60 < (l.length : Int)
    · rw [decide_eq_true hl]; rfl
    rw [decide_eq_false hl, cond_false, app_ok (by simp; omega), bnd_some, List.nil_append]
    have same : loop (σ := Int) (ρ := Sum Unit Unit) (fun s33 => if s33 < (l.length : Int) then (Bnd (at? l s33) fun y36 => Bnd (at? l s33) fun y41 => if y36 ≠ y41 then (some (.inr (.inr ()))) else some (.inl (iadd s33 1))) else (some (.inr (.inl ())))) 0 = some (.inl ()) := by
      refine loop_run (fun i : Nat => (i : Int)) l.length (by omega) ?_ ?_ rfl
      · intro i hi
        rw [if_pos (by omega), at?_nat, List.getElem?_eq_getElem hi, bnd_some, bnd_some, if_neg (by simp), show iadd (i : Int) 1 = ((i + 1 : Nat) : Int) from (add_ok (by omega)).trans (by omega)]
      · simp
    rcases of_eq g hg l (by omega) with e | ⟨p, e, h⟩
    · unfold m_live_Of_l
      rw [e]
      simp only [Alt, prjL, bnd_some, clt_eq, cond_dec, cne_eq]
      rw [same]; rfl
    · unfold m_live_Of_r
      rw [e]
      simp only [Alt, prjR, bnd_some, clt_eq, cond_dec, cne_eq]
      rw [same, bnd_some]
      simp only
      have hzl := zoneL_len p z (zoneK p.g z)
      have hzk := zoneK_le h.li.geo z
      rw [Zone_eq h.li (by omega), bnd_some, bnd_some]
      refine bnd_rnd (fun r => r = some true) (fun st : Int × List TAt => ∃ i : Nat, i ≤ (zoneL p z (zoneK p.g z)).length ∧ st.1 = i ∧ st.2.length = (zoneL p z (zoneK p.g z)).length) (fun st => ((zoneL p z (zoneK p.g z)).length - st.1).toNat) (fun _ => True) ⟨0, Nat.zero_le _, rfl, rfl⟩ (by simp only; omega) ?_ ?_
      · rintro ⟨s, m⟩ ⟨i, hi, e1, e2⟩
        simp only at e1 e2
        subst e1
        simp only
        by_cases hlt : i < m.length
        · rw [if_pos (by omega), at?_nat, List.getElem?_eq_getElem hlt, bnd_some]
          have e3 : iadd (i : Int) 1 = ((i + 1 : Nat) : Int) := (add_ok (by omega)).trans (by omega)
          exact rnd_l ⟨i + 1, by omega, e3, by simp [set', e2]⟩ (by simp only; rw [e3]; omega)
        · rw [if_neg (by omega)]
          exact rnd_r trivial
      · intro _ _
        rw [bnd_some, Same_eq _ (by omega), bnd_some, Count_eq h.li]
        simp
end Go.AX

namespace Go.AX
set_option autoImplicit false
set_option linter.unusedVariables false
set_option linter.unusedSimpArgs false
set_option maxRecDepth 4000
set_option maxHeartbeats 4000000

/-- The places but for one, as cells. -/
def cells (l : List Int) (place : Int) : Nat → List Ce
  | 0 => []
  | i + 1 => match l[i]? with
    | some x => if x ≠ 0 ∧ x ≠ place then cells l place i ++ [⟨x, (i : Int)⟩] else cells l place i
    | none => cells l place i
theorem cells_len (l : List Int) (place : Int) : ∀ i, (cells l place i).length ≤ i
  | 0 => Nat.le_refl _
  | i + 1 => by
    have ih := cells_len l place i
    simp only [cells]
    split
    · split
      · simp; omega
      · omega
    · omega
theorem cells_mem (l : List Int) (place : Int) (c : Ce) : ∀ i, c ∈ cells l place i ↔ ∃ j : Nat, j < i ∧ c.Block = (j : Int) ∧ l[j]? = some c.Place ∧ c.Place ≠ 0 ∧ c.Place ≠ place
  | 0 => by simp [cells]
  | i + 1 => by
    have ih := cells_mem l place c i
    have stay : (∀ x, l[i]? = some x → ¬ (x ≠ 0 ∧ x ≠ place)) → (c ∈ cells l place i ↔ ∃ j : Nat, j < i + 1 ∧ c.Block = (j : Int) ∧ l[j]? = some c.Place ∧ c.Place ≠ 0 ∧ c.Place ≠ place) := by
      intro hn
      rw [ih]
      constructor
      · rintro ⟨j, j1, j2⟩; exact ⟨j, by omega, j2⟩
      · rintro ⟨j, j1, j2, j3, j4, j5⟩
        have : j ≠ i := fun q => hn _ (q ▸ j3) ⟨j4, j5⟩
        exact ⟨j, by omega, j2, j3, j4, j5⟩
    simp only [cells]
    cases hx : l[i]? with
    | none => exact stay (fun x h => by rw [hx] at h; cases h)
    | some x =>
      simp only
      by_cases hc : x ≠ 0 ∧ x ≠ place
      · rw [if_pos hc, List.mem_append, ih, List.mem_singleton]
        constructor
        · rintro (⟨j, j1, j2⟩ | rfl)
          · exact ⟨j, by omega, j2⟩
          · exact ⟨i, by omega, rfl, hx, hc.1, hc.2⟩
        · rintro ⟨j, j1, j2, j3, j4, j5⟩
          by_cases e : j = i
          · right
            rw [e, hx] at j3
            obtain ⟨a, b⟩ := c
            simp only at j2 j3
            rw [j2, ← Option.some.inj j3, e]
          · exact .inl ⟨j, by omega, j2, j3, j4, j5⟩
      · rw [if_neg hc]
        exact stay (fun y h => by rw [hx] at h; rw [← Option.some.inj h]; exact hc)
theorem cells_dist {g : TGeom} {l : List Int} {p : Lv} {n : Nat} (h : OI g l n p) (place : Int) : ∀ i, i ≤ n → (cells l place i).Pairwise fun a b => a.Place ≠ b.Place
  | 0, _ => .nil
  | i + 1, hi => by
    have ih := cells_dist h place i (by omega)
    simp only [cells]
    split
    · rename_i x hx
      split
      · rename_i hc
        rw [List.pairwise_append]
        refine ⟨ih, List.pairwise_singleton _ _, fun a ha b hb => ?_⟩
        rw [List.mem_singleton.1 hb]
        obtain ⟨j, j1, j2, j3, j4, j5⟩ := (cells_mem l place a i).1 ha
        intro e
        have hok := h.ok i x (by omega) hx hc.1
        have := h.inj hok (by omega) (by omega) (j := j) (k := i) (j3.trans (congrArg some e)) hx
        omega
      · exact ih
    · exact ih
theorem law_LiveAgain (g : TGeom) (l : List Int) (place block : Int) (w0 : BGeom g) (w1 : (∀ x ∈ l, (Lit.int .i64 x).wf = true) ∧ l.length ≤ maxLen) (w2 : (Lit.int .i64 place).wf = true) (w3 : (Lit.int .i64 block).wf = true) : m_law10_LiveAgain g l place block = some true := by
  unfold m_law10_LiveAgain
  obtain ⟨b, hb, hb1⟩ := little10 g w0
  simp only [jn_eq, let_eq, awake10, bnd_some, Bool.not_true, cond_false, hb]
  cases b with
  | false => rfl
  | true =>
    obtain ⟨hg, hop, hso⟩ := hb1 rfl
    simp only [Bool.not_true, cond_false, cgt_eq, ln]
    by_cases hl : 60 < (l.length : Int)
    · rw [decide_eq_true hl]; rfl
    rw [decide_eq_false hl, cond_false]
    have hpl := wf_i64 w2
    rcases of_eq g hg l (by omega) with e | ⟨p, e, h⟩
    · unfold m_live_Of_l
      rw [e]; rfl
    · unfold m_live_Of_r
      rw [e]
      simp only [Alt, prjR, bnd_some]
      have hcl := cells_len l place
      -- the list
      have loopE : ∀ (k : List Ce → Option Bool), Bnd (loop (σ := Int × (List TRef10_Cell)) (ρ := ((List TRef10_Cell))) (fun s74 => bif clt s74.1 (l.length : Int) then (Bnd (at? l s74.1) fun y84 => bif cne y84 0 then (Bnd (at? l s74.1) fun y90 => bif cne y90 place then (Bnd (at? l s74.1) fun y85 => Bnd (app? 16 s74.2 [(TRef10_Cell.mk y85 s74.1)]) fun l91 => some (.inl (iadd s74.1 1, l91))) else some (.inl (iadd s74.1 1, s74.2))) else some (.inl (iadd s74.1 1, s74.2))) else (some (.inr (s74.2)))) (0, ([] : List TRef10_Cell))) k = k (cells l place l.length) := by
        intro k
        refine bnd_run (fun i => ((i : Int), cells l place i)) l.length (cells l place l.length) (by omega) rfl ?_ ?_ rfl
        · intro i hi
          have hli := List.getElem?_eq_getElem hi
          have := hcl i
          simp only [clt_eq, cond_dec, cne_eq, cells, hli]
          rw [if_pos (by omega), at?_nat, hli, bnd_some, show iadd (i : Int) 1 = ((i + 1 : Nat) : Int) from (add_ok (by omega)).trans (by omega)]
          by_cases h0 : l[i] = 0
          · simp [h0]
          · by_cases h1 : l[i] = place
            · rw [if_pos h0, bnd_some, if_neg (by simpa using h1), if_neg (fun q => q.2 h1)]
            · rw [if_pos h0, bnd_some, if_pos h1, bnd_some, app_ok (by simp; omega), bnd_some, if_pos ⟨h0, h1⟩]
        · simp
      rw [ref03_At g hg _ ⟨hpl.2, hpl.1⟩, bnd_some, Drop_eq p (by rw [h.hg]; exact hg), bnd_some, h.hg]
      -- what is left behind the drop
      have left : ∀ q : Lv, q.g = g → (∀ x b, okN g x → (gGet eAt q.block (atN g x) = some b ↔ x ≠ place ∧ gGet eAt p.block (atN g x) = some b)) → RL g l.length q (cells l place l.length) := by
        intro q hqg hq
        refine ⟨cells_dist h place l.length (Nat.le_refl _), ?_, ?_, hcl _⟩
        · intro c hc
          obtain ⟨j, j1, j2, j3, j4, j5⟩ := (cells_mem l place c l.length).1 hc
          exact h.ok j c.Place j1 j3 j4
        · intro x b hx
          rw [hq x b hx, h.mem x b hx, cells_mem]
          constructor
          · rintro ⟨h1, j, j1, j2, j3⟩
            exact ⟨j, j1, j2, j3, by have := hx.1; simp only; omega, h1⟩
          · rintro ⟨j, j1, j2, j3, j4, j5⟩
            exact ⟨j5, j, j1, j2, j3⟩
      have h60 : l.length ≤ 60 := by omega
      by_cases c : okN g place
      · rw [if_pos c]
        have step : ∀ q : Lv, ∀ had : Bool, LI l.length q → q.g = g → (∀ x b, okN g x → (gGet eAt q.block (atN g x) = some b ↔ x ≠ place ∧ gGet eAt p.block (atN g x) = some b)) →
            (Bnd (m___live_Live__Add place block q) fun r50 => Bnd (loop (σ := Int × (List TRef10_Cell)) (ρ := ((List TRef10_Cell))) (fun s74 => bif clt s74.1 (l.length : Int) then (Bnd (at? l s74.1) fun y84 => bif cne y84 0 then (Bnd (at? l s74.1) fun y90 => bif cne y90 place then (Bnd (at? l s74.1) fun y85 => Bnd (app? 16 s74.2 [(TRef10_Cell.mk y85 s74.1)]) fun l91 => some (.inl (iadd s74.1 1, l91))) else some (.inl (iadd s74.1 1, s74.2))) else some (.inl (iadd s74.1 1, s74.2))) else (some (.inr (s74.2)))) (0, ([] : List TRef10_Cell))) fun q64 => Bnd (app? 16 q64 [(TRef10_Cell.mk place block)]) fun l87 => bif r50.1 == true then (bif !had then (Bnd (m_law10_shows g l87 r50.2) fun r93 => some r93) else (Bnd (m_law10_shows g l87 r50.2) fun r93 => some r93)) else some false) = some true := by
          intro q had hq hqg hqm
          have hno : gGet eAt q.block (atN g place) = none := by
            cases hb : gGet eAt q.block (atN g place) with
            | none => rfl
            | some v => exact absurd rfl ((hqm place v c).1 hb).1
          rw [Add_eq q (by rw [hqg]; exact hg), bnd_some, hqg, if_pos ⟨c, hno⟩, loopE, app_ok (by simp; have := hcl l.length; omega), bnd_some]
          have hRL := (left q hqg hqm).add hg hqg block c hno
          have hLI := hq.add (by omega) block (by rw [hqg]; exact c) (by rw [hqg]; exact hno)
          have hsh := shows_ok hg hso (show (addD q place block).g = g from hqg) hLI hRL (by omega) (by omega)
          simp only [beq_self_eq_true, cond_true]
          rw [hsh]
          cases had <;> rfl
        by_cases c2 : okN g place ∧ (gGet eAt p.block (atN g place)).isSome = true
        · rw [if_pos c2]
          have := step (dropD p place) true (h.li.drop (by omega) (by rw [h.hg]; exact c2.2)) h.hg (fun x b hx => by
            show gGet eAt (gDel eAt p.block (atN p.g place)) (atN g x) = some b ↔ _
            rw [h.hg, gGet_del inj_at _ _ _ h.li.nb]
            by_cases e : x = place
            · rw [if_pos (by rw [e])]
              simp [e]
            · rw [if_neg (fun r => e (atN_inj hg hx c r))]
              simp [e])
          exact this
        · rw [if_neg c2]
          have hno : gGet eAt p.block (atN g place) = none := by
            cases hb : gGet eAt p.block (atN g place) with
            | none => rfl
            | some v => exact absurd ⟨c, by rw [hb]; rfl⟩ c2
          have := step p false h.li h.hg (fun x b hx => by
            constructor
            · intro r
              refine ⟨fun e => ?_, r⟩
              rw [e, hno] at r; cases r
            · exact fun r => r.2)
          exact this
      · rw [if_neg c, if_neg (fun r => c r.1), Add_eq p (by rw [h.hg]; exact hg), bnd_some, h.hg, if_neg (fun r => c r.1)]
        have := loopE (fun q64 => bif (false == false) then (bif !false then (Bnd (m_law10_shows g q64 p) fun r93 => some r93) else (bif false then (Bnd (m_law10_shows g q64 p) fun r93 => some r93) else (some false))) else (some false))
        refine this.trans ?_
        have hRL := left p h.hg (fun x b hx => ⟨fun r => ⟨fun e => c (e ▸ hx), r⟩, fun r => r.2⟩)
        have hsh := shows_ok hg hso h.hg h.li hRL (by omega) (by omega)
        simp only [beq_self_eq_true, cond_true, Bool.not_false]
        rw [hsh]; rfl
end Go.AX

namespace Go.AX
set_option autoImplicit false
set_option linter.unusedVariables false
set_option linter.unusedSimpArgs false
set_option maxRecDepth 4000
set_option maxHeartbeats 4000000

/-- A place that can't be added. -/
def Fails (g : TGeom) (l : List Int) : Prop := ∃ (i : Nat) (p : Lv) (x : Int), OI g l i p ∧ i < l.length ∧ l[i]? = some x ∧ x ≠ 0 ∧ ¬ (okN g x ∧ gGet eAt p.block (atN g x) = none)
theorem Fails.no {g : TGeom} {l : List Int} (hf : Fails g l) {p : Lv} (h : OI g l l.length p) : False := by
  obtain ⟨i, q, x, h1, h2, h3, h4, h5⟩ := hf
  have hok := h.ok i x h2 h3 h4
  refine h5 ⟨hok, ?_⟩
  cases hb : gGet eAt q.block (atN g x) with
  | none => rfl
  | some b =>
    obtain ⟨j, j1, j2, j3⟩ := (h1.mem x b hok).1 hb
    have := h.inj hok (by omega) h2 (j := j) (k := i) j3 h3
    omega
theorem OI.add {g : TGeom} (hg : Geo g) {l : List Int} (hl : l.length ≤ 1000) {i : Nat} {p : Lv} (h : OI g l i p) (hlt : i < l.length) (c : okN g l[i] ∧ gGet eAt p.block (atN g l[i]) = none) : OI g l (i + 1) (addD p l[i] i) := by
  have hli := List.getElem?_eq_getElem hlt
  refine ⟨h.li.add (by omega) _ (by rw [h.hg]; exact c.1) (by rw [h.hg]; exact c.2), h.hg, ?_, ?_⟩
  · intro j x hj hx hx0
    by_cases e : j = i
    · subst e; rw [hli] at hx; rw [← Option.some.inj hx]; exact c.1
    · exact h.ok j x (by omega) hx hx0
  · intro x b hx
    have e0 : (addD p l[i] i).block = gSet eAt p.block (atN g l[i]) i := by rw [gSet_new inj_at c.2]; unfold addD; rw [h.hg]
    rw [e0, gGet_set inj_at]
    by_cases e : x = l[i]
    · subst e
      rw [if_pos rfl]
      constructor
      · intro q; exact ⟨i, by omega, (Option.some.inj q).symm, hli⟩
      · rintro ⟨j, j1, rfl, j3⟩
        by_cases ej : j = i
        · rw [ej]
        · have := (h.mem _ j hx).2 ⟨j, by omega, rfl, j3⟩
          rw [c.2] at this; cases this
    · rw [if_neg (fun q => e (atN_inj hg hx c.1 q)), h.mem x b hx]
      constructor
      · rintro ⟨j, j1, j2, j3⟩; exact ⟨j, by omega, j2, j3⟩
      · rintro ⟨j, j1, j2, j3⟩
        have : j ≠ i := fun q => by rw [q, hli] at j3; exact e (Option.some.inj j3).symm
        exact ⟨j, by omega, j2, j3⟩
theorem OI.skip {g : TGeom} {l : List Int} {i : Nat} {p : Lv} (h : OI g l i p) (hlt : i < l.length) (h0 : l[i] = 0) : OI g l (i + 1) p := by
  have hli := List.getElem?_eq_getElem hlt
  refine ⟨h.li.more (by omega), h.hg, ?_, ?_⟩
  · intro j x hj hx hx0
    by_cases e : j = i
    · subst e; rw [hli] at hx; exact absurd ((Option.some.inj hx).symm.trans h0) hx0
    · exact h.ok j x (by omega) hx hx0
  · intro x b hx
    rw [h.mem x b hx]
    constructor
    · rintro ⟨j, j1, j2, j3⟩; exact ⟨j, by omega, j2, j3⟩
    · rintro ⟨j, j1, j2, j3⟩
      have : j ≠ i := fun q => by
        rw [q, hli] at j3
        have := (Option.some.inj j3).symm.trans h0
        have := hx.1
        omega
      exact ⟨j, by omega, j2, j3⟩
theorem OI.new (g : TGeom) (hg : Geo g) (l : List Int) : OI g l 0 ⟨g, [], []⟩ := ⟨LI.new g hg, rfl, fun j x h => by omega, fun x b _ => ⟨(fun q => by cases q), fun ⟨j, h, _⟩ => by omega⟩⟩
theorem of_fails (g : TGeom) (hg : Geo g) (l : List Int) (hl : l.length ≤ 1000) : (m_live_Of g l = some (.inl ()) ∧ Fails g l) ∨ ∃ p, m_live_Of g l = some (.inr p) ∧ OI g l l.length p := by
  unfold m_live_Of
  rw [live_new, bnd_some]
  simp only [let_eq, ln]
  refine bnd_rnd (fun r : Option (Sum Unit Lv) => (r = some (.inl ()) ∧ Fails g l) ∨ ∃ p, r = some (.inr p) ∧ OI g l l.length p) (fun st => ∃ (i : Nat) (p : Lv), i ≤ l.length ∧ OI g l i p ∧ st = ((i : Int), p.g.Conv, p.g.Soft, p.g.Seq, p.g.Size, p.g.Open, p.block, p.count)) (fun st => (l.length - st.1).toNat)
    (fun r : Sum (Int × Int × Int × Int × Int × (List (TAt × Int)) × (List (Int × Int))) Unit => (∃ p, OI g l l.length p ∧ r = .inl (p.g.Conv, p.g.Soft, p.g.Seq, p.g.Size, p.g.Open, p.block, p.count)) ∨ (r = .inr () ∧ Fails g l))
    ⟨0, ⟨g, [], []⟩, Nat.zero_le _, OI.new g hg l, rfl⟩ (by simp only; omega) ?_ ?_
  · rintro _ ⟨i, p, hi, h, rfl⟩
    simp only [lv_eta, clt_eq, cond_dec, cne_eq]
    by_cases hlt : i < l.length
    · have e1 : iadd (i : Int) 1 = ((i + 1 : Nat) : Int) := (add_ok (by omega)).trans (by omega)
      have hli := List.getElem?_eq_getElem hlt
      rw [if_pos (by omega), at?_nat, hli, bnd_some, e1]
      by_cases h0 : l[i] ≠ 0
      · rw [if_pos h0, Add_eq p (by rw [h.hg]; exact hg), bnd_some, h.hg]
        by_cases c : okN g l[i] ∧ gGet eAt p.block (atN g l[i]) = none
        · rw [if_pos c]
          simp only [Bool.not_true, cond_false]
          exact rnd_l ⟨i + 1, addD p l[i] i, hlt, h.add hg hl hlt c, rfl⟩ (by simp only; omega)
        · rw [if_neg c]
          simp only [Bool.not_false, cond_true]
          exact rnd_r (.inr ⟨rfl, i, p, l[i], h, hlt, hli, h0, c⟩)
      · rw [if_neg h0]
        exact rnd_l ⟨i + 1, p, hlt, h.skip hlt (by simpa using h0), rfl⟩ (by simp only; omega)
    · obtain rfl : i = l.length := by omega
      rw [if_neg (by omega)]
      exact rnd_r (.inl ⟨p, h, rfl⟩)
  · rintro r (⟨p, h, rfl⟩ | ⟨rfl, h⟩)
    · exact .inr ⟨p, rfl, h⟩
    · exact .inl ⟨rfl, h⟩
/-- The reference's walk along the places. -/
theorem ref_walk (g : TGeom) (hg : Geo g) (l : List Int) (hl : l.length ≤ 1000) (hw : ∀ x ∈ l, (Lit.int .i64 x).wf = true) {k : List Ce × Bool → Option Bool} (G : Option Bool → Prop)
    (h1 : ∀ p m, OI g l l.length p → RL g l.length p m → G (k (m, true))) (h2 : ∀ m, Fails g l → G (k (m, false))) :
    G (Bnd (loop (σ := (List TRef10_Cell) × Bool × Int) (ρ := ((List TRef10_Cell) × Bool)) (fun s30 => bif clt s30.2.2 (l.length : Int) then (bif s30.2.1 then (Bnd (at? l s30.2.2) fun y39 => bif cne y39 0 then (Bnd (at? l s30.2.2) fun y45 => Bnd (m_ref10_Do g s30.1 (TRef10_Cell.mk y45 s30.2.2) false) fun r50 => some (.inl (r50.1, r50.2, iadd s30.2.2 1))) else some (.inl (s30.1, true, iadd s30.2.2 1))) else (some (.inr (s30.1, false)))) else (some (.inr (s30.1, s30.2.1)))) (([] : List TRef10_Cell), true, 0)) k) := by
  refine bnd_rnd G (fun st => (∃ (i : Nat) (p : Lv) (m : List Ce), i ≤ l.length ∧ OI g l i p ∧ RL g i p m ∧ st = (m, true, (i : Int))) ∨ (Fails g l ∧ ∃ (i : Nat) (m : List Ce), i ≤ l.length ∧ st = (m, false, (i : Int)))) (fun st => (l.length - st.2.2).toNat)
    (fun r => (∃ p m, OI g l l.length p ∧ RL g l.length p m ∧ r = (m, true)) ∨ (Fails g l ∧ ∃ m, r = (m, false))) (.inl ⟨0, ⟨g, [], []⟩, [], Nat.zero_le _, OI.new g hg l, RL.new g, rfl⟩) (by simp only; omega) ?_ ?_
  · rintro _ (⟨i, p, m, hi, h, hR, rfl⟩ | ⟨hf, i, m, hi, rfl⟩)
    · simp only [clt_eq, cond_dec, cne_eq]
      by_cases hlt : i < l.length
      · have e1 : iadd (i : Int) 1 = ((i + 1 : Nat) : Int) := (add_ok (by omega)).trans (by omega)
        have hli := List.getElem?_eq_getElem hlt
        have hx := wf_i64 (hw l[i] (List.getElem_mem hlt))
        rw [if_pos (by omega), cond_true, at?_nat, hli, bnd_some, e1]
        by_cases h0 : l[i] ≠ 0
        · rw [if_pos h0, bnd_some, do_add hg hR (by omega) _ _ ⟨hx.2, hx.1⟩, bnd_some]
          by_cases c : okN g l[i] ∧ gGet eAt p.block (atN g l[i]) = none
          · rw [if_pos c]
            exact rnd_l (.inl ⟨i + 1, addD p l[i] i, _, hlt, h.add hg hl hlt c, hR.add hg h.hg _ c.1 c.2, rfl⟩) (by simp only; omega)
          · rw [if_neg c]
            exact rnd_l (.inr ⟨⟨i, p, l[i], h, hlt, hli, h0, c⟩, i + 1, m, hlt, rfl⟩) (by simp only; omega)
        · rw [if_neg h0]
          exact rnd_l (.inl ⟨i + 1, p, m, hlt, h.skip hlt (by simpa using h0), hR.more (by omega), rfl⟩) (by simp only; omega)
      · obtain rfl : i = l.length := by omega
        rw [if_neg (by omega)]
        exact rnd_r (.inl ⟨p, m, h, hR, rfl⟩)
    · simp only [clt_eq, cond_dec, cond_false]
      by_cases hlt : i < l.length
      · rw [if_pos (by omega)]
        exact rnd_r (.inr ⟨hf, m, rfl⟩)
      · rw [if_neg (by omega)]
        exact rnd_r (.inr ⟨hf, m, rfl⟩)
  · rintro r (⟨p, m, h, hR, rfl⟩ | ⟨hf, m, rfl⟩)
    · exact h1 p m h hR
    · exact h2 m hf
theorem law_LiveOfs (g : TGeom) (l : List Int) (w0 : BGeom g) (w1 : (∀ x ∈ l, (Lit.int .i64 x).wf = true) ∧ l.length ≤ maxLen) : m_law10_LiveOfs g l = some true := by
  unfold m_law10_LiveOfs
  obtain ⟨b, hb, hb1⟩ := little10 g w0
  simp only [jn_eq, let_eq, awake10, bnd_some, Bool.not_true, cond_false, hb]
  cases b with
  | false => rfl
  | true =>
    obtain ⟨hg, hop, hso⟩ := hb1 rfl
    simp only [Bool.not_true, cond_false, cgt_eq, ln]
    by_cases hl : 60 < (l.length : Int)
    · rw [decide_eq_true hl]; rfl
    rw [decide_eq_false hl, cond_false]
    rcases of_fails g hg l (by omega) with ⟨e, hf⟩ | ⟨p, e, h⟩
    · unfold m_live_Of_l
      rw [e]
      simp only [Alt, prjL, bnd_some]
      refine ref_walk g hg l (by omega) w1.1 (fun r => r = some true) (fun q m hq _ => (hf.no hq).elim) (fun m _ => ?_)
      rfl
    · unfold m_live_Of_r
      rw [e]
      simp only [Alt, prjR, bnd_some]
      refine ref_walk g hg l (by omega) w1.1 (fun r => r = some true) (fun q m hq hR => ?_) (fun m hf => (hf.no h).elim)
      have hR2 : RL g l.length p m := by
        refine ⟨hR.dist, hR.okp, fun x b hx => ?_, hR.len⟩
        rw [← hR.mem x b hx, h.mem x b hx, hq.mem x b hx]
      have := shows_ok hg hso h.hg h.li hR2 (by omega) (by omega)
      simp only [Bool.not_true, cond_false]
      rw [this]; rfl
end Go.AX
