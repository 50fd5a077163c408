/- Chapter 12: plain laws: zones, room, what is left free. -/
import Derived.Test.YtjpajfgdbmeiiaaP12b
namespace Go.AX
set_option autoImplicit false
set_option linter.unusedVariables false
set_option linter.unusedSimpArgs false

/-- How many zones are taken. -/
def zonesN (g : TGeom) (p : TPool) (s : Nat) (n : Int) : Int := if n ≤ roomF g p s then 0 else (n - roomF g p s + g.Size - 1) / g.Size
/-- The zones taken, by what is left. -/
theorem zonesN_of {g : TGeom} (hg : Geo g) {p : TPool} (hp : RightQ g p) {s : Nat} (hs : s < 3) {n d r : Int} (h : g.Size * d = n - roomF g p s + r) (hn : 1 ≤ n) (h0 : 0 ≤ r) (h1 : r < g.Size) : zonesN g p s n = d := by
  have hr := room_range hg hp hs
  have hz := hg.z
  unfold zonesN
  by_cases hle : n ≤ roomF g p s
  · rw [if_pos hle]
    have h2 : g.Size * d < g.Size * 1 := by omega
    have h3 : g.Size * (-1) < g.Size * d := by omega
    have := Int.lt_of_mul_lt_mul_left h2 (by omega)
    have := Int.lt_of_mul_lt_mul_left h3 (by omega)
    omega
  · rw [if_neg hle]
    have e : n - roomF g p s + g.Size - 1 = (g.Size - 1 - r) + g.Size * d := by omega
    rw [e, Int.add_mul_ediv_left _ _ (by omega), Int.ediv_eq_zero_of_lt (by omega) (by omega)]
    omega
theorem zonesN_range {g : TGeom} (hg : Geo g) {p : TPool} (hp : RightQ g p) {s : Nat} (hs : s < 3) {n : Int} (hn : 0 ≤ n) : ∃ r, g.Size * zonesN g p s n = n - roomF g p s + r ∧ (0 ≤ r) ∧ (roomF g p s < n → r < g.Size) ∧ 0 ≤ zonesN g p s n ∧ (n ≤ roomF g p s → r = roomF g p s - n) := by
  have hr := room_range hg hp hs
  have hz := hg.z
  unfold zonesN
  by_cases hle : n ≤ roomF g p s
  · rw [if_pos hle]
    exact ⟨roomF g p s - n, by omega, by omega, fun h => by omega, by omega, fun _ => rfl⟩
  · rw [if_neg hle]
    have h1 := Int.mul_ediv_add_emod (n - roomF g p s + g.Size - 1) g.Size
    have h2 := Int.emod_nonneg (n - roomF g p s + g.Size - 1) (show g.Size ≠ 0 by omega)
    have h3 := Int.emod_lt_of_pos (n - roomF g p s + g.Size - 1) (show 0 < g.Size by omega)
    exact ⟨g.Size - 1 - (n - roomF g p s + g.Size - 1) % g.Size, by omega, by omega, fun _ => by omega, Int.ediv_nonneg (by omega) (by omega), fun h => absurd h hle⟩

theorem lane_Zones {g : TGeom} (hg : Geo g) {p : TPool} (hp : RightQ g p) {s : Nat} (hs : s < 3) {n : Int} (h0 : 0 ≤ n) (hn : n ≤ 100000) : m_lane_Zones g p s n = some (zonesN g p s n) := by
  have hr := room_range hg hp hs
  have hz := hg.z
  unfold m_lane_Zones
  rw [pool_Room g p hg ((rightQ hg).2 hp) hs]
  simp only [bnd_some, let_eq, show isub n (roomF g p s) = n - roomF g p s from sub_ok (by omega), cle_eq, cond_dec]
  unfold zonesN
  by_cases hle : n ≤ roomF g p s
  · rw [if_pos hle, if_pos (by omega)]
  · rw [if_neg hle, if_neg (by omega)]
    rw [show iadd (n - roomF g p s) g.Size = n - roomF g p s + g.Size from add_ok (by omega), show isub (n - roomF g p s + g.Size) 1 = n - roomF g p s + g.Size - 1 from sub_ok (by omega), show nz? g.Size = some () by unfold nz?; rw [if_neg (by omega)]]
    simp only [bnd_some]
    congr 1
    show IntKind.wrap .i64 ((n - roomF g p s + g.Size - 1).tdiv g.Size) = _
    rw [Int.tdiv_eq_ediv_of_nonneg (by omega), IntKind.wrap_i64]
    have h1 : 0 ≤ (n - roomF g p s + g.Size - 1) / g.Size := Int.ediv_nonneg (by omega) (by omega)
    have h2 : (n - roomF g p s + g.Size - 1) / g.Size ≤ n - roomF g p s + g.Size - 1 := Int.ediv_le_self _ (by omega)
    omega

theorem ref12_Zones {g : TGeom} (hg : Geo g) {p : TPool} (hp : RightQ g p) {s : Nat} (hs : s < 3) {n : Int} (h0 : 0 ≤ n) (hn : n ≤ 100000) : m_ref12_Zones g p s n = some (zonesN g p s n) := by
  have hr := room_range hg hp hs
  have hz := hg.z
  obtain ⟨r, e, r0, r1, d0, r2⟩ := zonesN_range hg hp hs h0
  unfold m_ref12_Zones
  rw [ref11_Room g p hg ((rightQ hg).2 hp) hs]
  simp only [bnd_some]
  have hdn : zonesN g p s n ≤ 200000 := by
    have : 1 * zonesN g p s n ≤ g.Size * zonesN g p s n := Int.mul_le_mul_of_nonneg_right (by omega) d0
    by_cases hle : roomF g p s < n
    · have := r1 hle; omega
    · have := r2 (by omega)
      have hh : g.Size * zonesN g p s n = 0 := by omega
      omega
  refine bnd_run (fun i => (roomF g p s + g.Size * i, (i : Int))) (zonesN g p s n).toNat (zonesN g p s n) (by omega) (by simp) ?_ ?_ rfl
  · intro i hi
    simp only [let_eq, clt_eq, cond_dec]
    have h2 : g.Size * (i + 1 : Int) ≤ g.Size * zonesN g p s n := Int.mul_le_mul_of_nonneg_left (by omega) (by omega)
    have h3 : g.Size * (i + 1 : Int) = g.Size * i + g.Size := by rw [Int.mul_add, Int.mul_one]
    have h4 : 0 ≤ g.Size * (i : Int) := Int.mul_nonneg (by omega) (by omega)
    have hlt : roomF g p s < n := by
      by_cases h : roomF g p s < n
      · exact h
      · have := r2 (by omega)
        have hh : g.Size * zonesN g p s n = 0 := by omega
        have := Int.mul_pos (show 0 < g.Size by omega) (show 0 < zonesN g p s n by omega)
        omega
    have := r1 hlt
    rw [if_pos (by omega), show iadd (roomF g p s + g.Size * (i : Int)) g.Size = roomF g p s + g.Size * i + g.Size from add_ok (by omega), show iadd (i : Int) 1 = i + 1 from add_ok (by omega)]
    simp only [Option.some.injEq, Sum.inl.injEq, Prod.mk.injEq]
    exact ⟨by rw [Int.natCast_add]; simp only [Int.natCast_one]; omega, by omega⟩
  · simp only [let_eq, clt_eq, cond_dec]
    rw [show (((zonesN g p s n).toNat : Nat) : Int) = zonesN g p s n by omega, if_neg (by omega)]

def keepF (p : TPool) : Int := if hd p 2 = 0 then 2 else 1
theorem lane_Keep {g : TGeom} (hg : Geo g) {p : TPool} (hp : RightQ g p) : m_lane_Keep g p = some (keepF p) := by
  unfold m_lane_Keep
  rw [show (2 : Int) = ((2 : Nat) : Int) from rfl, pool_Room g p hg ((rightQ hg).2 hp) (by omega)]
  simp only [bnd_some, let_eq, ceq_eq, cond_dec]
  unfold keepF roomF
  by_cases h : hd p 2 = 0
  · simp [h]
  · have := (hp.heads 2 (by omega) h).2.1
    rw [if_neg h, if_neg h, if_neg (by omega)]
theorem ref12_Keep (g : TGeom) (p : TPool) : m_ref12_Keep g p = some (keepF p) := by
  unfold m_ref12_Keep keepF
  simp only [let_eq, ceq_eq, cond_dec]
  have : hd p 2 = p.Heads.x2 := rfl
  rw [this]
  split <;> rfl

/-- A step leaves another stream's room. -/
theorem room_other {g : TGeom} {p : TPool} (hg : Geo g) (h : RightQ g p) {s : Nat} (hs : s < 3) {z : Int} (hz : stepZ g p s = some z) {b : Nat} (hb : b < 3) (hne : b ≠ s) : roomF g (stepped g p s z) b = roomF g p b ∧ hd (stepped g p s z) b = hd p b := by
  obtain ⟨z1, z2, z3⟩ := stepZ_has ((rightQ hg).2 h) hg hs hz
  have e := hd_stepped g p s z hb
  rw [if_neg hne] at e
  refine ⟨?_, e⟩
  unfold roomF
  rw [e]
  by_cases h0 : hd p b = 0
  · rw [if_pos h0, if_pos h0]
  · rw [if_neg h0, if_neg h0, pt_stepped s z1 (h.heads b hb h0).1, if_neg (stepZ_own hg h hs hz hb hne)]
theorem room_step {g : TGeom} {p : TPool} (hg : Geo g) (h : RightQ g p) {s : Nat} (hs : s < 3) {z : Int} (hz : stepZ g p s = some z) : roomF g (stepped g p s z) s < g.Size := by
  obtain ⟨z1, z2, z3⟩ := stepZ_has ((rightQ hg).2 h) hg hs hz
  have hgz := hg.z
  have hc := hg.c
  unfold roomF
  rw [hd_stepped g p s z hs, if_pos rfl]
  by_cases he : pt g p z + 1 = g.Size
  · rw [if_pos he, if_pos rfl]; omega
  · have : z ≠ 0 := by unfold has at z1; omega
    rw [if_neg he, if_neg this, pt_stepped s z1 z1, if_pos rfl]; omega

def frees (g : TGeom) (p : TPool) : Int := ((zonesF g p 0).length : Int)

/-- Steps of one stream. -/
theorem run_one {g : TGeom} (hg : Geo g) {s : Nat} (hs : s < 3) : ∀ (n : Nat) (a : List TAt) (p : TPool), RightQ g p →
    (capF g p s < n ∧ (List.replicate n (s : Int)).foldl (planS g) (some (a, p)) = none) ∨
    ∃ a' q, (List.replicate n (s : Int)).foldl (planS g) (some (a, p)) = some (a', q) ∧ RightQ g q ∧ a'.length = a.length + n ∧ capF g q s + n = capF g p s ∧ (1 ≤ n → roomF g q s < g.Size) ∧ (n = 0 → q = p) ∧ ∀ b, b < 3 → b ≠ s → roomF g q b = roomF g p b ∧ hd q b = hd p b
  | 0, a, p, hp => .inr ⟨a, p, rfl, hp, rfl, by simp, fun h => by omega, fun _ => rfl, fun b _ _ => ⟨rfl, rfl⟩⟩
  | n + 1, a, p, hp => by
    have hgz := hg.z
    simp only [List.replicate_succ, List.foldl_cons]
    cases hz : stepZ g p s with
    | none =>
      left
      have := (cap_none hg hp hs).1 hz
      refine ⟨by omega, ?_⟩
      simp only [planS, Int.toNat_natCast, hz]
      exact foldS_none g _
    | some z =>
      have hst := stepped_right hg hp hs hz
      have hc := cap_step hg hp hs hz
      simp only [planS, Int.toNat_natCast, hz]
      rcases run_one hg hs n (a ++ [⟨z, pt g p z⟩]) _ hst with ⟨h1, h2⟩ | ⟨a', q, h1, h2, h3, h4, h5, h6, h7⟩
      · exact .inl ⟨by omega, h2⟩
      · refine .inr ⟨a', q, h1, h2, by rw [h3]; simp; omega, by omega, fun _ => ?_, fun h => by omega, fun b hb hne => ?_⟩
        · by_cases h0 : n = 0
          · rw [h6 h0]; exact room_step hg hp hs hz
          · exact h5 (by omega)
        · obtain ⟨e1, e2⟩ := room_other hg hp hs hz hb hne
          obtain ⟨e3, e4⟩ := h7 b hb hne
          exact ⟨e3.trans e1, e4.trans e2⟩
end Go.AX
