/- Chapter 11: how much a stream has; one behind the other. -/
import Derived.Test.YtjpajfgdbmeiiaaP11d
namespace Go.AX
set_option autoImplicit false
set_option linter.unusedVariables false
set_option linter.unusedSimpArgs false

theorem stepZ_was {g : TGeom} {p : TPool} {s : Nat} {z : Int} (hz : stepZ g p s = some z) : hd p s = 0 ∨ hd p s = z := by
  unfold stepZ at hz
  split at hz
  · rename_i h; exact .inl h
  · cases hz; exact .inr rfl

theorem isHead_stepped {g : TGeom} {p : TPool} {s : Nat} (hs : s < 3) {z x : Int} (hz : stepZ g p s = some z) (hx : x ≠ z) : isHead (stepped g p s z) x ↔ isHead p x := by
  unfold isHead
  constructor
  · rintro ⟨h0, hm⟩
    refine ⟨h0, ?_⟩
    obtain ⟨i, hi, e⟩ := (mem3 _ _).1 hm
    have e' : hd (stepped g p s z) i = x := e
    rw [hd_stepped g p s z hi] at e'
    by_cases his : i = s
    · rw [if_pos his] at e'
      exfalso
      split at e'
      · omega
      · exact hx e'.symm
    · rw [if_neg his] at e'
      exact (mem3 _ _).2 ⟨i, hi, e'⟩
  · rintro ⟨h0, hm⟩
    refine ⟨h0, ?_⟩
    obtain ⟨i, hi, e⟩ := (mem3 _ _).1 hm
    have e' : hd p i = x := e
    refine (mem3 _ _).2 ⟨i, hi, ?_⟩
    show hd (stepped g p s z) i = x
    rw [hd_stepped g p s z hi]
    by_cases his : i = s
    · exfalso
      subst his
      rcases stepZ_was hz with h | h <;> omega
    · rw [if_neg his]; exact e'

theorem pick_stepped {g : TGeom} {p : TPool} {s : Nat} (hs : s < 3) {z : Int} (hz : stepZ g p s = some z) (hh : has g p z) {i : Nat} (hi : i < p.Points.length) (hne : g.Conv + (i : Int) ≠ z) (v : Int) : pick g (stepped g p s z) v i = pick g p v i := by
  unfold pick
  rw [gt_pt (g := g) (p := stepped g p s z), pt_stepped s hh (has_at hi), if_neg hne, ← gt_pt]
  have := isHead_stepped hs hz hne
  by_cases h : isHead p (g.Conv + (i : Int))
  · rw [if_neg (fun k => k.2 (this.2 h)), if_neg (fun k => k.2 h)]
  · by_cases h2 : gt p.Points i = v
    · rw [if_pos ⟨h2, fun k => h (this.1 k)⟩, if_pos ⟨h2, h⟩]
    · rw [if_neg (fun k => h2 k.1), if_neg (fun k => h2 k.1)]

theorem pick_gone {g : TGeom} {p : TPool} {s : Nat} {z : Int} (hh : has g p z) (h0 : 0 ≤ pt g p z) {i : Nat} (he : g.Conv + (i : Int) = z) : pick g (stepped g p s z) 0 i = [] := by
  unfold pick
  rw [gt_pt (g := g) (p := stepped g p s z), he, pt_stepped s hh hh, if_pos rfl, if_neg]
  rintro ⟨h, _⟩; omega

theorem free_stepped {g : TGeom} {p : TPool} (hg : Geo g) (h : RightQ g p) {s : Nat} (hs : s < 3) {z : Int} (hz : stepZ g p s = some z) :
    (zonesF g (stepped g p s z) 0).length + (if hd p s = 0 then 1 else 0) = (zonesF g p 0).length := by
  obtain ⟨z1, z2, z3⟩ := stepZ_has ((rightQ hg).2 h) hg hs hz
  have hc := hg.c
  unfold has at z1
  have hz1 : has g p z := z1
  have key : ∀ n, n ≤ p.Points.length → (zonesTo g (stepped g p s z) 0 n).length + (if hd p s = 0 ∧ z < g.Conv + (n : Int) then 1 else 0) = (zonesTo g p 0 n).length := by
    intro n
    induction n with
    | zero => intro _; rw [if_neg (by omega)]; simp [zonesTo]
    | succ n ih =>
      intro hn
      have := ih (by omega)
      rw [zonesTo_succ, zonesTo_succ, List.length_append, List.length_append]
      by_cases e : g.Conv + (n : Int) = z
      · rw [pick_gone hz1 z2 e]
        rw [if_neg (by omega)] at this
        have hp : (pick g p 0 n).length = if hd p s = 0 then 1 else 0 := by
          by_cases h0 : hd p s = 0
          · rw [if_pos h0]
            unfold stepZ at hz
            rw [if_pos h0] at hz
            have hm : z ∈ zonesF g p 0 := List.mem_of_mem_head? (by rw [hz]; rfl)
            obtain ⟨k, hk1, hk2, hk3, hk4⟩ := mem_zonesF.1 hm
            have : k = n := by omega
            subst this
            unfold pick
            rw [if_pos ⟨hk2, hk3⟩]; rfl
          · rw [if_neg h0]
            unfold pick
            rw [if_neg]; rfl
            rintro ⟨_, hnh⟩
            apply hnh
            rcases stepZ_was hz with k | k
            · exact absurd k h0
            · exact ⟨by omega, (mem3 _ _).2 ⟨s, hs, by rw [e]; exact k⟩⟩
        rw [hp]
        have hlt : z < g.Conv + ((n + 1 : Nat) : Int) := by omega
        by_cases h0 : hd p s = 0
        · rw [if_pos ⟨h0, hlt⟩, if_pos h0]; simp; omega
        · rw [if_neg (fun k => h0 k.1), if_neg h0]; simp; omega
      · rw [pick_stepped hs hz hz1 (by omega) e]
        by_cases h0 : hd p s = 0 ∧ z < g.Conv + (n : Int)
        · rw [if_pos h0] at this
          rw [if_pos ⟨h0.1, by omega⟩]; omega
        · rw [if_neg h0] at this
          rw [if_neg (fun k => h0 ⟨k.1, by omega⟩)]; omega
  have := key p.Points.length (Nat.le_refl _)
  unfold zonesF
  rw [stepped_len]
  by_cases h0 : hd p s = 0
  · rw [if_pos ⟨h0, by omega⟩] at this; rw [if_pos h0]; exact this
  · rw [if_neg (fun k => h0 k.1)] at this; rw [if_neg h0]; exact this

/-- How many places a stream has. -/
def capF (g : TGeom) (p : TPool) (s : Nat) : Int := roomF g p s + g.Size * ((zonesF g p 0).length : Int)

theorem cap_step {g : TGeom} {p : TPool} (hg : Geo g) (h : RightQ g p) {s : Nat} (hs : s < 3) {z : Int} (hz : stepZ g p s = some z) : capF g (stepped g p s z) s + 1 = capF g p s := by
  obtain ⟨z1, z2, z3⟩ := stepZ_has ((rightQ hg).2 h) hg hs hz
  have hgz := hg.z
  have hc := hg.c
  have hf := free_stepped hg h hs hz
  have hr : roomF g (stepped g p s z) s = g.Size - (pt g p z + 1) := by
    unfold roomF
    rw [hd_stepped g p s z hs, if_pos rfl]
    by_cases he : pt g p z + 1 = g.Size
    · rw [if_pos he, if_pos rfl]; omega
    · have : z ≠ 0 := by unfold has at z1; omega
      rw [if_neg he, if_neg this, pt_stepped s z1 z1, if_pos rfl]
  unfold capF
  rw [hr]
  by_cases h0 : hd p s = 0
  · rw [if_pos h0] at hf
    have hp0 : pt g p z = 0 := by
      unfold stepZ at hz
      rw [if_pos h0] at hz
      exact (zonesF_has (List.mem_of_mem_head? (by rw [hz]; rfl))).2
    have : roomF g p s = 0 := by unfold roomF; rw [if_pos h0]
    rw [this, hp0, ← hf]
    simp only [Int.natCast_add, Int.mul_add]
    generalize g.Size * ((zonesF g (stepped g p s z) 0).length : Int) = A
    simp; omega
  · rw [if_neg h0] at hf
    have : roomF g p s = g.Size - pt g p z := by
      unfold roomF; rw [if_neg h0]
      rcases stepZ_was hz with k | k
      · exact absurd k h0
      · rw [k]
    rw [this, ← hf]
    simp only [Nat.add_zero]; omega

theorem cap_none {g : TGeom} {p : TPool} (hg : Geo g) (h : RightQ g p) {s : Nat} (hs : s < 3) : stepZ g p s = none ↔ capF g p s = 0 := by
  have hgz := hg.z
  constructor
  · intro hn
    unfold stepZ at hn
    split at hn
    · rename_i h0
      have : zonesF g p 0 = [] := by cases hz : zonesF g p 0 with
        | nil => rfl
        | cons a t => rw [hz] at hn; cases hn
      simp [capF, roomF, h0, this]
    · cases hn
  · intro hc
    cases hz : stepZ g p s with
    | none => rfl
    | some z =>
      have h1 := cap_step hg h hs hz
      have h2 : 0 ≤ capF g (stepped g p s z) s := by
        have hq := stepped_right hg h hs hz
        have h3 : 0 ≤ roomF g (stepped g p s z) s := by
          unfold roomF
          split
          · omega
          · rename_i hne
            have := (hq.heads s hs hne).2.1
            omega
        unfold capF
        have : 0 ≤ g.Size * ((zonesF g (stepped g p s z) 0).length : Int) := Int.mul_nonneg (by omega) (by omega)
        omega
      omega

theorem room_range {g : TGeom} {p : TPool} (hg : Geo g) (h : RightQ g p) {s : Nat} (hs : s < 3) : 0 ≤ roomF g p s ∧ roomF g p s ≤ g.Size := by
  have hgz := hg.z
  unfold roomF
  split
  · omega
  · rename_i hne
    obtain ⟨h1, h2, _⟩ := h.heads s hs hne
    unfold has at h1
    have h3 := (h.pts (hd p s - g.Conv).toNat (by omega)).1
    unfold pt at h2 ⊢
    omega

theorem law_PoolAll (x0 : TGeom) (x1 : TPool) (a2 : Int) (w0 : BGeom x0) (w1 : BPool x1) (w2 : (Lit.int .u8 a2).wf = true) : m_law11_PoolAll x0 x1 a2 = some true := by
  unfold m_law11_PoolAll
  simp only [jn_eq, let_eq, awake11, bnd_some, Bool.not_true, cond_false]
  obtain ⟨b, hb, hg⟩ := ref03_Right x0 w0
  rw [hb]
  cases b with
  | false => rfl
  | true =>
    have hg := hg rfl
    have hc := hg.c; have hcs := hg.cs; have hss := hg.s; have hgz := hg.z
    have hmul : 0 ≤ x0.Seq * x0.Size ∧ x0.Seq * x0.Size ≤ 64 * 256 := ⟨Int.mul_nonneg (by omega) (by omega), Int.mul_le_mul (by omega) (by omega) (by omega) (by omega)⟩
    simp only [Bool.not_true, cond_false, bnd_some, show imul x0.Seq x0.Size = x0.Seq * x0.Size from mul_ok (by omega), cgt_eq]
    by_cases hbig : 400 < x0.Seq * x0.Size
    · simp [hbig]
    simp only [hbig, decide_false, cond_false]
    obtain ⟨r2, h2, k2⟩ := ref11_Right x0 x1 hg
    rw [h2]
    cases r2 with
    | false => rfl
    | true =>
      have hp := k2.1 rfl
      have hq := (rightQ hg).1 hp
      have hl := hp.len' hg
      obtain ⟨s, hs, e⟩ := stream3 (wf_u8 w2)
      have hfl : (zonesF x0 x1 0).length ≤ x1.Points.length := zonesTo_len x0 x1 0 _
      have hroom := room_range hg hq hs
      have hm2 : 0 ≤ x0.Size * ((zonesF x0 x1 0).length : Int) ∧ x0.Size * ((zonesF x0 x1 0).length : Int) ≤ 256 * 64 := ⟨Int.mul_nonneg (by omega) (by omega), Int.mul_le_mul (by omega) (by omega) (by omega) (by omega)⟩
      simp only [Bool.not_true, cond_false, show nz? 3 = some () from rfl, bnd_some, e, pool_Room x0 x1 hg hp hs, pool_Free x0 x1 hg (show x1.Points.length ≤ 1000 by omega), ln, show imul x0.Size ((zonesF x0 x1 0).length : Int) = x0.Size * ((zonesF x0 x1 0).length : Int) from mul_ok (by omega)]
      rw [show iadd (roomF x0 x1 s) (x0.Size * ((zonesF x0 x1 0).length : Int)) = capF x0 x1 s from add_ok (by omega)]
      have hcap : 0 ≤ capF x0 x1 s ∧ capF x0 x1 s ≤ 20000 := by unfold capF; omega
      refine bnd_rnd (fun x => x = some true) (fun t : Int × List Int × Int × Int × Int => ∃ q : TPool, RightQ x0 q ∧ t.2 = (q.Points, q.Heads.x0, q.Heads.x1, q.Heads.x2) ∧ 0 ≤ t.1 ∧ t.1 + capF x0 q s = capF x0 x1 s) (fun t => (capF x0 x1 s - t.1).toNat)
        (fun r => match r with | .inl t => ∃ q : TPool, RightQ x0 q ∧ t = (q.Points, q.Heads.x0, q.Heads.x1, q.Heads.x2) ∧ capF x0 q s = 0 | .inr _ => False) ⟨x1, hq, rfl, by simp, by simp⟩ (by simp; omega) ?_ ?_
      · rintro ⟨i, t⟩ ⟨q, hq, rfl, hi, hcq⟩
        simp only at hi hcq
        have hqp := (rightQ hg).2 hq
        simp only [clt_eq, cond_dec]
        have hnn : 0 ≤ capF x0 q s := by
          have := room_range hg hq hs
          have : 0 ≤ x0.Size * ((zonesF x0 q 0).length : Int) := Int.mul_nonneg (by omega) (by omega)
          unfold capF; omega
        by_cases hlt : i < capF x0 x1 s
        · rw [if_pos hlt, show (TPool.mk q.Points (A3.mk q.Heads.x0 q.Heads.x1 q.Heads.x2)) = q from rfl, pool_Step x0 q hg hqp hs]
          cases hz : stepZ x0 q s with
          | none => have := (cap_none hg hq hs).1 hz; omega
          | some z =>
            have hst := cap_step hg hq hs hz
            simp only [bnd_some, stepF, hz, Bool.not_true, cond_false, show iadd i 1 = i + 1 from add_ok (by omega)]
            exact rnd_l ⟨stepped x0 q s z, stepped_right hg hq hs hz, rfl, by simp only; omega, by simp only; omega⟩ (by simp only; omega)
        · rw [if_neg hlt]
          exact rnd_r ⟨q, hq, rfl, by omega⟩
      · rintro (t | u) ht
        case inr => exact ht.elim
        obtain ⟨q, hq, rfl, h0⟩ := ht
        have hqp := (rightQ hg).2 hq
        have hql := hqp.len' hg
        have hn := (cap_none hg hq hs).2 h0
        have hf : (zonesF x0 q 0).length = 0 ∧ hd q s = 0 := by
          unfold stepZ at hn
          split at hn
          · rename_i h00
            refine ⟨?_, h00⟩
            cases hz : zonesF x0 q 0 with
            | nil => rfl
            | cons a t => rw [hz] at hn; cases hn
          · cases hn
        simp only [show (TPool.mk q.Points (A3.mk q.Heads.x0 q.Heads.x1 q.Heads.x2)) = q from rfl, pool_Step x0 q hg hqp hs, bnd_some, stepF, hn, Bool.not_false, cond_true, pool_Free x0 q hg (show q.Points.length ≤ 1000 by omega)]
        rw [show (A3.mk q.Heads.x0 q.Heads.x1 q.Heads.x2) = q.Heads from rfl, at3 _ hs]
        have h3 : gt q.Heads.l s = 0 := hf.2
        simp [hf.1, h3]
end Go.AX
