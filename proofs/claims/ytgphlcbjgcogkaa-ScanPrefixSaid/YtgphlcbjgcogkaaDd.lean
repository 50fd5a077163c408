/- Measures and zones: plain lemmas. A device: what its calls come to. Maps, lists that are filtered. A device on which records are laid. A device on which records are laid: what holds of it. The records on a device, one by one. scan.All: the records found, sorted. The reference's records, sorted as they are found. -/
import Derived.KernelRfl
import Derived.Test.YtgphlcbjgcogkaaXM
import Derived.Test.YtgphlcbjgcogkaaXR
import Derived.Test.YtgphlcbjgcogkaaKc
import Derived.Test.YtgphlcbjgcogkaaCc
namespace Go.AX
set_option autoImplicit false
set_option linter.unusedVariables false
set_option linter.unusedSimpArgs false
set_option maxRecDepth 4000
set_option maxHeartbeats 4000000

/-- What a right measure tells. -/
structure Geo (g : TGeom) : Prop where
  c : 2 ≤ g.Conv
  cs : g.Conv + g.Seq ≤ 64
  s : 6 ≤ g.Seq
  z : 8 ≤ g.Size ∧ g.Size ≤ 256
/-- How many blocks, how many pages. -/
def blocks (g : TGeom) : Int := min ((g.Seq - 5) * (g.Size / 2)) 4096
def pages (g : TGeom) : Int := (blocks g + 9) / 10
theorem half_q {x : Int} (h : 0 ≤ x ∧ x ≤ 1000) : binI .quo .i64 x 2 = x / 2 := by
  show IntKind.wrap .i64 (x.tdiv 2) = _
  rw [IntKind.wrap_i64, Int.tdiv_eq_ediv_of_nonneg (by omega)]; omega
theorem blocks_bd (g : TGeom) (h : Geo g) : 4 ≤ blocks g ∧ blocks g ≤ 4096 := by
  obtain ⟨h1, h2, h3, h4⟩ := h
  unfold blocks
  have : 1 * 4 ≤ (g.Seq - 5) * (g.Size / 2) := Int.mul_le_mul (by omega) (by omega) (by decide) (by omega)
  omega
theorem ref03_Blocks (g : TGeom) (h : Geo g) : m_ref03_Blocks g = some (blocks g) := by
  obtain ⟨h1, h2, h3, h4⟩ := h
  unfold m_ref03_Blocks
  simp only [let_eq, jn_eq]
  have hq := half_q (x := g.Size) (by omega)
  refine bnd_run (fun i => ((i : Int) * (g.Size / 2), 5 + (i : Int))) (g.Seq - 5).toNat ((g.Seq - 5) * (g.Size / 2)) (by omega) (by simp) (fun i hi => ?_) ?_ ?_
  · have e1 : clt (5 + (i : Int)) g.Seq = true := decide_eq_true (by omega)
    have hb : (i : Int) * (g.Size / 2) ≤ 64 * 128 := Int.mul_le_mul (by omega) (by omega) (by omega) (by decide)
    have hb0 : 0 ≤ (i : Int) * (g.Size / 2) := Int.mul_nonneg (by omega) (by omega)
    have e2 : iadd ((i : Int) * (g.Size / 2)) (g.Size / 2) = ((i + 1 : Nat) : Int) * (g.Size / 2) := by
      rw [show iadd ((i : Int) * (g.Size / 2)) (g.Size / 2) = (i : Int) * (g.Size / 2) + g.Size / 2 from add_ok (by omega), Int.natCast_add, Int.add_mul]; simp
    have e3 : iadd (5 + (i : Int)) 1 = 5 + ((i + 1 : Nat) : Int) := by
      rw [show iadd (5 + (i : Int)) 1 = 5 + (i : Int) + 1 from add_ok (by omega)]; omega
    show (bif clt (5 + (i : Int)) g.Seq then _ else _) = _
    rw [e1, cond_true, show nz? 2 = some () from rfl, bnd_some, hq, e2, e3]
  · have e1 : clt (5 + (((g.Seq - 5).toNat : Nat) : Int)) g.Seq = false := decide_eq_false (by omega)
    show (bif clt (5 + (((g.Seq - 5).toNat : Nat) : Int)) g.Seq then _ else _) = _
    rw [e1, cond_false, show (((g.Seq - 5).toNat : Nat) : Int) = g.Seq - 5 by omega]
  · unfold blocks
    simp only [cgt_eq]
    by_cases h : 4096 < (g.Seq - 5) * (g.Size / 2)
    · simp only [h, decide_true, cond_true]; rw [Int.min_eq_right (by omega)]
    · simp only [h, decide_false, cond_false]; rw [Int.min_eq_left (by omega)]
theorem ref03_Pages (g : TGeom) (h : Geo g) : m_ref03_Pages g = some (pages g) := by
  have hb := blocks_bd g h
  unfold m_ref03_Pages
  simp only [let_eq, jn_eq, ref03_Blocks g h, bnd_some]
  have hp : 0 ≤ pages g ∧ pages g ≤ 410 := by unfold pages; omega
  refine bnd_run (fun i => (i : Int)) (pages g).toNat (pages g) (by omega) rfl (fun i hi => ?_) ?_ rfl
  · have e0 : imul 10 (i : Int) = 10 * i := mul_ok (by omega)
    have e1 : clt (10 * (i : Int)) (blocks g) = true := decide_eq_true (by unfold pages at hi; omega)
    show (bif clt (imul 10 (i : Int)) (blocks g) then _ else _) = _
    rw [e0, e1, cond_true, show iadd (i : Int) 1 = ((i + 1 : Nat) : Int) from (add_ok (by omega)).trans rfl]
  · have e0 : imul 10 (((pages g).toNat : Nat) : Int) = 10 * pages g := (mul_ok (by omega)).trans (by omega)
    have e1 : clt (10 * pages g) (blocks g) = false := decide_eq_false (by unfold pages; omega)
    show (bif clt (imul 10 (((pages g).toNat : Nat) : Int)) (blocks g) then _ else _) = _
    rw [e0, e1, cond_false, show (((pages g).toNat : Nat) : Int) = pages g by omega]
/-- The reference's word on a measure. -/
def rightG (g : TGeom) : Bool := decide (2 ≤ g.Conv ∧ g.Conv + g.Seq ≤ 64 ∧ 6 ≤ g.Seq ∧ 8 ≤ g.Size ∧ g.Size ≤ 256 ∧ 3 ≤ g.Open ∧ pages g + 3 ≤ g.Soft ∧ g.Soft ≤ 65536)
theorem rightG_geo {g : TGeom} (h : rightG g = true) : Geo g := by
  unfold rightG at h
  simp only [decide_eq_true_eq] at h
  exact ⟨by omega, by omega, by omega, by omega⟩
theorem ref03_Right (g : TGeom) (w : BGeom g) : m_ref03_Right g = some (rightG g) := by
  obtain ⟨w1, w2, w3, w4, w5⟩ := w
  have w1 := wf_i64 w1
  have w3 := wf_i64 w3
  unfold m_ref03_Right
  simp only [jn_eq, let_eq, ceq_eq, cne_eq, clt_eq, cgt_eq, cge_eq, cond_dec]
  have no : (¬ (2 ≤ g.Conv ∧ g.Conv + g.Seq ≤ 64 ∧ 6 ≤ g.Seq ∧ 8 ≤ g.Size ∧ g.Size ≤ 256 ∧ 3 ≤ g.Open ∧ pages g + 3 ≤ g.Soft ∧ g.Soft ≤ 65536)) → rightG g = false := fun h => decide_eq_false h
  by_cases k1 : g.Conv < 2
  · rw [no (by omega)]; simp [k1]
  by_cases k2 : 64 < g.Conv
  · rw [no (by omega)]; simp [k1, k2]
  by_cases k3 : g.Seq < 6
  · rw [no (by omega)]; simp [k1, k2, k3]
  by_cases k4 : 64 < g.Seq
  · rw [no (by omega)]; simp [k1, k2, k3, k4]
  rw [show iadd g.Conv g.Seq = g.Conv + g.Seq from add_ok (by omega)]
  by_cases k5 : 64 < g.Conv + g.Seq
  · rw [no (by omega)]; simp [k1, k2, k3, k4, k5]
  by_cases k6 : g.Size < 8
  · rw [no (by omega)]; simp [k1, k2, k3, k4, k5, k6]
  by_cases k7 : 256 < g.Size
  · rw [no (by omega)]; simp [k1, k2, k3, k4, k5, k6, k7]
  have hg : Geo g := ⟨by omega, by omega, by omega, by omega, by omega⟩
  have hb := blocks_bd g hg
  rw [ref03_Pages g hg]
  simp only [k1, k2, k3, k4, k5, k6, k7, if_false, bnd_some]
  by_cases k8 : g.Open < 3
  · rw [no (by omega)]; simp [k8]
  by_cases k9 : 65536 < g.Soft
  · rw [no (by omega)]; simp [k8, k9]
  rw [show iadd (pages g) 3 = pages g + 3 from add_ok (by unfold pages; omega)]
  simp only [k8, k9, if_false]
  congr 1
  unfold rightG
  apply decide_eq_decide.2
  omega
theorem geomZones (g : TGeom) (h : Geo g) : m_geom_Zones g = some (g.Conv + g.Seq) := by
  obtain ⟨h1, h2, h3, h4⟩ := h
  unfold m_geom_Zones
  rw [let_eq, show iadd g.Conv g.Seq = g.Conv + g.Seq from add_ok (by omega)]
def Sect (g : TGeom) (z : Int) : Int := if z < 0 then 0 else if g.Conv + g.Seq ≤ z then 0 else if z < g.Conv then g.Soft else g.Size
theorem geomSectors (g : TGeom) (h : Geo g) (z : Int) : m_geom_Sectors g z = some (Sect g z) := by
  unfold m_geom_Sectors Sect
  simp only [jn_eq, let_eq, clt_eq, cge_eq, cond_dec, geomZones g h, bnd_some]
  by_cases k1 : z < 0
  · simp [k1]
  by_cases k2 : g.Conv + g.Seq ≤ z
  · simp [k1, k2]
  by_cases k3 : z < g.Conv <;> simp [k1, k2, k3]
/-- How many zones are open. -/
def cnt (l : List TZone) : Int := (l.countP (fun y => decide (y.State = 1)) : Nat)
theorem cnt_take (l : List TZone) {i : Nat} (h : i < l.length) : (((l.take (i + 1)).countP (fun y => decide (y.State = 1)) : Nat) : Int) = ((l.take i).countP (fun y => decide (y.State = 1)) : Nat) + if l[i].State = 1 then 1 else 0 := by
  rw [List.take_succ_eq_append_getElem h, List.countP_append]
  simp only [List.countP_singleton, decide_eq_true_eq]
  split <;> simp
theorem zone_open (l : List TZone) (hl : l.length ≤ 1000) : m_zone_open l = some (cnt l) := by
  unfold m_zone_open
  simp only [let_eq, jn_eq]
  refine bnd_run (fun i => ((((l.take i).countP (fun y => decide (y.State = 1)) : Nat) : Int), (i : Int))) l.length (cnt l) (by omega) (by simp) ?_ ?_ rfl
  · intro i hi
    have h1 := cnt_take l hi
    have h2 := List.countP_le_length (p := fun y : TZone => decide (y.State = 1)) (l := l.take i)
    rw [List.length_take] at h2
    simp only [clt_eq, ln, cond_dec, ceq_eq]
    rw [if_pos (by omega), at?_nat, List.getElem?_eq_getElem hi, bnd_some]
    rw [show iadd (i : Int) 1 = (i : Int) + 1 from add_ok (by omega), show iadd ((List.countP (fun y : TZone => decide (y.State = 1)) (l.take i) : Nat) : Int) 1 = _ + 1 from add_ok (by omega)]
    by_cases k : l[i].State = 1
    · rw [if_pos k, h1, if_pos k]; simp
    · rw [if_neg k, h1, if_neg k]; simp
  · simp [ln, cnt]
def newZ (g : TGeom) : List TZone := List.replicate g.Conv.toNat ⟨4, 0⟩ ++ List.replicate g.Seq.toNat ⟨0, 0⟩
theorem newZ_len (g : TGeom) : (newZ g).length = g.Conv.toNat + g.Seq.toNat := by simp [newZ]
theorem zone_New (g : TGeom) (hg : Geo g) : m_zone_New g = some (newZ g) := by
  obtain ⟨g1, g2, g3, g4⟩ := id hg
  unfold m_zone_New
  rw [geomZones g hg, bnd_some]
  have hm : mk? 16 (TZone.mk 0 0) (g.Conv + g.Seq) (g.Conv + g.Seq) = some (List.replicate (g.Conv.toNat + g.Seq.toNat) (TZone.mk 0 0)) := by
    unfold mk?
    rw [if_pos (by omega), show (g.Conv + g.Seq).toNat = g.Conv.toNat + g.Seq.toNat by omega]
  rw [hm, bnd_some]
  simp only [jn_eq]
  refine bnd_run (fun i => ((i : Int), List.replicate i (TZone.mk 4 0) ++ List.replicate (g.Conv.toNat + g.Seq.toNat - i) (TZone.mk 0 0))) g.Conv.toNat (newZ g) (by omega) (by simp) ?_ ?_ ?_
  · intro i hi
    obtain ⟨k, hk⟩ : ∃ k, g.Conv.toNat + g.Seq.toNat - i = k + 1 := ⟨g.Conv.toNat + g.Seq.toNat - i - 1, by omega⟩
    have hk2 : g.Conv.toNat + g.Seq.toNat - (i + 1) = k := by omega
    simp only [let_eq, clt_eq, cond_dec]
    rw [if_pos (by omega), hk, hk2, at?_nat, List.getElem?_append_right (by simp), show iadd (i : Int) 1 = (i : Int) + 1 from add_ok (by omega)]
    rw [List.replicate_succ' (n := i), List.replicate_succ (n := k)]
    simp [set']
  · simp only [let_eq, clt_eq, cond_dec]
    rw [if_neg (by omega)]
    simp [newZ]
  · rfl
theorem slices_Clone (l : List TZone) (hl : l.length ≤ 1000) : m_slices_Clone l = some l := by
  unfold m_slices_Clone
  rw [app_ok (by simp; omega)]; simp
theorem at?_set {l : List TZone} {z : Int} {y : TZone} (h0 : 0 ≤ z) (h1 : z < l.length) : at? (l.set z.toNat y) z = some y := by
  unfold at?
  rw [if_pos h0, List.getElem?_set_self (by omega)]
theorem zone_there (g : TGeom) (hg : Geo g) (a : TAt) : m_zone_there g a = some (decide (0 ≤ a.Off ∧ a.Off < Sect g a.Zone)) := by
  unfold m_zone_there
  simp only [let_eq, cge_eq, clt_eq, cond_dec, geomSectors g hg, bnd_some]
  by_cases h : 0 ≤ a.Off <;> simp [h]
theorem Sect.inn {g : TGeom} {z : Int} (h : Sect g z ≠ 0) : 0 ≤ z ∧ z < g.Conv + g.Seq := by
  unfold Sect at h
  split at h
  · exact absurd rfl h
  split at h
  · exact absurd rfl h
  · omega
theorem Sect.seq {g : TGeom} {z : Int} (h : g.Conv ≤ z) (h1 : z < g.Conv + g.Seq) (hg : Geo g) : Sect g z = g.Size := by
  have := hg.c
  unfold Sect
  rw [if_neg (by omega), if_neg (by omega), if_neg (by omega)]
theorem Sect.soft {g : TGeom} {z : Int} (h : 0 ≤ z) (h1 : z < g.Conv) (hg : Geo g) : Sect g z = g.Soft := by
  have := hg.s
  unfold Sect
  rw [if_neg (by omega), if_neg (by omega), if_pos (by omega)]
/-- A zone, as it stands. -/
def zat (l : List TZone) (z : Int) : TZone := l.getD z.toNat ⟨0, 0⟩
theorem zat_at {l : List TZone} {z : Int} (h0 : 0 ≤ z) (h1 : z < l.length) : at? l z = some (zat l z) := by
  obtain ⟨i, rfl⟩ := Int.eq_ofNat_of_zero_le h0
  have hi : i < l.length := by omega
  rw [at?_nat, List.getElem?_eq_getElem hi]
  unfold zat
  rw [Int.toNat_natCast, List.getD_eq_getElem?_getD, List.getElem?_eq_getElem hi]; rfl
/-- A write at a zone. -/
def zW (g : TGeom) (l : List TZone) (a : TAt) : List TZone × Int :=
  if 0 ≤ a.Off ∧ a.Off < Sect g a.Zone then
    (if (zat l a.Zone).State = 4 then (l, 0) else if (zat l a.Zone).State = 3 then (l, 3) else if a.Off ≠ (zat l a.Zone).Point then (l, 4) else
      if (zat l a.Zone).State ≠ 1 ∧ g.Open ≤ cnt l then (l, 5) else (l.set a.Zone.toNat ⟨if (zat l a.Zone).Point + 1 = g.Size then 3 else 1, (zat l a.Zone).Point + 1⟩, 0))
  else (l, 6)
theorem zone_Write (g : TGeom) (hg : Geo g) (l : List TZone) (hl : (l.length : Int) = g.Conv + g.Seq) (a : TAt) (hp : -1000000 ≤ (zat l a.Zone).Point ∧ (zat l a.Zone).Point ≤ 1000000) : m_zone_Write g l a = some (zW g l a) := by
  have hl2 : l.length ≤ 1000 := by have := hg.cs; omega
  unfold m_zone_Write zW
  simp only [jn_eq, let_eq, ceq_eq, cne_eq, cge_eq, slices_Clone l hl2, zone_there g hg, bnd_some, zone_open l hl2]
  by_cases ht : 0 ≤ a.Off ∧ a.Off < Sect g a.Zone
  · obtain ⟨z0, z1⟩ := Sect.inn (g := g) (z := a.Zone) (by omega)
    have hz : a.Zone < l.length := by omega
    rw [if_pos ht]
    simp only [ht, and_self, decide_true, Bool.not_true, cond_false, zat_at z0 hz, bnd_some]
    by_cases k4 : (zat l a.Zone).State = 4
    · simp only [k4, decide_true, cond_true, if_true]
    by_cases k3 : (zat l a.Zone).State = 3
    · simp [k3]
    by_cases kp : a.Off = (zat l a.Zone).Point
    · have e1 : iadd (zat l a.Zone).Point 1 = (zat l a.Zone).Point + 1 := add_ok (by omega)
      have st : (Bnd (at? (set' l a.Zone ⟨1, (zat l a.Zone).Point⟩) a.Zone) fun y15 => Bnd (at? (set' l a.Zone ⟨1, (zat l a.Zone).Point⟩) a.Zone) fun y18 => Bnd (at? (set' (set' l a.Zone ⟨1, (zat l a.Zone).Point⟩) a.Zone ⟨y18.State, iadd y15.Point 1⟩) a.Zone) fun y22 => bif decide (y22.Point = g.Size) then (Bnd (at? (set' (set' l a.Zone ⟨1, (zat l a.Zone).Point⟩) a.Zone ⟨y18.State, iadd y15.Point 1⟩) a.Zone) fun y25 => some (set' (set' (set' l a.Zone ⟨1, (zat l a.Zone).Point⟩) a.Zone ⟨y18.State, iadd y15.Point 1⟩) a.Zone ⟨3, y25.Point⟩, (0 : Int))) else some (set' (set' l a.Zone ⟨1, (zat l a.Zone).Point⟩) a.Zone ⟨y18.State, iadd y15.Point 1⟩, 0)) =
          some (l.set a.Zone.toNat ⟨if (zat l a.Zone).Point + 1 = g.Size then 3 else 1, (zat l a.Zone).Point + 1⟩, 0) := by
        simp only [set', at?_set z0 hz, bnd_some, List.set_set, e1]
        by_cases kf : (zat l a.Zone).Point + 1 = g.Size
        · simp [kf]
        · simp [kf]
      by_cases k1 : (zat l a.Zone).State = 1
      · simp only [k4, k3, kp, k1, decide_true, decide_false, cond_false, ne_eq, not_true, if_false, false_and, show ¬ (1 : Int) = 4 by decide, show ¬ (1 : Int) = 3 by decide]
        exact st
      · by_cases ko : g.Open ≤ cnt l
        · simp [k4, k3, kp, k1, ko]
        · simp only [k4, k3, kp, k1, ko, decide_true, decide_false, cond_true, cond_false, ne_eq, not_true, not_false_eq_true, if_false, and_false]
          exact st
    · simp [k4, k3, kp]
  · rw [if_neg ht]; simp [ht]
/-- A read at a zone. -/
def zR (g : TGeom) (l : List TZone) (a : TAt) : Int := if 0 ≤ a.Off ∧ a.Off < Sect g a.Zone then (if (zat l a.Zone).State ≠ 4 ∧ (zat l a.Zone).Point ≤ a.Off then 4 else 0) else 6
theorem zone_Read (g : TGeom) (hg : Geo g) (l : List TZone) (hl : (l.length : Int) = g.Conv + g.Seq) (a : TAt) : m_zone_Read g l a = some (zR g l a) := by
  unfold m_zone_Read zR
  simp only [let_eq, cne_eq, cge_eq, zone_there g hg, bnd_some]
  by_cases ht : 0 ≤ a.Off ∧ a.Off < Sect g a.Zone
  · obtain ⟨z0, z1⟩ := Sect.inn (g := g) (z := a.Zone) (by omega)
    have hz : a.Zone < l.length := by omega
    simp only [ht, and_self, decide_true, Bool.not_true, cond_false, zat_at z0 hz, bnd_some, if_true]
    by_cases k4 : (zat l a.Zone).State = 4
    · simp [k4]
    by_cases kp : (zat l a.Zone).Point ≤ a.Off <;> simp [k4, kp]
  · simp [ht]
end Go.AX

namespace Go.AX
set_option autoImplicit false
set_option linter.unusedVariables false
set_option linter.unusedSimpArgs false
set_option maxRecDepth 4000
set_option maxHeartbeats 4000000

abbrev Dv := TDev_Device
abbrev Mp64 := List (TAt × Ar 64)
def newD (g : TGeom) : Dv := ⟨g, newZ g, [], [], [], [], -1, false, 0⟩
theorem devNew (g : TGeom) (hg : Geo g) : m_dev_New g = some (newD g) := by
  unfold m_dev_New
  simp only [zone_New g hg, bnd_some]
  rfl
theorem devZones (p : Dv) (hl : p.zones.length ≤ 1000) : m___dev_Device__Zones p = some p.zones := by
  unfold m___dev_Device__Zones
  rw [slices_Clone _ hl]; rfl
def countD (p : Dv) : Dv := if 0 < p.left_ then { p with left_ := isub p.left_ 1, down := decide (isub p.left_ 1 = 0) } else p
theorem count_eq (p : Dv) : m___dev_Device__count p = some (countD p) := by
  unfold m___dev_Device__count countD
  simp only [let_eq, cgt_eq, ceq_eq, cond_dec]
  split <;> rfl
def wrongD (p : Dv) : Dv := { p with illegal := iadd p.illegal 1 }
theorem check_eq (e : Int) (p : Dv) : m___dev_Device__check e p = some (e, if e = 0 then p else wrongD p) := by
  unfold m___dev_Device__check
  simp only [let_eq, cne_eq]
  by_cases h : e = 0
  · simp [h]
  · simp [h, wrongD]
theorem lenq_ok {α β : Type} {a : List α} {b : List β} (h : a.length = b.length) : lenq a b = some () := by simp [lenq, h]
theorem countD_zones (p : Dv) : (countD p).zones = p.zones := by unfold countD; split <;> rfl
/-- What holds of a device at all times. -/
structure DOk (p : Dv) : Prop where
  g : Geo p.g
  len : (p.zones.length : Int) = p.g.Conv + p.g.Seq
  pt : ∀ z, 0 ≤ (zat p.zones z).Point ∧ (zat p.zones z).Point ≤ p.g.Size
theorem DOk.pt' {p : Dv} (h : DOk p) (z : Int) : -1000000 ≤ (zat p.zones z).Point ∧ (zat p.zones z).Point ≤ 1000000 := by
  have := h.pt z; have := h.g.z; omega
theorem DOk.sm {p : Dv} (h : DOk p) : p.zones.length ≤ 1000 := by have := h.len; have := h.g.cs; omega
/-- A write's outcome, of zones and of all. -/
def devW (p : Dv) (a : TAt) (x : Ar 64) : Int × Dv :=
  if p.down = true then (2, p) else if (zW p.g p.zones a).2 = 0 then (0, countD { p with zones := (zW p.g p.zones a).1, now := gSet eAt p.now a x, cached := p.cached ++ [⟨a, x⟩] }) else ((zW p.g p.zones a).2, wrongD p)
theorem devWrite (p : Dv) (h : DOk p) (hc : p.cached.length ≤ 1000000) (a : TAt) (x : Ar 64) : m___dev_Device__Write a x p = some (devW p a x) := by
  unfold m___dev_Device__Write devW
  rw [zone_Write p.g h.g p.zones h.len a (h.pt' _), bnd_some]
  generalize zW p.g p.zones a = q
  obtain ⟨m, e⟩ := q
  simp only
  unfold m___dev_Device__command
  by_cases hd : p.down = true
  · simp only [hd, cond_true, bnd_some, if_true]
  · have hd' : p.down = false := by simpa using hd
    simp only [hd', cond_false, check_eq, bnd_some, let_eq, cne_eq, Bool.false_eq_true, if_false]
    by_cases he : e = 0
    · subst he
      simp only [ne_eq, not_true, decide_false, cond_false, if_true]
      unfold m___dev_Device__Write_1
      simp only [let_eq]
      rw [app_ok (by simp only [List.length_append, List.length_singleton]; omega)]
      simp only [bnd_some, lenq_ok rfl, count_eq]
      rw [lenq_ok (by rw [countD_zones])]
      simp only [bnd_some, hd']
    · simp [he]
def pageAt (p : Dv) (a : TAt) : Ar 64 := (gGet eAt p.now a).getD (Ar.zero 64)
def devR (p : Dv) (a : TAt) : Ar 64 × Int × Dv :=
  if p.down = true then (Ar.zero 64, 2, p) else if zR p.g p.zones a = 0 then (pageAt p a, 0, p) else (Ar.zero 64, zR p.g p.zones a, wrongD p)
theorem devRead (p : Dv) (h : DOk p) (a : TAt) : m___dev_Device__Read a p = some (devR p a) := by
  unfold m___dev_Device__Read devR pageAt
  simp only [let_eq]
  by_cases hd : p.down = true
  · simp only [hd, cond_true, if_true]
  · have hd' : p.down = false := by simpa using hd
    simp only [hd', cond_false, zone_Read p.g h.g p.zones h.len, bnd_some, check_eq, cne_eq, Bool.false_eq_true, if_false]
    by_cases he : zR p.g p.zones a = 0 <;> simp [he]
def armD (p : Dv) (n : Int) : Dv := if p.down = true then p else { p with left_ := n, down := decide (n = 0) }
theorem devArm (p : Dv) (n : Int) : m___dev_Device__Arm n p = some (armD p n) := by
  unfold m___dev_Device__Arm armD
  by_cases hd : p.down = true
  · simp [hd]
  · have hd' : p.down = false := by simpa using hd
    simp [hd']
theorem devDown (p : Dv) : m___dev_Device__Down p = some p.down := rfl
theorem devIllegal (p : Dv) : m___dev_Device__Illegal p = some p.illegal := rfl
end Go.AX

namespace Go.AX
set_option autoImplicit false
set_option linter.unusedVariables false
set_option linter.unusedSimpArgs false
set_option maxRecDepth 4000
set_option maxHeartbeats 4000000

/-! #### maps -/
section
variable {α β : Type} {f : α → List D}
/-- Keys are told apart by their data. -/
def Inj (f : α → List D) : Prop := ∀ a b, sameL (f a) (f b) = true ↔ a = b
theorem inj_at : Inj eAt := by
  rintro ⟨a, b⟩ ⟨c, d⟩
  simp [eAt, sameL, D.same]
theorem inj_int (k : IntKind) : Inj (eI k) := by
  intro a b; simp [eI, sameL, D.same]
theorem gGet_set (hf : Inj f) (m : List (α × β)) (k k' : α) (v : β) [Decidable (k' = k)] : gGet f (gSet f m k v) k' = if k' = k then some v else gGet f m k' := by
  induction m with
  | nil =>
    simp only [gSet, gGet]
    by_cases h : k' = k
    · rw [if_pos ((hf _ _).2 h), if_pos h]
    · rw [if_neg (fun q => h ((hf _ _).1 q)), if_neg h]
  | cons p t ih =>
    simp only [gSet]
    by_cases h1 : k = p.1
    · rw [if_pos ((hf _ _).2 h1)]
      simp only [gGet]
      by_cases h : k' = k
      · rw [if_pos ((hf _ _).2 h), if_pos h]
      · rw [if_neg (fun q => h ((hf _ _).1 q)), if_neg h, if_neg (fun q => h (h1 ▸ (hf _ _).1 q))]
    · rw [if_neg (fun q => h1 ((hf _ _).1 q))]
      simp only [gGet]
      by_cases h2 : k' = p.1
      · have h3 : ¬ k' = k := fun q => h1 (q ▸ h2)
        rw [if_pos ((hf _ _).2 h2), if_neg h3]
        rw [if_pos ((hf _ _).2 h2)]
      · rw [if_neg (fun q => h2 ((hf _ _).1 q)), ih, if_neg (fun q => h2 ((hf _ _).1 q))]
theorem gNod_set (hf : Inj f) (k : α) (v : β) : ∀ (m : List (α × β)), gNod f m = true → gNod f (gSet f m k v) = true
  | [], _ => by simp [gSet, gNod]
  | p :: t, h => by
    simp only [gNod, Bool.and_eq_true, List.all_eq_true, Bool.not_eq_true'] at h
    simp only [gSet]
    by_cases h1 : k = p.1
    · rw [if_pos ((hf _ _).2 h1)]
      simp only [gNod, Bool.and_eq_true, List.all_eq_true, Bool.not_eq_true']
      exact ⟨fun q hq => by rw [h1]; exact h.1 q hq, h.2⟩
    · rw [if_neg (fun q => h1 ((hf _ _).1 q))]
      simp only [gNod, Bool.and_eq_true, List.all_eq_true, Bool.not_eq_true']
      refine ⟨?_, gNod_set hf k v t h.2⟩
      have mem : ∀ (t : List (α × β)) q, q ∈ gSet f t k v → q.1 = k ∨ q ∈ t := by
        intro t
        induction t with
        | nil => intro q hq; simp [gSet] at hq; exact .inl (by rw [hq])
        | cons r s ih =>
          intro q hq
          simp only [gSet] at hq
          split at hq
          · rcases List.mem_cons.1 hq with e | e
            · exact .inl (by rw [e])
            · exact .inr (List.mem_cons_of_mem _ e)
          · rcases List.mem_cons.1 hq with e | e
            · exact .inr (by rw [e]; exact List.mem_cons_self)
            · rcases ih q e with e | e
              · exact .inl e
              · exact .inr (List.mem_cons_of_mem _ e)
      intro q hq
      rcases mem t q hq with e | e
      · cases hs : sameL (f p.1) (f q.1) with
        | false => rfl
        | true => exact absurd (((hf _ _).1 hs).trans e).symm h1
      · exact h.1 q e
theorem gGet_del (hf : Inj f) (k k' : α) [Decidable (k' = k)] : ∀ (m : List (α × β)), gNod f m = true → gGet f (gDel f m k) k' = if k' = k then none else gGet f m k'
  | [], _ => by simp [gDel, gGet]
  | p :: t, h => by
    simp only [gNod, Bool.and_eq_true, List.all_eq_true, Bool.not_eq_true'] at h
    have none_of : ∀ t : List (α × β), (∀ q ∈ t, sameL (f p.1) (f q.1) = false) → gGet f t p.1 = none := by
      intro t
      induction t with
      | nil => intro _; rfl
      | cons q s ih =>
        intro h
        simp only [gGet]
        rw [if_neg (by rw [h q List.mem_cons_self]; exact Bool.false_ne_true)]
        exact ih fun r hr => h r (List.mem_cons_of_mem _ hr)
    simp only [gDel]
    by_cases h1 : k = p.1
    · rw [if_pos ((hf _ _).2 h1)]
      by_cases h2 : k' = k
      · rw [if_pos h2, h2, h1]; exact none_of t h.1
      · rw [if_neg h2]
        simp only [gGet]
        rw [if_neg (fun q => h2 (h1 ▸ (hf _ _).1 q))]
    · rw [if_neg (fun q => h1 ((hf _ _).1 q))]
      simp only [gGet]
      by_cases h2 : k' = p.1
      · have h3 : ¬ k' = k := fun q => h1 (q ▸ h2)
        rw [if_pos ((hf _ _).2 h2), if_neg h3, if_pos ((hf _ _).2 h2)]
      · rw [if_neg (fun q => h2 ((hf _ _).1 q)), gGet_del hf k k' t h.2, if_neg (fun q => h2 ((hf _ _).1 q))]
theorem gDel_sub (k : α) : ∀ (m : List (α × β)), (gDel f m k).Sublist m
  | [] => .slnil
  | p :: t => by
    simp only [gDel]
    split
    · exact List.sublist_cons_self _ _
    · exact (gDel_sub k t).cons_cons _
/-- maps.DeleteFunc. -/
theorem mFilt_tot {g : α → β → Option Bool} {q : α → β → Bool} (h : ∀ a b, g a b = some (q a b)) : ∀ (m : List (α × β)), mFilt g m = some (m.filter fun p => !q p.1 p.2)
  | [] => rfl
  | p :: t => by
    simp only [mFilt, h, mFilt_tot h t]
    cases hq : q p.1 p.2 <;> simp [hq]
theorem gGet_filter (hf : Inj f) (q : α → Bool) (k : α) : ∀ (m : List (α × β)), gGet f (m.filter fun p => !q p.1) k = if q k then none else gGet f m k
  | [] => by simp [gGet]
  | p :: t => by
    by_cases hp : q p.1 = true
    · have : (p :: t).filter (fun p => !q p.1) = t.filter fun p => !q p.1 := by simp [hp]
      rw [this, gGet_filter hf q k t]
      simp only [gGet]
      by_cases h : k = p.1
      · subst h; simp [hp]
      · rw [if_neg (fun r => h ((hf _ _).1 r))]
    · have : (p :: t).filter (fun p => !q p.1) = p :: t.filter fun p => !q p.1 := by simp [hp]
      rw [this]
      simp only [gGet]
      by_cases h : k = p.1
      · subst h; simp [hp, (hf p.1 p.1).2 rfl]
      · rw [if_neg (fun r => h ((hf _ _).1 r)), gGet_filter hf q k t, if_neg (fun r => h ((hf _ _).1 r))]
end
end Go.AX

namespace Go.AX
set_option autoImplicit false
set_option linter.unusedVariables false
set_option linter.unusedSimpArgs false
set_option maxRecDepth 4000
set_option maxHeartbeats 4000000

/-- The reference's bytes of a number: whatever it is. -/
def lowB (x : Int) : Nat → List Int
  | 0 => []
  | k + 1 => IntKind.wrap .u8 (binI .rem .i64 x 256) :: lowB (binI .quo .i64 x 256) k
def lowX (x : Int) : Nat → Int
  | 0 => x
  | k + 1 => binI .quo .i64 (lowX x k) 256
theorem lowB_len : ∀ (k : Nat) (x : Int), (lowB x k).length = k
  | 0, _ => rfl
  | k + 1, x => by show (lowB _ k).length + 1 = _; rw [lowB_len k]
theorem lowB_byt : ∀ (k : Nat) (x : Int), Byt (lowB x k)
  | 0, _ => fun x hx => by cases hx
  | k + 1, x => fun y hy => by
    rcases List.mem_cons.1 hy with rfl | hy
    · rw [IntKind.wrap_u8]; omega
    · exact lowB_byt k _ y hy
theorem lowX_in : ∀ (k : Nat) (x : Int), lowX (binI .quo .i64 x 256) k = binI .quo .i64 (lowX x k) 256
  | 0, _ => rfl
  | k + 1, x => by show binI .quo .i64 (lowX (binI .quo .i64 x 256) k) 256 = _; rw [lowX_in k]; rfl
theorem lowB_snoc : ∀ (k : Nat) (x : Int), lowB x (k + 1) = lowB x k ++ [IntKind.wrap .u8 (binI .rem .i64 (lowX x k) 256)]
  | 0, x => rfl
  | k + 1, x => by
    show IntKind.wrap .u8 (binI .rem .i64 x 256) :: lowB (binI .quo .i64 x 256) (k + 1) = IntKind.wrap .u8 (binI .rem .i64 x 256) :: lowB (binI .quo .i64 x 256) k ++ _
    rw [lowB_snoc k, lowX_in]; rfl
theorem lowB_nat : ∀ (k n : Nat), n < 9223372036854775808 → lowB (n : Int) k = leB n k
  | 0, _, _ => rfl
  | k + 1, n, h => by
    have e1 : IntKind.wrap .u8 (binI .rem .i64 (n : Int) 256) = ((n % 256 : Nat) : Int) := by
      show IntKind.wrap .u8 ((n : Int).tmod 256) = _
      rw [Int.tmod_eq_emod_of_nonneg (by omega), IntKind.wrap_u8]; omega
    have e2 : binI .quo .i64 (n : Int) 256 = ((n / 256 : Nat) : Int) := by
      show IntKind.wrap .i64 ((n : Int).tdiv 256) = _
      rw [Int.tdiv_eq_ediv_of_nonneg (by omega), IntKind.wrap_i64]; omega
    show IntKind.wrap .u8 (binI .rem .i64 (n : Int) 256) :: lowB (binI .quo .i64 (n : Int) 256) k = ((n % 256 : Nat) : Int) :: leB (n / 256) k
    rw [e1, e2, lowB_nat k _ (by omega)]
theorem refLow (x : Int) (k : Nat) (hk : k ≤ 100) : m_ref06_low x (k : Int) = some (lowB x k) := by
  unfold m_ref06_low
  simp only [let_eq, jn_eq]
  refine bnd_run (fun i => (lowX x i, (i : Int), lowB x i)) k (lowB x k) (by omega) rfl (fun i hi => ?_) ?_ rfl
  · have e1 : clt (i : Int) (k : Int) = true := decide_eq_true (by omega)
    show (bif clt (i : Int) (k : Int) then _ else _) = _
    rw [e1, cond_true, show nz? 256 = some () from rfl, bnd_some, app_ok (by simp only [lowB_len, List.length_singleton]; omega), bnd_some, bnd_some, inc_nat i (by omega), lowB_snoc]
    rfl
  · show (bif clt (k : Int) (k : Int) then _ else _) = _
    rw [show clt (k : Int) (k : Int) = false from decide_eq_false (by omega), cond_false]
/-- A record's bytes, whatever it is. -/
def bodyX (r : TRec) : List Int := [IntKind.wrap .u8 r.Kind] ++ lowB r.Epoch 8 ++ lowB r.Seq 8 ++ lowB r.Block 4 ++ lowB r.Count 4 ++ r.Data.l
theorem bodyX_len (r : TRec) : (bodyX r).length = 57 := by
  unfold bodyX; simp only [List.length_append, lowB_len, List.length_singleton, r.Data.h]
theorem bodyX_byt (r : TRec) (hd : Byt r.Data.l) : Byt (bodyX r) :=
  byt_app (byt_app (byt_app (byt_app (byt_app (byt_one (by rw [IntKind.wrap_u8]; omega)) (lowB_byt _ _)) (lowB_byt _ _)) (lowB_byt _ _)) (lowB_byt _ _)) hd
theorem bodyX_nat (k e q b c : Nat) (d : Ar 32) (hk : k < 256) (he : e ≤ 1099511627776) (hq : q ≤ 1099511627776) (hb : b ≤ 1099511627776) (hc : c ≤ 1099511627776) : bodyX ⟨k, e, q, b, c, d⟩ = bodyR k e q b c d.l := by
  unfold bodyX bodyR
  simp only
  rw [lowB_nat _ _ (by omega), lowB_nat _ _ (by omega), lowB_nat _ _ (by omega), lowB_nat _ _ (by omega), show IntKind.wrap .u8 (k : Int) = (k : Int) by rw [IntKind.wrap_u8]; omega]
/-- An array, filled one by one. -/
theorem fillAr (l : List Int) (hl : l.length = 64) : (Bnd (loop (σ := Int × (Ar 64)) (ρ := ((Ar 64))) (fun (v33, a34) => Let (clt v33 64) fun b35 => bif b35 then (Bnd (at? l v33) fun y36 => Bnd (at? (a34.l) v33) fun v40 => Let (Ar.put a34 v33 y36) fun a44 => Let (iadd v33 1) fun v46 => some (.inl (v46, a44))) else (some (.inr a34))) (0, Ar.zero 64)) fun a35 => some a35) = some ⟨l, hl⟩ := by
  have hD : ∀ i, i ≤ 64 → (l.take i ++ List.replicate (64 - i) 0).length = 64 := fun i hi => by
    rw [List.length_append, List.length_take, List.length_replicate, hl]; omega
  let D : Nat → Ar 64 := fun i => if hi : i ≤ 64 then ⟨l.take i ++ List.replicate (64 - i) 0, hD i hi⟩ else Ar.zero 64
  have hDl : ∀ i, i ≤ 64 → (D i).l = l.take i ++ List.replicate (64 - i) 0 := fun i hi => by show (if hi : i ≤ 64 then _ else _ : Ar 64).l = _; rw [dif_pos hi]
  have h64 : D 64 = ⟨l, hl⟩ := by apply ar_ext; rw [hDl 64 (Nat.le_refl _)]; simp [List.take_of_length_le (show l.length ≤ 64 by omega)]
  have hz : D 0 = Ar.zero 64 := by apply ar_ext; rw [hDl 0 (by omega)]; simp [Ar.zero]
  have hput : ∀ i (hi : i < 64), Ar.put (D i) (i : Int) (l[i]'(by omega)) = D (i + 1) := by
    intro i hi
    apply ar_ext
    show (D i).l.set ((i : Int)).toNat _ = _
    have hlen : (l.take i).length = i := by rw [List.length_take, hl]; omega
    rw [hDl i (by omega), hDl (i + 1) (by omega), Int.toNat_natCast, List.take_add_one, List.getElem?_eq_getElem (by omega), show 64 - i = (64 - (i + 1)) + 1 by omega, List.replicate_succ, List.append_assoc]
    rw [List.set_append_right _ _ (by omega), hlen, Nat.sub_self, List.set_cons_zero]
    rfl
  simp only [let_eq]
  refine bnd_run (fun i => ((i : Int), D i)) 64 ⟨l, hl⟩ (by decide) (by rw [hz]; rfl) (fun i hi => ?_) ?_ rfl
  · have e1 : clt (i : Int) 64 = true := decide_eq_true (by omega)
    have e3 : at? (D i).l (i : Int) = some ((D i).l.getD i 0) := by
      rw [at?_nat, List.getD_eq_getElem?_getD, List.getElem?_eq_getElem (by rw [(D i).h]; exact hi)]; rfl
    show (bif clt (i : Int) 64 then _ else _) = _
    rw [e1, cond_true, at?_nat, List.getElem?_eq_getElem (show i < l.length by omega), bnd_some]
    show Bnd (at? (D i).l (i : Int)) _ = _
    rw [e3, bnd_some, hput i hi, inc_nat i (by omega)]
  · show (bif clt ((64 : Nat) : Int) 64 then _ else _) = _
    rw [show clt ((64 : Nat) : Int) 64 = false from rfl, cond_false]
    show some (Sum.inr (D 64)) = _
    rw [h64]
theorem refLay (r : TRec) (hd : Byt r.Data.l) : m_ref06_Lay r = some ⟨full (bodyX r), full_len _ (by rw [bodyX_len]; decide)⟩ := by
  unfold m_ref06_Lay
  have l8 := fun x => refLow x 8 (by decide)
  have l4 := fun x => refLow x 4 (by decide)
  simp only [Int.cast_ofNat_Int] at l8 l4
  have ap : ∀ (a b : List Int), a.length + b.length ≤ 1000 → app? 1 a b = some (a ++ b) := fun a b h => app_ok (by omega)
  simp only [let_eq, jn_eq]
  rw [l8, bnd_some, ap _ _ (by simp [lowB_len]), bnd_some, l8, bnd_some, ap _ _ (by simp [lowB_len]), bnd_some, l4, bnd_some, ap _ _ (by simp [lowB_len]), bnd_some, l4, bnd_some, ap _ _ (by simp [lowB_len]), bnd_some]
  let A : List Int := [IntKind.wrap .u8 r.Kind] ++ lowB r.Epoch 8 ++ lowB r.Seq 8 ++ lowB r.Block 4 ++ lowB r.Count 4
  have hA : A.length = 25 := by simp [A, lowB_len]
  refine bnd_run (fun i => ((i : Int), A ++ r.Data.l.take i)) 32 (bodyX r) (by decide) (by simp [A]) (fun i hi => ?_) ?_ ?_
  · have e1 : clt (i : Int) 32 = true := decide_eq_true (by omega)
    have hi' : i < r.Data.l.length := by rw [r.Data.h]; exact hi
    show (bif clt (i : Int) 32 then _ else _) = _
    rw [e1, cond_true, at?_nat, List.getElem?_eq_getElem hi', bnd_some, ap _ _ (by simp only [List.length_append, hA, List.length_take, List.length_singleton]; omega), bnd_some, inc_nat i (by omega), List.take_add_one, List.getElem?_eq_getElem hi', List.append_assoc]
    rfl
  · show (bif clt ((32 : Nat) : Int) 32 then _ else _) = _
    rw [show clt ((32 : Nat) : Int) 32 = false from rfl, cond_false]
    show some (Sum.inr (A ++ r.Data.l.take 32)) = _
    rw [List.take_of_length_le (by rw [r.Data.h]; exact Nat.le_refl _)]
    rfl
  · have hb := bodyX_len r
    rw [ap _ _ (by rw [hb]; decide), bnd_some, refSeal (bodyX r ++ [0, 0, 0]) (byt_app (bodyX_byt r hd) (byt_rep 3 : Byt [0, 0, 0])) (by rw [List.length_append, hb]; decide), bnd_some]
    have hf : bodyX r ++ [0, 0, 0] ++ sumB (bodyX r ++ [0, 0, 0]) = full (bodyX r) := (full_57 _ hb).symm
    rw [hf]
    exact fillAr _ _
end Go.AX

namespace Go.AX
set_option autoImplicit false
set_option linter.unusedVariables false
set_option linter.unusedSimpArgs false
set_option maxRecDepth 4000
set_option maxHeartbeats 4000000

theorem zat_set {l : List TZone} {i : Nat} {y : TZone} (hi : i < l.length) (z : Int) : zat (l.set i y) z = if z.toNat = i then y else zat l z := by
  unfold zat
  simp only [List.getD_eq_getElem?_getD, List.getElem?_set]
  by_cases h : i = z.toNat
  · rw [if_pos h, if_pos h.symm, if_pos (by omega)]; rfl
  · rw [if_neg h, if_neg (fun q => h q.symm)]
theorem zat_new (g : TGeom) (z : Int) : zat (newZ g) z = if z.toNat < g.Conv.toNat then ⟨4, 0⟩ else ⟨0, 0⟩ := by
  unfold zat newZ
  rw [List.getD_eq_getElem?_getD]
  by_cases h : z.toNat < g.Conv.toNat
  · rw [if_pos h, List.getElem?_append_left (by simpa using h), List.getElem?_replicate, if_pos h]; rfl
  · rw [if_neg h, List.getElem?_append_right (by simpa using h), List.getElem?_replicate]
    split <;> rfl
/-- A device that was never down, and has but sectors of bytes. -/
structure DI (p : Dv) : Prop where
  ok : DOk p
  dn : p.down = false
  lf : p.left_ = -1
  conv : ∀ z, 0 ≤ z → z < p.g.Conv → zat p.zones z = ⟨4, 0⟩
  seq : ∀ z, p.g.Conv ≤ z → z < p.g.Conv + p.g.Seq → (zat p.zones z).State ≠ 4
  byt : ∀ a x, gGet eAt p.now a = some x → Byt x.l
theorem DI.new (g : TGeom) (hg : Geo g) : DI (newD g) where
  ok := ⟨hg, by obtain ⟨h1, h2, h3, h4⟩ := hg; simp only [newD, newZ_len]; omega, fun z => by
    show 0 ≤ (zat (newZ g) z).Point ∧ (zat (newZ g) z).Point ≤ g.Size
    have := hg.z
    rw [zat_new]; split <;> simp <;> omega⟩
  dn := rfl
  lf := rfl
  conv z h0 h1 := by
    show zat (newZ g) z = _
    have h1 : z < g.Conv := h1
    rw [zat_new, if_pos (by omega)]
  seq z h0 h1 := by
    show (zat (newZ g) z).State ≠ 4
    have h0 : g.Conv ≤ z := h0
    have := hg.c
    rw [zat_new, if_neg (by omega)]; decide
  byt a x h := by cases h
theorem countD_id {p : Dv} (h : p.left_ = -1) : countD p = p := by unfold countD; rw [if_neg (by omega)]
theorem devW_DI {p : Dv} (h : DI p) (a : TAt) (x : Ar 64) (hx : Byt x.l) : DI (devW p a x).2 ∧ (devW p a x).2.g = p.g ∧ (devW p a x).2.cached.length ≤ p.cached.length + 1 := by
  have hz := h.ok.g.z
  have hl := h.ok.len
  have hcs := h.ok.g.c
  unfold devW
  rw [if_neg (by rw [h.dn]; decide)]
  by_cases he : (zW p.g p.zones a).2 = 0
  · rw [if_pos he]
    simp only
    have hcd : ∀ q : Dv, q.left_ = p.left_ → countD q = q := fun q e => countD_id (e.trans h.lf)
    rw [hcd (TDev_Device.mk p.g (zW p.g p.zones a).1 p.finished p.safe (gSet eAt p.now a x) (p.cached ++ [TDev_write.mk a x]) p.left_ p.down p.illegal) rfl]
    refine ⟨?_, rfl, by simp⟩
    have hb : ∀ b y, gGet eAt (gSet eAt p.now a x) b = some y → Byt y.l := by
      intro b y hy
      haveI : Decidable (b = a) := Classical.propDecidable _
      rw [gGet_set inj_at] at hy
      split at hy
      · obtain rfl := Option.some.inj hy; exact hx
      · exact h.byt b y hy
    unfold zW at he ⊢
    split
    case isFalse hn => rw [if_neg hn] at he; cases he
    rename_i ht
    rw [if_pos ht] at he
    obtain ⟨z0, z1⟩ := Sect.inn (g := p.g) (z := a.Zone) (by omega)
    split
    case isTrue k4 => exact ⟨⟨h.ok.g, hl, h.ok.pt⟩, h.dn, h.lf, h.conv, h.seq, hb⟩
    rename_i k4
    rw [if_neg k4] at he
    split
    case isTrue k3 => rw [if_pos k3] at he; cases he
    rename_i k3
    rw [if_neg k3] at he
    split
    case isTrue kp => rw [if_pos kp] at he; cases he
    rename_i kp
    rw [if_neg kp] at he
    split
    case isTrue ko => rw [if_pos ko] at he; cases he
    rename_i ko
    have hi : a.Zone.toNat < p.zones.length := by omega
    have hge : p.g.Conv ≤ a.Zone := by
      rcases Int.lt_or_le a.Zone p.g.Conv with hlt | hge
      · have := h.conv a.Zone z0 hlt
        rw [this] at k4; exact absurd rfl k4
      · exact hge
    have hS := Sect.seq (g := p.g) (z := a.Zone) hge z1 h.ok.g
    have hpt := h.ok.pt a.Zone
    have kp' : a.Off = (zat p.zones a.Zone).Point := Decidable.of_not_not kp
    refine ⟨⟨h.ok.g, by simp only [List.length_set]; exact hl, fun z => ?_⟩, h.dn, h.lf, fun z h0 h1 => ?_, fun z h0 h1 => ?_, hb⟩
    · show 0 ≤ (zat (p.zones.set a.Zone.toNat _) z).Point ∧ (zat (p.zones.set a.Zone.toNat _) z).Point ≤ p.g.Size
      rw [zat_set hi]
      split
      · simp only; omega
      · exact h.ok.pt z
    · show zat (p.zones.set a.Zone.toNat _) z = _
      have h1 : z < p.g.Conv := h1
      rw [zat_set hi, if_neg (by omega)]
      exact h.conv z h0 h1
    · show (zat (p.zones.set a.Zone.toNat _) z).State ≠ 4
      rw [zat_set hi]
      split
      · simp only; split <;> decide
      · exact h.seq z h0 h1
  · rw [if_neg he]
    exact ⟨⟨⟨h.ok.g, hl, h.ok.pt⟩, h.dn, h.lf, h.conv, h.seq, h.byt⟩, rfl, by simp [wrongD]⟩
/-- A step of laying. -/
def layStep (g : TGeom) (p : Dv) (s : TRef14_Step) : Dv :=
  (devW p ⟨g.Conv + s.Zone % g.Seq, (zat p.zones (g.Conv + s.Zone % g.Seq)).Point⟩ (if s.Junk = true then Ar.zero 64 else ⟨full (bodyX s.Rec), full_len _ (by rw [bodyX_len]; decide)⟩)).2
def layAll (g : TGeom) (l : List TRef14_Step) : Dv := l.foldl (layStep g) (newD g)
theorem byt_zero : Byt (Ar.zero 64).l := byt_rep 64
theorem step_byt {s : TRef14_Step} (h : BRef14_Step s) : Byt s.Rec.Data.l := fun x hx => wf_u8 (h.2.1.2.2.2.2.2 x hx)
theorem lay_inv (g : TGeom) (hg : Geo g) : ∀ (l : List TRef14_Step) (p : Dv), (∀ s ∈ l, BRef14_Step s) → DI p → p.g = g → DI (l.foldl (layStep g) p) ∧ (l.foldl (layStep g) p).g = g ∧ (l.foldl (layStep g) p).cached.length ≤ p.cached.length + l.length
  | [], p, _, h, hpg => ⟨h, hpg, by simp⟩
  | s :: t, p, hb, h, hpg => by
    have hs : Byt (if s.Junk = true then Ar.zero 64 else (⟨full (bodyX s.Rec), full_len _ (by rw [bodyX_len]; decide)⟩ : Ar 64)).l := by
      split
      · exact byt_zero
      · exact full_byt _ (bodyX_byt _ (step_byt (hb s (by simp))))
    obtain ⟨h1, h2, h3⟩ := devW_DI h ⟨g.Conv + s.Zone % g.Seq, (zat p.zones (g.Conv + s.Zone % g.Seq)).Point⟩ _ hs
    obtain ⟨k1, k2, k3⟩ := lay_inv g hg t (layStep g p s) (fun x hx => hb x (by simp [hx])) h1 (h2.trans hpg)
    refine ⟨k1, k2, ?_⟩
    have : (layStep g p s).cached.length ≤ p.cached.length + 1 := h3
    simp only [List.foldl_cons, List.length_cons]
    omega
theorem ref14Lay (g : TGeom) (hg : Geo g) (l : List TRef14_Step) (hb : ∀ s ∈ l, BRef14_Step s) (hl : l.length ≤ 1000) : m_ref14_Lay g l = some (layAll g l) := by
  unfold m_ref14_Lay
  rw [devNew g hg]
  simp only [let_eq, jn_eq, bnd_some]
  refine bnd_run (fun i => ((i : Int), (l.take i).foldl (layStep g) (newD g))) l.length (layAll g l) (by omega) rfl (fun i hi => ?_) ?_ rfl
  · have e1 : clt (i : Int) (ln l) = true := decide_eq_true (by simp only [ln]; omega)
    obtain ⟨h1, h2, h3⟩ := lay_inv g hg (l.take i) (newD g) (fun s hs => hb s (List.mem_of_mem_take hs)) (DI.new g hg) rfl
    have h3' : ((l.take i).foldl (layStep g) (newD g)).cached.length ≤ 1000 := by
      have : (newD g).cached.length = 0 := rfl
      rw [List.length_take] at h3; omega
    rw [show l.take (i + 1) = l.take i ++ [l[i]] by rw [List.take_add_one, List.getElem?_eq_getElem hi]; rfl, List.foldl_append]
    simp only [List.foldl_cons, List.foldl_nil]
    generalize (l.take i).foldl (layStep g) (newD g) = p at *
    generalize hs : l[i] = s
    have hbs : BRef14_Step s := by rw [← hs]; exact hb _ (List.getElem_mem hi)
    have hz := wf_u8 hbs.1
    have hg4 := hg.s
    have hg5 := hg.cs
    have hg6 := hg.c
    have e2 : IntKind.wrap .i64 s.Zone = s.Zone := wrap_byte hz
    have e3 : nz? g.Seq = some () := by unfold nz?; rw [if_neg (by omega)]
    have e4 : binI .rem .i64 s.Zone g.Seq = s.Zone % g.Seq := by
      show s.Zone.tmod g.Seq = _
      exact Int.tmod_eq_emod_of_nonneg hz.1
    have hm0 := Int.emod_nonneg s.Zone (show g.Seq ≠ 0 by omega)
    have hm1 := Int.emod_lt_of_pos s.Zone (show 0 < g.Seq by omega)
    have e5 : iadd g.Conv (s.Zone % g.Seq) = g.Conv + s.Zone % g.Seq := add_ok (by omega)
    have hlen := h1.ok.len
    rw [h2] at hlen
    have e6 : cge (g.Conv + s.Zone % g.Seq) (ln p.zones) = false := decide_eq_false (by simp only [ln]; omega)
    have e7 := zat_at (l := p.zones) (z := g.Conv + s.Zone % g.Seq) (by omega) (by omega)
    show (bif clt (i : Int) (ln l) then _ else _) = _
    rw [e1, cond_true, at?_nat, List.getElem?_eq_getElem hi, bnd_some, hs, e2, e3, bnd_some, e4, e5, devZones p h1.ok.sm, bnd_some, e6, cond_false, bnd_some]
    unfold layStep
    cases hj : s.Junk with
    | true =>
      simp only [Bool.not_true, cond_false, if_true]
      rw [e7, bnd_some, devWrite p h1.ok (by omega)]
      simp only [bnd_some, inc_nat i (by omega)]
    | false =>
      simp only [Bool.not_false, cond_true, Bool.false_eq_true, if_false, bnd_some]
      rw [refLay _ (step_byt hbs), bnd_some, e7, bnd_some, devWrite p h1.ok (by omega)]
      simp only [bnd_some, inc_nat i (by omega)]
  · have e1 : clt ((l.length : Nat) : Int) (ln l) = false := decide_eq_false (by simp only [ln]; omega)
    show (bif clt ((l.length : Nat) : Int) (ln l) then _ else _) = _
    rw [e1, cond_false, List.take_length]
    rfl
end Go.AX

namespace Go.AX
set_option autoImplicit false
set_option linter.unusedVariables false
set_option linter.unusedSimpArgs false
set_option maxRecDepth 4000
set_option maxHeartbeats 4000000

/-- A place's number. -/
def num (g : TGeom) (z o : Nat) : Int := ((z : Int) - g.Conv) * g.Size + o + 1
theorem num_bd (g : TGeom) (hg : Geo g) {z o : Nat} (h1 : g.Conv ≤ z) (h2 : (z : Int) < g.Conv + g.Seq) : 0 ≤ ((z : Int) - g.Conv) * g.Size ∧ ((z : Int) - g.Conv) * g.Size ≤ 16384 := by
  obtain ⟨g1, g2, g3, g4⟩ := hg
  refine ⟨Int.mul_nonneg (by omega) (by omega), ?_⟩
  exact Int.le_trans (Int.mul_le_mul (show (z : Int) - g.Conv ≤ 64 by omega) (show g.Size ≤ 256 by omega) (by omega) (by decide)) (by decide)
theorem geomNum (g : TGeom) (hg : Geo g) {z o : Nat} (h1 : g.Conv ≤ z) (h2 : (z : Int) < g.Conv + g.Seq) (ho : (o : Int) < g.Size) : m_geom_Num g ⟨z, o⟩ = some (num g z o) := by
  have hb := num_bd g hg (o := o) h1 h2
  have hz := hg.z
  have hcs := hg.cs
  have hc := hg.c
  unfold m_geom_Num num
  simp only [let_eq, jn_eq, clt_eq, cge_eq, geomZones g hg, bnd_some, show ¬ (z : Int) < g.Conv by omega, show ¬ g.Conv + g.Seq ≤ (z : Int) by omega, show ¬ (o : Int) < 0 by omega, show ¬ g.Size ≤ (o : Int) by omega, decide_false, cond_false]
  rw [show isub (z : Int) g.Conv = (z : Int) - g.Conv from sub_ok (by omega), show imul ((z : Int) - g.Conv) g.Size = ((z : Int) - g.Conv) * g.Size from mul_ok (by omega)]
  generalize ((z : Int) - g.Conv) * g.Size = q at *
  rw [show iadd q (o : Int) = q + o from add_ok (by omega), show iadd (q + o) 1 = q + o + 1 from add_ok (by omega)]
theorem succ_mul' (i : Nat) (s : Int) : ((i + 1 : Nat) : Int) * s = (i : Int) * s + s := by
  rw [Int.natCast_add, Int.add_mul]; simp
theorem mul_bd {i : Nat} {s : Int} (hi : i ≤ 64) (hs : 0 ≤ s ∧ s ≤ 256) : 0 ≤ (i : Int) * s ∧ (i : Int) * s ≤ 16384 :=
  ⟨Int.mul_nonneg (by omega) (by omega), Int.le_trans (Int.mul_le_mul (show (i : Int) ≤ 64 by omega) (show s ≤ 256 by omega) (by omega) (by decide)) (by decide)⟩
theorem refNum (g : TGeom) (hg : Geo g) {z o : Nat} (h1 : g.Conv ≤ z) (h2 : (z : Int) < g.Conv + g.Seq) (ho : (o : Int) < g.Size) : m_ref03_Num g ⟨z, o⟩ = some (num g z o) := by
  have hz := hg.z
  have hcs := hg.cs
  have hc := hg.c
  obtain ⟨c, hcc⟩ := Int.eq_ofNat_of_zero_le (show 0 ≤ g.Conv by omega)
  obtain ⟨s, hss⟩ := Int.eq_ofNat_of_zero_le (show 0 ≤ g.Size by omega)
  unfold m_ref03_Num
  simp only [let_eq, jn_eq]
  have eadd : iadd g.Conv g.Seq = g.Conv + g.Seq := add_ok (by omega)
  -- a zone's sectors that are counted through
  have inner : ∀ (i : Nat), i ≤ 64 → (c + i ≠ z) → loop (σ := Int × Int) (ρ := Sum Int Int) (fun x => bif clt x.2 g.Size then (bif ceq (z : Int) ((c + i : Nat) : Int) then (bif ceq (o : Int) x.2 then (some (.inr (.inr (iadd x.1 1)))) else (some (.inl (iadd x.1 1, iadd x.2 1)))) else (some (.inl (iadd x.1 1, iadd x.2 1)))) else (some (.inr (.inl x.1)))) ((i : Int) * g.Size, 0) = some (.inl ((i : Int) * g.Size + g.Size)) := by
    intro i hi hne
    have hm := mul_bd hi (s := g.Size) (by omega)
    refine loop_run (fun k => ((i : Int) * g.Size + k, (k : Int))) s (by omega) (fun k hk => ?_) ?_ (by simp)
    · have e1 : clt (k : Int) g.Size = true := decide_eq_true (by omega)
      have e2 : ceq (z : Int) ((c + i : Nat) : Int) = false := by simp only [ceq_eq]; exact decide_eq_false (by omega)
      show (bif clt (k : Int) g.Size then _ else _) = _
      rw [e1, cond_true, e2, cond_false, inc_nat k (by omega), show iadd ((i : Int) * g.Size + k) 1 = (i : Int) * g.Size + k + 1 from add_ok (by omega)]
      congr 3
      omega
    · have e1 : clt (s : Int) g.Size = false := decide_eq_false (by omega)
      show (bif clt (s : Int) g.Size then _ else _) = _
      rw [e1, cond_false, ← hss]
  have last : ∀ (i : Nat), i ≤ 64 → c + i = z → loop (σ := Int × Int) (ρ := Sum Int Int) (fun x => bif clt x.2 g.Size then (bif ceq (z : Int) ((c + i : Nat) : Int) then (bif ceq (o : Int) x.2 then (some (.inr (.inr (iadd x.1 1)))) else (some (.inl (iadd x.1 1, iadd x.2 1)))) else (some (.inl (iadd x.1 1, iadd x.2 1)))) else (some (.inr (.inl x.1)))) ((i : Int) * g.Size, 0) = some (.inr ((i : Int) * g.Size + o + 1)) := by
    intro i hi he
    have hm := mul_bd hi (s := g.Size) (by omega)
    have e2 : ceq (z : Int) ((c + i : Nat) : Int) = true := by simp only [ceq_eq]; exact decide_eq_true (by omega)
    refine loop_run (fun k => ((i : Int) * g.Size + k, (k : Int))) o (by omega) (fun k hk => ?_) ?_ (by simp)
    · have e1 : clt (k : Int) g.Size = true := decide_eq_true (by omega)
      have e3 : ceq (o : Int) (k : Int) = false := by simp only [ceq_eq]; exact decide_eq_false (by omega)
      show (bif clt (k : Int) g.Size then _ else _) = _
      rw [e1, cond_true, e2, cond_true, e3, cond_false, inc_nat k (by omega), show iadd ((i : Int) * g.Size + k) 1 = (i : Int) * g.Size + k + 1 from add_ok (by omega)]
      congr 3
      omega
    · have e1 : clt (o : Int) g.Size = true := decide_eq_true (by omega)
      have e3 : ceq (o : Int) (o : Int) = true := by simp
      show (bif clt (o : Int) g.Size then _ else _) = _
      rw [e1, cond_true, e2, cond_true, e3, cond_true, show iadd ((i : Int) * g.Size + o) 1 = (i : Int) * g.Size + o + 1 from add_ok (by omega)]
  obtain ⟨j, hj⟩ : ∃ j, z = c + j := ⟨z - c, by omega⟩
  refine bnd_run (fun i => ((i : Int) * g.Size, ((c + i : Nat) : Int))) j (.inr (num g z o)) (by omega) (by simp [hcc]) (fun i hi => ?_) ?_ rfl
  · have e1 : clt ((c + i : Nat) : Int) (g.Conv + g.Seq) = true := decide_eq_true (by omega)
    have hm := mul_bd (show i ≤ 64 by omega) (s := g.Size) (by omega)
    have hin := inner i (by omega) (by omega)
    show (bif clt ((c + i : Nat) : Int) (iadd g.Conv g.Seq) then _ else _) = _
    rw [eadd, e1, cond_true]
    show Bnd (loop _ ((i : Int) * g.Size, 0)) _ = _
    rw [hin, bnd_some]
    show some (Sum.inl ((i : Int) * g.Size + g.Size, iadd ((c + i : Nat) : Int) 1)) = _
    rw [inc_nat (c + i) (by omega), succ_mul']
    rfl
  · have e1 : clt ((c + j : Nat) : Int) (g.Conv + g.Seq) = true := decide_eq_true (by omega)
    have hla := last j (by omega) hj.symm
    show (bif clt ((c + j : Nat) : Int) (iadd g.Conv g.Seq) then _ else _) = _
    rw [eadd, e1, cond_true]
    show Bnd (loop _ ((j : Int) * g.Size, 0)) _ = _
    rw [hla, bnd_some]
    unfold num
    rw [show ((z : Int) - g.Conv) = (j : Int) by omega]
/-- What stands at a place, if it is asked for. -/
def fnd (p : Dv) (ep sq : Int) (z o : Nat) : Option TFound :=
  if (readR (pageAt p ⟨z, o⟩)).2 = 0 ∧ (readR (pageAt p ⟨z, o⟩)).1.Epoch = ep ∧ sq < (readR (pageAt p ⟨z, o⟩)).1.Seq then some ⟨num p.g z o, (readR (pageAt p ⟨z, o⟩)).1⟩ else none
def pt (p : Dv) (z : Nat) : Nat := (zat p.zones z).Point.toNat
def fz (p : Dv) (ep sq : Int) (z n : Nat) : List TFound := (List.range n).filterMap fun o => fnd p ep sq z o
def fA (p : Dv) (ep sq : Int) (z : Nat) : List TFound := (List.range z).flatMap fun z => fz p ep sq z (pt p z)
theorem fz_succ (p : Dv) (ep sq : Int) (z n : Nat) : fz p ep sq z (n + 1) = fz p ep sq z n ++ (fnd p ep sq z n).toList := by
  unfold fz
  rw [List.range_succ, List.filterMap_append]
  congr 1
theorem fA_succ (p : Dv) (ep sq : Int) (z : Nat) : fA p ep sq (z + 1) = fA p ep sq z ++ fz p ep sq z (pt p z) := by
  unfold fA
  rw [List.range_succ, List.flatMap_append]; simp
theorem fnd_place {p : Dv} {ep sq : Int} {z o : Nat} {y : TFound} (h : fnd p ep sq z o = some y) : y.Place = num p.g z o := by
  unfold fnd at h
  split at h
  · obtain rfl := Option.some.inj h; rfl
  · cases h
theorem fz_place {p : Dv} {ep sq : Int} {z n : Nat} {y : TFound} (h : y ∈ fz p ep sq z n) : ((z : Int) - p.g.Conv) * p.g.Size + 1 ≤ y.Place ∧ y.Place ≤ ((z : Int) - p.g.Conv) * p.g.Size + n := by
  unfold fz at h
  obtain ⟨o, ho, he⟩ := List.mem_filterMap.1 h
  rw [List.mem_range] at ho
  rw [fnd_place he]
  unfold num
  omega
theorem pt_conv {p : Dv} (h : DI p) {z : Nat} (hz : (z : Int) < p.g.Conv) : pt p z = 0 := by
  unfold pt
  rw [h.conv z (by omega) hz]; rfl
theorem pt_le {p : Dv} (h : DI p) (z : Nat) : (pt p z : Int) ≤ p.g.Size := by
  unfold pt
  have := h.ok.pt z
  have := h.ok.g.z
  omega
theorem fA_conv {p : Dv} (h : DI p) (ep sq : Int) : ∀ z : Nat, (z : Int) ≤ p.g.Conv → fA p ep sq z = []
  | 0, _ => rfl
  | z + 1, hz => by
    rw [fA_succ, fA_conv h ep sq z (by omega), pt_conv h (z := z) (by omega)]; rfl
theorem fA_place {p : Dv} (h : DI p) (ep sq : Int) : ∀ z : Nat, ∀ y ∈ fA p ep sq z, p.g.Conv ≤ z ∧ y.Place ≤ ((z : Int) - p.g.Conv) * p.g.Size
  | 0, y, hy => by cases hy
  | z + 1, y, hy => by
    have hc : p.g.Conv ≤ (z : Int) := by
      rcases Int.lt_or_le (z : Int) p.g.Conv with hlt | hle
      · rw [fA_conv h ep sq (z + 1) (by omega)] at hy; cases hy
      · exact hle
    have e : (((z + 1 : Nat) : Int) - p.g.Conv) * p.g.Size = ((z : Int) - p.g.Conv) * p.g.Size + p.g.Size := by
      rw [show ((z + 1 : Nat) : Int) - p.g.Conv = ((z : Int) - p.g.Conv) + 1 by omega, Int.add_mul, Int.one_mul]
    have hp := pt_le h z
    have hz := h.ok.g.z
    rw [fA_succ] at hy
    rw [e]
    rcases List.mem_append.1 hy with hy | hy
    · have := fA_place h ep sq z y hy
      omega
    · have := fz_place hy
      omega
/-- Places rise. -/
theorem fz_rise (p : Dv) (ep sq : Int) (z : Nat) : ∀ n, (fz p ep sq z n).Pairwise fun a b => a.Place < b.Place
  | 0 => List.Pairwise.nil
  | n + 1 => by
    rw [fz_succ]
    refine List.pairwise_append.2 ⟨fz_rise p ep sq z n, ?_, fun a ha b hb => ?_⟩
    · cases fnd p ep sq z n <;> simp
    · have h1 := fz_place ha
      have h2 : b.Place = num p.g z n := by
        cases h : fnd p ep sq z n with
        | none => rw [h] at hb; cases hb
        | some y => rw [h] at hb; simp at hb; subst hb; exact fnd_place h
      rw [h2]; unfold num; omega
theorem fA_rise {p : Dv} (h : DI p) (ep sq : Int) : ∀ z, (fA p ep sq z).Pairwise fun a b => a.Place < b.Place
  | 0 => List.Pairwise.nil
  | z + 1 => by
    rw [fA_succ]
    refine List.pairwise_append.2 ⟨fA_rise h ep sq z, fz_rise p ep sq z _, fun a ha b hb => ?_⟩
    have h1 := fA_place h ep sq z a ha
    have h2 := fz_place hb
    omega
theorem noDup_rise : ∀ (l : List TFound), (l.Pairwise fun a b => a.Place < b.Place) → noDup2 (fun f : TFound => f.Rec.Seq) (fun f : TFound => f.Place) l = true
  | [], _ => rfl
  | x :: t, h => by
    obtain ⟨h1, h2⟩ := List.pairwise_cons.1 h
    simp only [noDup2, Bool.and_eq_true, List.all_eq_true]
    refine ⟨fun y hy => ?_, noDup_rise t h2⟩
    have := h1 y hy
    simp only [Bool.not_eq_true', Bool.and_eq_false_iff, beq_eq_false_iff_ne]
    exact .inr (by omega)
theorem fz_len (p : Dv) (ep sq : Int) (z n : Nat) : (fz p ep sq z n).length ≤ n := by
  unfold fz
  have := List.length_filterMap_le (fun o => fnd p ep sq z o) (List.range n)
  simpa using this
theorem fA_len {p : Dv} (h : DI p) (ep sq : Int) : ∀ z, (fA p ep sq z).length ≤ z * 256
  | 0 => Nat.le_refl _
  | z + 1 => by
    rw [fA_succ, List.length_append]
    have h1 := fA_len h ep sq z
    have h2 := fz_len p ep sq z (pt p z)
    have h3 := pt_le h z
    have h4 := h.ok.g.z
    omega
end Go.AX

namespace Go.AX
set_option autoImplicit false
set_option linter.unusedVariables false
set_option linter.unusedSimpArgs false
set_option maxRecDepth 4000
set_option maxHeartbeats 4000000

theorem pageAt_byt {p : Dv} (h : DI p) (a : TAt) : Byt (pageAt p a).l := by
  unfold pageAt
  cases hq : gGet eAt p.now a with
  | none => exact byt_rep 64
  | some x => exact h.byt a x hq
/-- A sector below the pointer is read. -/
theorem devR_ok {p : Dv} (h : DI p) {z o : Nat} (hc : p.g.Conv ≤ z) (hz : (z : Int) < p.g.Conv + p.g.Seq) (ho : o < pt p z) : devR p ⟨z, o⟩ = (pageAt p ⟨z, o⟩, 0, p) := by
  have hp := h.ok.pt z
  have hpt : (pt p z : Int) = (zat p.zones z).Point := by unfold pt; omega
  unfold devR
  rw [if_neg (by rw [h.dn]; decide)]
  have hr : zR p.g p.zones ⟨z, o⟩ = 0 := by
    unfold zR
    have hS := Sect.seq (g := p.g) (z := (z : Int)) hc hz h.ok.g
    simp only
    rw [if_pos (by rw [hS]; omega), if_neg (by omega)]
  rw [if_pos hr]
abbrev sortF (l : List TFound) : List TFound := srt (cmp2 (fun f : TFound => f.Rec.Seq) (fun f : TFound => f.Place)) l
theorem scanAll {p : Dv} (h : DI p) (g : TGeom) (hg : g = p.g) (ep sq : Int) : m_scan_All g ep sq p = some (sortF (fA p ep sq p.zones.length), 0, p) := by
  subst hg
  have hlen := h.ok.len
  have hsm := h.ok.sm
  have hgeo := h.ok.g
  have hcs := hgeo.cs
  have hcc := hgeo.c
  unfold m_scan_All
  rw [devZones p hsm]
  simp only [let_eq, jn_eq, bnd_some]
  refine bnd_run (fun i => ((i : Int), p, fA p ep sq i)) p.zones.length (.inl (p, fA p ep sq p.zones.length)) (by omega) rfl (fun z hz => ?_) ?_ ?_
  · have e1 : clt (z : Int) (ln p.zones) = true := decide_eq_true (by simp only [ln]; omega)
    have hpz := h.ok.pt z
    have hpt : (pt p z : Int) = (zat p.zones z).Point := by unfold pt; omega
    have ez := zat_at (l := p.zones) (z := (z : Int)) (by omega) (by omega)
    show (bif clt (z : Int) (ln p.zones) then _ else _) = _
    rw [e1, cond_true, ez, bnd_some]
    refine bnd_run (fun o => ((o : Int), p, fA p ep sq z ++ fz p ep sq z o)) (pt p z) (.inl (p, fA p ep sq z ++ fz p ep sq z (pt p z))) (by have := pt_le h z; have := hgeo.z; omega) (by simp [fz]) (fun o ho => ?_) ?_ ?_
    · have hconv : p.g.Conv ≤ (z : Int) := by
        rcases Int.lt_or_le (z : Int) p.g.Conv with hlt | hle
        · rw [pt_conv h hlt] at ho; omega
        · exact hle
      have hoS : (o : Int) < p.g.Size := by have := pt_le h z; omega
      have f1 : clt (o : Int) (zat p.zones (z : Int)).Point = true := decide_eq_true (by omega)
      show (bif clt (o : Int) (zat p.zones (z : Int)).Point then _ else _) = _
      rw [f1, cond_true, devRead p h.ok, devR_ok h hconv (by omega) ho]
      simp only [bnd_some, cne_eq, ne_eq, not_true, decide_false, cond_false, recRead _ (pageAt_byt h _), geomNum p.g hgeo hconv (show (z : Int) < p.g.Conv + p.g.Seq by omega) hoS]
      have hap : app? 80 (fA p ep sq z ++ fz p ep sq z o) [(⟨num p.g z o, (readR (pageAt p ⟨z, o⟩)).1⟩ : TFound)] = some ((fA p ep sq z ++ fz p ep sq z o) ++ [⟨num p.g z o, (readR (pageAt p ⟨z, o⟩)).1⟩]) := by
        apply app_ok
        have h1 := fA_len h ep sq z
        have h2 := fz_len p ep sq z o
        have h3 := pt_le h z
        have h4 := hgeo.z
        simp only [List.length_append, List.length_singleton]
        omega
      rw [hap]
      rw [inc_nat o (by have := hgeo.z; omega), fz_succ, ← List.append_assoc]
      unfold fnd
      simp only [ceq_eq, cgt_eq, bnd_some]
      by_cases c1 : (readR (pageAt p ⟨z, o⟩)).2 = 0
      · by_cases c2 : (readR (pageAt p ⟨z, o⟩)).1.Epoch = ep
        · by_cases c3 : sq < (readR (pageAt p ⟨z, o⟩)).1.Seq
          · simp [c1, c2, c3]
          · simp [c1, c2, c3]
        · simp [c1, c2]
      · simp [c1]
    · have f1 : clt ((pt p z : Nat) : Int) (zat p.zones (z : Int)).Point = false := decide_eq_false (by omega)
      show (bif clt ((pt p z : Nat) : Int) (zat p.zones (z : Int)).Point then _ else _) = _
      rw [f1, cond_false]
    · simp only [inc_nat z (by omega), fA_succ]
  · have e1 : clt ((p.zones.length : Nat) : Int) (ln p.zones) = false := decide_eq_false (by simp only [ln]; omega)
    show (bif clt ((p.zones.length : Nat) : Int) (ln p.zones) then _ else _) = _
    rw [e1, cond_false]
  · have hl := fA_len h ep sq p.zones.length
    have hs : srt2? (fun f : TFound => f.Rec.Seq) (fun f : TFound => f.Place) (fA p ep sq p.zones.length) = some (sortF (fA p ep sq p.zones.length)) := by
      unfold srt2?
      rw [if_pos ⟨noDup_rise _ (fA_rise h ep sq _), by omega⟩]
    simp only [hs, bnd_some]
    unfold m_scan_down
    rw [devDown, bnd_some, h.dn]
    rfl
end Go.AX

namespace Go.AX
set_option autoImplicit false
set_option linter.unusedVariables false
set_option linter.unusedSimpArgs false
set_option maxRecDepth 4000
set_option maxHeartbeats 4000000

/-- Before, by number and place. -/
def bef (a b : TFound) : Prop := a.Rec.Seq < b.Rec.Seq ∨ a.Rec.Seq = b.Rec.Seq ∧ a.Place < b.Place
theorem sortF_perm {l m : List TFound} (hp : l.Perm m) (hm : m.Pairwise bef) (hn : noDup2 (fun f : TFound => f.Rec.Seq) (fun f : TFound => f.Place) l = true) : sortF l = m := by
  have h1 : sortF l = sortF m := by
    refine srt_perm (fun x y z h1 h2 => ?_) (fun x y => ?_) hp (cmp2_dist hn)
    · rw [cmp2_lt] at *; omega
    · rw [cmp2_lt, cmp2_lt]; omega
  rw [h1]
  unfold sortF srt
  refine List.mergeSort_of_pairwise ?_
  refine hm.imp fun {a b} h => ?_
  simp only [Bool.not_eq_true', decide_eq_false_iff_not, cmp2_lt]
  unfold bef at h
  omega
/-- Laid in, from behind. -/
def insK (x : TFound) : List TFound → Nat → Nat
  | l, 0 => 0
  | l, k + 1 => match l[k]? with | some y => if x.Rec.Seq < y.Rec.Seq then insK x l k else k + 1 | none => k + 1
def insF (l : List TFound) (x : TFound) : List TFound := l.take (insK x l l.length) ++ x :: l.drop (insK x l l.length)
theorem insK_le (x : TFound) (l : List TFound) : ∀ k, insK x l k ≤ k
  | 0 => Nat.le_refl _
  | k + 1 => by
    unfold insK
    split
    · split
      · exact Nat.le_trans (insK_le x l k) (Nat.le_succ _)
      · exact Nat.le_refl _
    · exact Nat.le_refl _
theorem insK_gt (x : TFound) (l : List TFound) : ∀ k, k ≤ l.length → ∀ i (hi : i < l.length), insK x l k ≤ i → i < k → x.Rec.Seq < (l[i]).Rec.Seq
  | 0, _, i, hi, h1, h2 => by omega
  | k + 1, hk, i, hi, h1, h2 => by
    unfold insK at h1
    rw [List.getElem?_eq_getElem (by omega)] at h1
    simp only at h1
    split at h1
    · rename_i hc
      by_cases e : i = k
      · subst e; exact hc
      · exact insK_gt x l k (by omega) i hi h1 (by omega)
    · omega
theorem insK_end (x : TFound) (l : List TFound) : ∀ k, k ≤ l.length → ∀ j, insK x l k = j + 1 → ∀ hj : j < l.length, ¬ x.Rec.Seq < (l[j]).Rec.Seq
  | 0, _, j, h, hj => by cases h
  | k + 1, hk, j, h, hj => by
    unfold insK at h
    rw [List.getElem?_eq_getElem (by omega)] at h
    simp only at h
    split at h
    · exact insK_end x l k (by omega) j h hj
    · rename_i hc
      obtain rfl : k = j := by omega
      exact hc
theorem insF_perm (l : List TFound) (x : TFound) : (insF l x).Perm (l ++ [x]) := by
  unfold insF
  generalize insK x l l.length = k
  have h := List.take_append_drop k l
  have h1 : (l.take k ++ x :: l.drop k).Perm (x :: (l.take k ++ l.drop k)) := List.perm_middle
  rw [h] at h1
  exact h1.trans (List.perm_append_singleton x l).symm
theorem insF_sorted {l : List TFound} {x : TFound} (hs : l.Pairwise bef) (hp : ∀ y ∈ l, y.Place < x.Place) : (insF l x).Pairwise bef := by
  unfold insF
  have hk := insK_le x l l.length
  have hgt := insK_gt x l l.length (Nat.le_refl _)
  have hend := insK_end x l l.length (Nat.le_refl _)
  generalize insK x l l.length = k at *
  have hsp := hs
  rw [← List.take_append_drop k l] at hsp
  obtain ⟨h1, h2, h3⟩ := List.pairwise_append.1 hsp
  have ha : ∀ a ∈ l.take k, bef a x := by
    intro a ha
    have hpl := hp a (List.mem_of_mem_take ha)
    cases k with
    | zero => simp at ha
    | succ j =>
      have hj : j < l.length := by omega
      have he := hend j rfl hj
      have e : l.take (j + 1) = l.take j ++ [l[j]] := by rw [List.take_add_one, List.getElem?_eq_getElem hj]; rfl
      rw [e] at ha h1
      have hle : a.Rec.Seq ≤ (l[j]).Rec.Seq := by
        rcases List.mem_append.1 ha with ha | ha
        · have := (List.pairwise_append.1 h1).2.2 a ha l[j] (by simp)
          unfold bef at this; omega
        · simp at ha; subst ha; exact Int.le_refl _
      unfold bef; omega
  have hb : ∀ b ∈ l.drop k, bef x b := by
    intro b hb
    obtain ⟨i, hi, rfl⟩ := List.getElem_of_mem hb
    rw [List.length_drop] at hi
    rw [List.getElem_drop]
    have := hgt (k + i) (by omega) (by omega) (by omega)
    unfold bef; omega
  refine List.pairwise_append.2 ⟨h1, List.pairwise_cons.2 ⟨hb, h2⟩, fun a ha' b hb' => ?_⟩
  rcases List.mem_cons.1 hb' with rfl | hb'
  · exact ha a ha'
  · exact h3 a ha' b hb'
def isort (l : List TFound) : List TFound := l.foldl insF []
theorem isort_snoc (l : List TFound) (x : TFound) : isort (l ++ [x]) = insF (isort l) x := by unfold isort; rw [List.foldl_append]; rfl
theorem isort_app (l m : List TFound) : isort (l ++ m) = m.foldl insF (isort l) := by unfold isort; rw [List.foldl_append]
theorem isort_ok : ∀ (n : Nat) (l : List TFound), l.length = n → (l.Pairwise fun a b => a.Place < b.Place) → (isort l).Perm l ∧ (isort l).Pairwise bef
  | 0, l, hn, h => by
    have : l = [] := List.eq_nil_of_length_eq_zero hn
    subst this; exact ⟨.refl _, .nil⟩
  | n + 1, l, hn, h => by
    rcases List.eq_nil_or_concat l with rfl | ⟨m, x, rfl⟩
    · cases hn
    · rw [List.concat_eq_append] at *
      obtain ⟨h1, h2, h3⟩ := List.pairwise_append.1 h
      obtain ⟨k1, k2⟩ := isort_ok n m (by simp at hn; omega) h1
      rw [isort_snoc]
      refine ⟨(insF_perm _ _).trans (k1.append_right _), insF_sorted k2 fun y hy => h3 y (k1.mem_iff.1 hy) x (by simp)⟩
theorem sortF_isort {l : List TFound} (h : l.Pairwise fun a b => a.Place < b.Place) : sortF l = isort l := by
  obtain ⟨h1, h2⟩ := isort_ok _ l rfl h
  exact sortF_perm h1.symm h2 (noDup_rise l h)
/-- The reference's own laying in. -/
theorem insLoop (l : List TFound) (x : TFound) (hl : l.length ≤ 100000) :
    ∃ k, k ≤ l.length ∧ ∃ L : List TFound, loop (σ := Int × List TFound) (ρ := Int × List TFound) (fun s => bif cgt s.1 0 then (Bnd (at? s.2 (isub s.1 1)) fun y74 => bif cgt y74.Rec.Seq x.Rec.Seq then (Bnd (at? s.2 (isub s.1 1)) fun y73 => Bnd (at? s.2 s.1) fun y77 => some (.inl (isub s.1 1, set' s.2 s.1 y73))) else (some (.inr (s.1, s.2)))) else (some (.inr (s.1, s.2)))) (ln l, l ++ [x]) = some ((k : Int), L) ∧ k < L.length ∧ set' L (k : Int) x = insF l x := by
  -- behind so many steps
  let S : Nat → List TFound := fun k => l.take k ++ (l ++ [x]).getD k x :: l.drop k
  have hS : ∀ k, k ≤ l.length → (S k).length = l.length + 1 := fun k hk => by
    simp only [S, List.length_append, List.length_take, List.length_cons, List.length_drop]; omega
  have hset : ∀ k (hk : k < l.length), (S (k + 1)).set (k + 1) (l[k]) = S k := by
    intro k hk
    have h1 : (l.take (k + 1)).length = k + 1 := by rw [List.length_take]; omega
    simp only [S]
    rw [List.set_append_right _ _ (by omega), h1, Nat.sub_self, List.set_cons_zero]
    rw [List.take_add_one, List.getElem?_eq_getElem hk, List.append_assoc, List.drop_eq_getElem_cons hk]
    congr 1
    rw [List.getD_eq_getElem?_getD, List.getElem?_append_left hk, List.getElem?_eq_getElem hk]
    rfl
  have hat : ∀ k (hk : k < l.length), at? (S (k + 1)) (k : Int) = some (l[k]) := by
    intro k hk
    rw [at?_nat]
    simp only [S]
    rw [List.getElem?_append_left (by rw [List.length_take]; omega), List.getElem?_take, if_pos (by omega), List.getElem?_eq_getElem hk]
  have hfin : ∀ k, k ≤ l.length → set' (S k) (k : Int) x = l.take k ++ x :: l.drop k := by
    intro k hk
    simp only [S, set', Int.toNat_natCast]
    have h1 : (l.take k).length = k := by rw [List.length_take]; omega
    rw [List.set_append_right _ _ (by omega), h1, Nat.sub_self, List.set_cons_zero]
  have hstart : S l.length = l ++ [x] := by
    simp only [S]
    rw [List.take_length, List.drop_length, List.getD_eq_getElem?_getD, List.getElem?_append_right (Nat.le_refl _), Nat.sub_self]; rfl
  have step : ∀ (m k : Nat) (N : Nat), k = m → k ≤ l.length → k < N → loopN (σ := Int × List TFound) (ρ := Int × List TFound) (fun s => bif cgt s.1 0 then (Bnd (at? s.2 (isub s.1 1)) fun y74 => bif cgt y74.Rec.Seq x.Rec.Seq then (Bnd (at? s.2 (isub s.1 1)) fun y73 => Bnd (at? s.2 s.1) fun y77 => some (.inl (isub s.1 1, set' s.2 s.1 y73))) else (some (.inr (s.1, s.2)))) else (some (.inr (s.1, s.2)))) N ((k : Int), S k) = some (((insK x l k : Nat) : Int), S (insK x l k)) := by
    intro m
    induction m with
    | zero =>
      intro k N hk hl' hN
      subst hk
      obtain ⟨N, rfl⟩ : ∃ N', N = N' + 1 := ⟨N - 1, by omega⟩
      simp only [loopN]
      rw [show cgt ((0 : Nat) : Int) 0 = false from rfl, cond_false]
      rfl
    | succ m ih =>
      intro k N hk hl' hN
      subst hk
      obtain ⟨N, rfl⟩ : ∃ N', N = N' + 1 := ⟨N - 1, by omega⟩
      have e1 : cgt ((m + 1 : Nat) : Int) 0 = true := decide_eq_true (by omega)
      have e2 : isub ((m + 1 : Nat) : Int) 1 = (m : Int) := by rw [show isub ((m + 1 : Nat) : Int) 1 = ((m + 1 : Nat) : Int) - 1 from sub_ok (by omega)]; omega
      have hm : m < l.length := by omega
      have e3 : at? (S (m + 1)) ((m + 1 : Nat) : Int) = some ((S (m + 1))[m + 1]'(by rw [hS _ hl']; omega)) := by rw [at?_nat, List.getElem?_eq_getElem]
      have e4 : set' (S (m + 1)) ((m + 1 : Nat) : Int) (l[m]) = S m := by unfold set'; rw [Int.toNat_natCast]; exact hset m hm
      simp only [loopN]
      rw [e1, cond_true, e2, hat m hm, bnd_some]
      by_cases hc : x.Rec.Seq < (l[m]).Rec.Seq
      · have e5 : cgt (l[m]).Rec.Seq x.Rec.Seq = true := decide_eq_true hc
        rw [e5, cond_true, bnd_some, e3, bnd_some, e4]
        simp only
        rw [ih m N rfl (by omega) (by omega)]
        have : insK x l (m + 1) = insK x l m := by
          conv => lhs; unfold insK
          rw [List.getElem?_eq_getElem hm]
          simp only [if_pos hc]
        rw [this]
      · have e5 : cgt (l[m]).Rec.Seq x.Rec.Seq = false := decide_eq_false hc
        rw [e5, cond_false]
        have : insK x l (m + 1) = m + 1 := by
          conv => lhs; unfold insK
          rw [List.getElem?_eq_getElem hm]
          simp only [if_neg hc]
        rw [this]
  have hkl := insK_le x l l.length
  refine ⟨insK x l l.length, hkl, S (insK x l l.length), ?_, by rw [hS _ hkl]; omega, hfin _ hkl⟩
  have := step l.length l.length FUEL rfl (Nat.le_refl _) (by show l.length < 1099511627776; omega)
  rw [hstart] at this
  exact this
theorem ref14All {p : Dv} (h : DI p) (g : TGeom) (hg : g = p.g) (ep sq : Int) : m_ref14_All g ep sq p = some (isort (fA p ep sq p.zones.length), p) := by
  subst hg
  have hlen := h.ok.len
  have hsm := h.ok.sm
  have hgeo := h.ok.g
  have hcs := hgeo.cs
  have hcc := hgeo.c
  unfold m_ref14_All
  rw [devZones p hsm]
  simp only [let_eq, jn_eq, bnd_some]
  refine bnd_run (fun i => ((i : Int), p, isort (fA p ep sq i))) p.zones.length ((p, isort (fA p ep sq p.zones.length))) (by omega) rfl (fun z hz => ?_) ?_ rfl
  · have e1 : clt (z : Int) (ln p.zones) = true := decide_eq_true (by simp only [ln]; omega)
    have hpz := h.ok.pt z
    have hpt : (pt p z : Int) = (zat p.zones z).Point := by unfold pt; omega
    have ez := zat_at (l := p.zones) (z := (z : Int)) (by omega) (by omega)
    show (bif clt (z : Int) (ln p.zones) then _ else _) = _
    rw [e1, cond_true]
    refine bnd_run (fun o => ((o : Int), p, isort (fA p ep sq z ++ fz p ep sq z o))) (pt p z) (p, isort (fA p ep sq z ++ fz p ep sq z (pt p z))) (by have := pt_le h z; have := hgeo.z; omega) (by simp [fz]) (fun o ho => ?_) ?_ ?_
    · have hconv : p.g.Conv ≤ (z : Int) := by
        rcases Int.lt_or_le (z : Int) p.g.Conv with hlt | hle
        · rw [pt_conv h hlt] at ho; omega
        · exact hle
      have hoS : (o : Int) < p.g.Size := by have := pt_le h z; omega
      have f1 : clt (o : Int) (zat p.zones (z : Int)).Point = true := decide_eq_true (by omega)
      show Bnd (at? p.zones (z : Int)) _ = _
      rw [ez, bnd_some, f1, cond_true, devRead p h.ok, devR_ok h hconv (by omega) ho]
      simp only [bnd_some, refRead _ (pageAt_byt h _)]
      rw [fz_succ, ← List.append_assoc, inc_nat o (by have := hgeo.z; omega)]
      have hLlen : (isort (fA p ep sq z ++ fz p ep sq z o)).length ≤ 100000 := by
        have hr : (fA p ep sq z ++ fz p ep sq z o).Pairwise fun a b => a.Place < b.Place := by
          refine List.pairwise_append.2 ⟨fA_rise h ep sq z, fz_rise p ep sq z _, fun a ha b hb => ?_⟩
          have h1 := fA_place h ep sq z a ha
          have h2 := fz_place hb
          omega
        rw [(isort_ok _ _ rfl hr).1.length_eq, List.length_append]
        have h1 := fA_len h ep sq z
        have h2 := fz_len p ep sq z o
        have h3 := pt_le h z
        have h4 := hgeo.z
        omega
      generalize hL : fA p ep sq z ++ fz p ep sq z o = L0 at *
      unfold fnd
      simp only [cne_eq, cle_eq]
      by_cases c1 : (readR (pageAt p ⟨z, o⟩)).2 = 0
      · by_cases c2 : (readR (pageAt p ⟨z, o⟩)).1.Epoch = ep
        · by_cases c3 : sq < (readR (pageAt p ⟨z, o⟩)).1.Seq
          · have c4 : ¬ (readR (pageAt p ⟨z, o⟩)).1.Seq ≤ sq := by omega
            simp only [c1, c2, c3, c4, ne_eq, not_true, decide_false, cond_false, and_self, if_true, Option.toList_some]
            rw [refNum p.g hgeo hconv (show (z : Int) < p.g.Conv + p.g.Seq by omega) hoS, bnd_some, app_ok (by simp only [List.length_singleton]; omega), bnd_some, isort_snoc]
            obtain ⟨k, hk, L, h1, h2, h3⟩ := insLoop (isort L0) ⟨num p.g z o, (readR (pageAt p ⟨z, o⟩)).1⟩ hLlen
            show Bnd (loop _ (ln (isort L0), isort L0 ++ [_])) _ = _
            rw [show loop _ (ln (isort L0), isort L0 ++ [(⟨num p.g z o, (readR (pageAt p ⟨z, o⟩)).1⟩ : TFound)]) = some ((k : Int), L) from h1, bnd_some]
            show Bnd (at? L (k : Int)) _ = _
            rw [at?_nat, List.getElem?_eq_getElem h2, bnd_some, h3]
          · have c4 : (readR (pageAt p ⟨z, o⟩)).1.Seq ≤ sq := by omega
            simp [c1, c2, c3, c4]
        · simp [c1, c2]
      · simp [c1]
    · have f1 : clt ((pt p z : Nat) : Int) (zat p.zones (z : Int)).Point = false := decide_eq_false (by omega)
      show Bnd (at? p.zones (z : Int)) _ = _
      rw [ez, bnd_some, f1, cond_false]
    · simp only [inc_nat z (by omega), fA_succ]
  · have e1 : clt ((p.zones.length : Nat) : Int) (ln p.zones) = false := decide_eq_false (by simp only [ln]; omega)
    show (bif clt ((p.zones.length : Nat) : Int) (ln p.zones) then _ else _) = _
    rw [e1, cond_false]
end Go.AX
