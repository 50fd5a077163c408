/- Chapter 4: plain laws: what is asked of zones. -/
import Derived.Test.YtlebjdkabepmkaaP4b
namespace Go.AX
set_option autoImplicit false
set_option linter.unusedVariables false
set_option linter.unusedSimpArgs false
set_option maxRecDepth 4000
set_option maxHeartbeats 4000000

theorem slices_Clone (l : List TZone) (hl : l.length ≤ 1000) : m_slices_Clone l = some l := by
  unfold m_slices_Clone
  rw [app_ok (by simp; omega)]; simp
theorem ref04_with (l : List TZone) (hl : l.length ≤ 1000) (z : Int) (h0 : 0 ≤ z) (h1 : z < l.length) (y : TZone) : m_ref04_with l z y = some (l.set z.toNat y) := by
  unfold m_ref04_with
  rw [app_ok (by simp; omega)]
  obtain ⟨i, rfl⟩ := Int.eq_ofNat_of_zero_le h0
  simp [at?_nat, List.getElem?_eq_getElem (show i < l.length by omega), set']
theorem ZR.small {g : TGeom} {l : List TZone} (hg : Geo g) (h : ZR g l) : l.length ≤ 1000 := by
  have := h.len; have := hg.cs; omega
theorem ZR.at {g : TGeom} {l : List TZone} (h : ZR g l) {z : Int} (h0 : 0 ≤ z) (h1 : z < g.Conv + g.Seq) : ∃ y, at? l z = some y ∧ Cell g z y ∧ z < l.length ∧ l[z.toNat]? = some y := by
  obtain ⟨i, rfl⟩ := Int.eq_ofNat_of_zero_le h0
  have hi : i < l.length := by have := h.len; omega
  refine ⟨l[i], by rw [at?_nat, List.getElem?_eq_getElem hi], h.cell i hi, by omega, by simp [List.getElem?_eq_getElem hi]⟩
theorem Sect.inn {g : TGeom} {z : Int} (h : Sect g z ≠ 0) : 0 ≤ z ∧ z < g.Conv + g.Seq := by
  unfold Sect at h
  split at h
  · exact absurd rfl h
  split at h
  · exact absurd rfl h
  · omega
theorem Sect.seq {g : TGeom} {z : Int} (h : g.Conv ≤ z) (h1 : z < g.Conv + g.Seq) (hg : Geo g) : Sect g z = g.Size := by
  have := hg.c
  unfold Sect
  rw [if_neg (by omega), if_neg (by omega), if_neg (by omega)]
theorem at?_set {l : List TZone} {z : Int} {y : TZone} (h0 : 0 ≤ z) (h1 : z < l.length) : at? (l.set z.toNat y) z = some y := by
  unfold at?
  rw [if_pos h0, List.getElem?_set_self (by omega)]
theorem zone_there (g : TGeom) (hg : Geo g) (a : TAt) : m_zone_there g a = some (decide (0 ≤ a.Off ∧ a.Off < Sect g a.Zone)) := by
  unfold m_zone_there
  simp only [let_eq, cge_eq, clt_eq, cond_dec, geomSectors g hg, bnd_some]
  by_cases h : 0 ≤ a.Off <;> simp [h]
theorem zone_sequential (g : TGeom) (hg : Geo g) (z : Int) : m_zone_sequential g z = some (if Sect g z = 0 then 6 else if z < g.Conv then 3 else 0) := by
  unfold m_zone_sequential
  simp only [let_eq, ceq_eq, clt_eq, cond_dec, geomSectors g hg, bnd_some]
  by_cases h : Sect g z = 0
  · simp [h]
  · by_cases h2 : z < g.Conv <;> simp [h, h2]

/-- What both answer. -/
def Both (g : TGeom) (l : List TZone) (k : Int) (a : TAt) : Prop := ∃ m e, m_law04_act g l k a = some (m, e) ∧ m_ref04_Act g l k a = some (m, e) ∧ m.length = l.length

theorem act0 (g : TGeom) (hg : Geo g) (l : List TZone) (h : ZR g l) (a : TAt) : Both g l 0 a := by
  have hl := h.small hg
  unfold Both m_law04_act m_zone_Write m_ref04_Act
  simp only [jn_eq, let_eq, ceq_eq, cne_eq, clt_eq, cgt_eq, cge_eq, cle_eq, cond_dec, slices_Clone l hl, zone_there g hg, bnd_some, ref03Sectors g hg, zone_open l hl, ref04_opened l hl]
  by_cases ht : 0 ≤ a.Off ∧ a.Off < Sect g a.Zone
  · obtain ⟨z0, z1⟩ := Sect.inn (g := g) (z := a.Zone) (by omega)
    obtain ⟨y, hy, hc, hz, _⟩ := h.at z0 z1
    obtain ⟨c1, c2⟩ := hc
    simp only [hy, bnd_some, show ¬ Sect g a.Zone = 0 by omega, show ¬ a.Off < 0 by omega, show ¬ Sect g a.Zone ≤ a.Off by omega, ht, and_self, decide_true, Bool.not_true, cond_false, if_false, if_true, show ¬ (5 : Int) < 0 by decide, show ¬ (0 : Int) < 0 by decide, show (0 : Int) ≤ 1 by decide]
    by_cases k4 : a.Zone < g.Conv
    · obtain ⟨c3, c4⟩ := c1 k4
      simp only [c3, k4, if_true]
      exact ⟨l, 0, rfl, rfl, rfl⟩
    · have c3 := c2 (by omega)
      have hS := Sect.seq (g := g) (z := a.Zone) (by omega) z1 hg
      have hn4 : ¬ y.State = 4 := by omega
      simp only [k4, hn4, if_false, show ¬ (0 : Int) = 1 by decide, show ¬ (0 : Int) = 2 by decide, show ¬ (0 : Int) = 5 by decide, show ¬ (0 : Int) = 3 by decide, cond_false]
      by_cases k3 : y.State = 3
      · simp only [k3, if_true]; exact ⟨l, 3, rfl, rfl, rfl⟩
      simp only [k3, if_false]
      by_cases kp : a.Off = y.Point
      · have hz4 := hg.z
        have e1 : iadd y.Point 1 = y.Point + 1 := add_ok (by omega)
        simp only [kp, ne_eq, not_true_eq_false, if_false, set', at?_set z0 hz, bnd_some, List.set_set, e1, ref04_with l hl a.Zone z0 hz, at?_set z0 hz]
        by_cases k1 : y.State = 1
        · simp only [k1, not_true_eq_false, if_false]
          by_cases kf : y.Point + 1 = g.Size
          · simp only [kf, if_true]; exact ⟨_, 0, rfl, rfl, by simp⟩
          · simp only [kf, if_false]; exact ⟨_, 0, rfl, rfl, by simp⟩
        · simp only [k1, not_false_eq_true, if_true]
          by_cases ko : g.Open ≤ cnt l
          · simp only [ko, if_true]; exact ⟨_, _, rfl, rfl, rfl⟩
          · simp only [ko, if_false]
            by_cases kf : y.Point + 1 = g.Size
            · simp only [kf, if_true]; exact ⟨_, 0, rfl, rfl, by simp⟩
            · simp only [kf, if_false]; exact ⟨_, 0, rfl, rfl, by simp⟩
      · simp only [kp, ne_eq, not_false_eq_true, if_true]
        exact ⟨_, _, rfl, rfl, rfl⟩
  · refine ⟨l, 6, by simp [ht], ?_, rfl⟩
    by_cases k1 : Sect g a.Zone = 0
    · simp [k1]
    by_cases k2 : a.Off < 0
    · simp [k1, k2]
    · simp [k1, k2, show Sect g a.Zone ≤ a.Off by omega]

theorem act1 (g : TGeom) (hg : Geo g) (l : List TZone) (h : ZR g l) (a : TAt) : Both g l 1 a := by
  have hl := h.small hg
  unfold Both m_law04_act m_zone_Read m_ref04_Act
  simp only [jn_eq, let_eq, ceq_eq, cne_eq, clt_eq, cgt_eq, cge_eq, cle_eq, cond_dec, slices_Clone l hl, zone_there g hg, bnd_some, ref03Sectors g hg, zone_open l hl, ref04_opened l hl]
  by_cases ht : 0 ≤ a.Off ∧ a.Off < Sect g a.Zone
  · obtain ⟨z0, z1⟩ := Sect.inn (g := g) (z := a.Zone) (by omega)
    obtain ⟨y, hy, hc, hz, _⟩ := h.at z0 z1
    obtain ⟨c1, c2⟩ := hc
    simp only [hy, bnd_some, show ¬ Sect g a.Zone = 0 by omega, show ¬ a.Off < 0 by omega, show ¬ Sect g a.Zone ≤ a.Off by omega, ht, and_self, decide_true, Bool.not_true, cond_false, if_false, if_true, show ¬ (5 : Int) < 1 by decide, show ¬ (1 : Int) < 0 by decide, show (1 : Int) ≤ 1 by decide, show ¬ (1 : Int) = 0 by decide]
    by_cases k4 : a.Zone < g.Conv
    · obtain ⟨c3, c4⟩ := c1 k4
      simp [c3, k4]
    · have c3 := c2 (by omega)
      have hn4 : ¬ y.State = 4 := by omega
      simp only [k4, hn4, if_false, ne_eq, not_false_eq_true, if_true, cond_false]
      by_cases kp : y.Point ≤ a.Off
      · simp [kp, show ¬ a.Off < y.Point by omega]
      · simp [kp, show a.Off < y.Point by omega]
  · refine ⟨l, 6, by simp [ht], ?_, rfl⟩
    by_cases k1 : Sect g a.Zone = 0
    · simp [k1]
    by_cases k2 : a.Off < 0
    · simp [k1, k2]
    · simp [k1, k2, show Sect g a.Zone ≤ a.Off by omega]

theorem actS (g : TGeom) (hg : Geo g) (l : List TZone) (h : ZR g l) (k : Int) (hk : 2 ≤ k ∧ k ≤ 5) (a : TAt) : Both g l k a := by
  have hl := h.small hg
  have e : k = 2 ∨ k = 3 ∨ k = 4 ∨ k = 5 := by omega
  unfold Both m_law04_act m_zone_Reset m_zone_Finish m_zone_Open m_zone_Close m_ref04_Act
  simp only [jn_eq, let_eq, ceq_eq, cne_eq, clt_eq, cgt_eq, cge_eq, cle_eq, cond_dec, slices_Clone l hl, zone_sequential g hg, bnd_some, ref03Sectors g hg, zone_open l hl, ref04_opened l hl]
  by_cases hS : Sect g a.Zone = 0
  · refine ⟨l, 6, ?_, ?_, rfl⟩ <;> rcases e with rfl | rfl | rfl | rfl <;> simp [hS]
  obtain ⟨z0, z1⟩ := Sect.inn hS
  obtain ⟨y, hy, hc, hz, hyl⟩ := h.at z0 z1
  obtain ⟨c1, c2⟩ := hc
  simp only [hy, bnd_some, hS, if_false, show ¬ k ≤ 1 by omega, show ¬ k = 0 by omega, show ¬ k = 1 by omega, show ¬ 5 < k by omega, show ¬ k < 0 by omega]
  by_cases k4 : a.Zone < g.Conv
  · refine ⟨l, 3, ?_, ?_, rfl⟩ <;> rcases e with rfl | rfl | rfl | rfl <;> simp [k4]
  have c3 := c2 (by omega)
  simp only [k4, if_false, ne_eq, not_true_eq_false, decide_false, set', bnd_some, ref04_with l hl a.Zone z0 hz, cond_false]
  rcases e with rfl | rfl | rfl | rfl
  · exact ⟨_, 0, by simp; rfl, by simp, by simp⟩
  · by_cases k3 : y.State = 3
    · exact ⟨l, 3, by simp [k3], by simp [k3], rfl⟩
    · exact ⟨_, 0, by simp [k3]; rfl, by simp [k3], by simp⟩
  · by_cases k3 : y.State = 3
    · exact ⟨l, 3, by simp [k3], by simp [k3], rfl⟩
    by_cases k1 : y.State = 1
    · have hs : l.set a.Zone.toNat ⟨1, y.Point⟩ = l := by
        have : y = ⟨1, y.Point⟩ := by rw [← k1]
        rw [← this]
        apply List.ext_getElem?
        intro i
        by_cases hi : i = a.Zone.toNat
        · subst hi; rw [hyl, List.getElem?_set_self (by omega)]
        · rw [List.getElem?_set_ne (Ne.symm hi)]
      exact ⟨l, 0, by simp [k1], by simp [k1, hs], rfl⟩
    · by_cases ko : g.Open ≤ cnt l
      · exact ⟨l, 5, by simp [k3, k1, ko], by simp [k3, k1, ko], rfl⟩
      · exact ⟨_, 0, by simp [k3, k1, ko]; rfl, by simp [k3, k1, ko], by simp⟩
  · unfold m_zone_shut
    by_cases k1 : y.State = 1
    · simp only [k1, let_eq, set', at?_set z0 hz, bnd_some, List.set_set, ceq_eq, cond_dec]
      by_cases k0 : y.Point = 0
      · exact ⟨_, 0, by simp [k0, lenq]; rfl, by simp [k0], by simp⟩
      · exact ⟨_, 0, by simp [k0, lenq]; rfl, by simp [k0], by simp⟩
    · exact ⟨l, 3, by simp [k1], by simp [k1], rfl⟩

theorem lenq_ok {α β : Type} {a : List α} {b : List β} (h : a.length = b.length) : lenq a b = some () := by simp [lenq, h]
def pz (y : TZone) : TZone := if y.State = 1 then (if y.Point = 0 then ⟨0, y.Point⟩ else ⟨2, y.Point⟩) else y
theorem zone_Power (l : List TZone) (hl : l.length ≤ 1000) : m_zone_Power l = some (l.map pz) := by
  unfold m_zone_Power
  simp only [let_eq, slices_Clone l hl, bnd_some]
  refine bnd_run (fun i => ((i : Int), (l.take i).map pz ++ l.drop i)) l.length (l.map pz) (by omega) (by simp) ?_ ?_ rfl
  · intro i hi
    have hd : l.drop i = l[i] :: l.drop (i + 1) := List.drop_eq_getElem_cons hi
    have ht : (l.take (i + 1)).map pz = (l.take i).map pz ++ [pz l[i]] := by rw [List.take_succ_eq_append_getElem hi, List.map_append]; rfl
    have hlen : ((l.take i).map pz).length = i := by simp; omega
    have hat : ∀ (y : TZone) (t : List TZone), at? ((l.take i).map pz ++ y :: t) (i : Int) = some y := by
      intro y t; rw [at?_nat, List.getElem?_append_right (by omega), hlen]; simp
    have hset : ∀ (y z : TZone) (t : List TZone), ((l.take i).map pz ++ y :: t).set i z = (l.take i).map pz ++ z :: t := by
      intro y z t
      rw [List.set_append_right _ _ (by omega), hlen]; simp
    simp only [clt_eq, ln, cond_dec, ceq_eq]
    rw [if_pos (by omega), show iadd (i : Int) 1 = (i : Int) + 1 from add_ok (by omega), hd, hat, ht]
    simp only [bnd_some]
    unfold m_zone_shut
    by_cases k1 : l[i].State = 1
    · simp only [k1, if_true, let_eq, set', Int.toNat_natCast, hset, hat, bnd_some, ceq_eq, cond_dec]
      by_cases k0 : l[i].Point = 0
      · have hp : pz l[i] = ⟨0, l[i].Point⟩ := by simp [pz, k1, k0]
        simp only [k0, if_true, hp, bnd_some]
        rw [lenq_ok (by simp; omega), bnd_some]; simp
      · have hp : pz l[i] = ⟨2, l[i].Point⟩ := by simp [pz, k1, k0]
        simp only [k0, if_false, hp, bnd_some]
        rw [lenq_ok (by simp; omega), bnd_some]; simp
    · have hp : pz l[i] = l[i] := by simp [pz, k1]
      simp [k1, hp, -List.map_take]
  · simp [ln]

theorem act6 (g : TGeom) (l : List TZone) (hl : l.length ≤ 1000) (a : TAt) : Both g l 6 a := by
  unfold Both m_law04_act m_ref04_Act
  simp only [jn_eq, let_eq, ceq_eq, cne_eq, clt_eq, cgt_eq, cge_eq, cle_eq, cond_dec, zone_Power l hl, bnd_some]
  refine ⟨l.map pz, 0, by simp, ?_, by simp⟩
  simp only [show (5 : Int) < 6 by decide, if_true, cond_true]
  refine bnd_run (fun i => ((i : Int), (l.take i).map pz)) l.length (l.map pz) (by omega) (by simp) ?_ ?_ rfl
  · intro i hi
    have ht : (l.take (i + 1)).map pz = (l.take i).map pz ++ [pz l[i]] := by rw [List.take_succ_eq_append_getElem hi, List.map_append]; rfl
    have hap : ∀ z : TZone, app? 16 ((l.take i).map pz) [z] = some ((l.take i).map pz ++ [z]) := fun z => app_ok (by simp; omega)
    simp only [ln]
    rw [if_pos (by omega), show iadd (i : Int) 1 = (i : Int) + 1 from add_ok (by omega), at?_nat, List.getElem?_eq_getElem hi, ht]
    simp only [bnd_some, hap]
    unfold pz
    by_cases k1 : l[i].State = 1
    · by_cases k0 : l[i].Point = 0
      · simp [k1, k0]
      · simp [k1, k0]
    · simp [k1]
  · simp [ln]

theorem act_all (g : TGeom) (hg : Geo g) (l : List TZone) (h : ZR g l) (k : Int) (hk : 0 ≤ k ∧ k < 7) (a : TAt) : Both g l k a := by
  by_cases e0 : k = 0
  · subst e0; exact act0 g hg l h a
  by_cases e1 : k = 1
  · subst e1; exact act1 g hg l h a
  by_cases e6 : k = 6
  · subst e6; exact act6 g l (h.small hg) a
  exact actS g hg l h k (by omega) a

theorem rem7 {k : Int} (h : (Lit.int .u8 k).wf = true) : ∃ m, IntKind.wrap .i64 (binI .rem .u8 k 7) = m ∧ 0 ≤ m ∧ m < 7 := by
  have := wf_u8 h
  have e : binI .rem .u8 k 7 = k % 7 := by
    show k.tmod 7 = _
    rw [Int.tmod_eq_emod_of_nonneg (by omega)]
  refine ⟨k % 7, ?_, by omega, by omega⟩
  rw [e, IntKind.wrap_i64]; omega

theorem law_ZoneActs (g : TGeom) (l : List TZone) (k : Int) (a : TAt) (w0 : BGeom g) (w1 : (∀ x ∈ l, BZone x) ∧ l.length ≤ maxLen) (w2 : (Lit.int .u8 k).wf = true) (w3 : BAt a) : m_law04_ZoneActs g l k a = some true := by
  unfold m_law04_ZoneActs
  obtain ⟨b, hb, hb1⟩ := ref03_Right g w0
  obtain ⟨m, hm, hm0, hm1⟩ := rem7 w2
  simp only [jn_eq, let_eq, awake04, hb, bnd_some, Bool.not_true, cond_false, hm]
  cases b with
  | false => rfl
  | true =>
    have hg := hb1 rfl
    simp only [Bool.not_true, cond_false]
    by_cases hl : l.length ≤ 1000
    · obtain ⟨c, hc, hc1⟩ := zone_Right g hg l hl
      obtain ⟨d, hd, hd1⟩ := ref04_Right g hg l hl
      have hcd : c = d := by
        cases c <;> cases d <;> simp_all
      subst hcd
      simp only [hc, hd, bnd_some, beq_self_eq_true, Bool.not_true, cond_false, zone_New g hg, ref04_New g hg, ref04_Same _ (newZ_len g hg)]
      cases c with
      | false => rfl
      | true =>
        have hz := hc1.1 rfl
        obtain ⟨r, e, h1, h2, h3⟩ := act_all g hg l hz m ⟨hm0, hm1⟩ a
        simp only [Bool.not_true, cond_false, nz?, h1, h2, bnd_some, ref04_Same r (by omega), cond_true]
        simp
    · have hn : ln l ≠ g.Conv + g.Seq := by have := hg.cs; unfold ln; omega
      have h1 : m_zone_Right g l = some false := by
        unfold m_zone_Right
        simp only [jn_eq, let_eq, geomZones g hg, bnd_some, cne_eq, cond_dec]
        rw [if_pos (by simpa using hn)]
      have h2 : m_ref04_Right g l = some false := by
        unfold m_ref04_Right
        obtain ⟨g1, g2, g3, g4⟩ := id hg
        simp only [jn_eq, let_eq, show iadd g.Conv g.Seq = g.Conv + g.Seq from add_ok (by omega), bnd_some, cne_eq, cond_dec]
        rw [if_pos (by simpa using hn)]
      simp [h1, h2, zone_New g hg, ref04_New g hg, ref04_Same _ (newZ_len g hg)]
end Go.AX
