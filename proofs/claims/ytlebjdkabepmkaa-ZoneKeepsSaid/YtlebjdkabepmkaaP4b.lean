/- Chapter 4: plain laws: the reference's answers. -/
import Derived.Test.YtlebjdkabepmkaaP4
namespace Go.AX
set_option autoImplicit false
set_option linter.unusedVariables false
set_option linter.unusedSimpArgs false
set_option maxRecDepth 4000
set_option maxHeartbeats 4000000

theorem ref04_Right (g : TGeom) (hg : Geo g) (l : List TZone) (hl : l.length ≤ 1000) : ∃ b, m_ref04_Right g l = some b ∧ (b = true ↔ ZR g l) := by
  obtain ⟨g1, g2, g3, g4⟩ := id hg
  unfold m_ref04_Right
  simp only [jn_eq, let_eq, show iadd g.Conv g.Seq = g.Conv + g.Seq from add_ok (by omega), bnd_some, ref04_opened l hl, cne_eq, cgt_eq, cond_dec]
  by_cases k1 : ln l = g.Conv + g.Seq
  · rw [if_neg (by simpa using k1)]
    by_cases k2 : g.Open < cnt l
    · rw [if_pos k2]; exact ⟨false, rfl, by simp; intro h; have := h.opn; omega⟩
    · rw [if_neg k2]
      refine Exists.elim (loop_all (step := fun s25 => Let (ln l) fun v26 => Let (clt s25 v26) fun b27 => bif b27 then (Bnd (at? l s25) fun y28 => Bnd (at? l s25) fun y34 => Let (clt s25 g.Conv) fun b40 => bif b40 then (Let (cne y28.State 4) fun b41 => bif b41 then (some (.inr (.inr ()))) else (Let (cne y34.Point 0) fun b42 => bif b42 then (some (.inr (.inr ()))) else (Let (iadd s25 1) fun v43 => some (.inl (v43))))) else (Let (clt y28.State 0) fun b41 => bif b41 then (some (.inr (.inr ()))) else (Let (cgt y28.State 3) fun b42 => bif b42 then (some (.inr (.inr ()))) else (Let (clt y34.Point 0) fun b43 => bif b43 then (some (.inr (.inr ()))) else (Let (cgt y34.Point g.Size) fun b44 => bif b44 then (some (.inr (.inr ()))) else (Let (ceq y28.State 0) fun b45 => bif b45 then (Let (cne y34.Point 0) fun b46 => bif b46 then (some (.inr (.inr ()))) else (Let (ceq y28.State 1) fun b47 => bif b47 then (Let (ceq y34.Point g.Size) fun b48 => bif b48 then (some (.inr (.inr ()))) else (Let (ceq y28.State 2) fun b49 => bif b49 then (Let (ceq y34.Point 0) fun b50 => bif b50 then (some (.inr (.inr ()))) else (Let (iadd s25 1) fun v51 => some (.inl (v51)))) else (Let (iadd s25 1) fun v50 => some (.inl (v50))))) else (Let (ceq y28.State 2) fun b48 => bif b48 then (Let (ceq y34.Point g.Size) fun b49 => bif b49 then (some (.inr (.inr ()))) else (Let (ceq y28.State 2) fun b50 => bif b50 then (Let (ceq y34.Point 0) fun b51 => bif b51 then (some (.inr (.inr ()))) else (Let (iadd s25 1) fun v52 => some (.inl (v52)))) else (Let (iadd s25 1) fun v51 => some (.inl (v51))))) else (Let (ceq y28.State 2) fun b49 => bif b49 then (Let (ceq y34.Point 0) fun b50 => bif b50 then (some (.inr (.inr ()))) else (Let (iadd s25 1) fun v51 => some (.inl (v51)))) else (Let (iadd s25 1) fun v50 => some (.inl (v50))))))) else (Let (ceq y28.State 1) fun b46 => bif b46 then (Let (ceq y34.Point g.Size) fun b47 => bif b47 then (some (.inr (.inr ()))) else (Let (ceq y28.State 2) fun b48 => bif b48 then (Let (ceq y34.Point 0) fun b49 => bif b49 then (some (.inr (.inr ()))) else (Let (iadd s25 1) fun v50 => some (.inl (v50)))) else (Let (iadd s25 1) fun v49 => some (.inl (v49))))) else (Let (ceq y28.State 2) fun b47 => bif b47 then (Let (ceq y34.Point g.Size) fun b48 => bif b48 then (some (.inr (.inr ()))) else (Let (ceq y28.State 2) fun b49 => bif b49 then (Let (ceq y34.Point 0) fun b50 => bif b50 then (some (.inr (.inr ()))) else (Let (iadd s25 1) fun v51 => some (.inl (v51)))) else (Let (iadd s25 1) fun v50 => some (.inl (v50))))) else (Let (ceq y28.State 2) fun b48 => bif b48 then (Let (ceq y34.Point 0) fun b49 => bif b49 then (some (.inr (.inr ()))) else (Let (iadd s25 1) fun v50 => some (.inl (v50)))) else (Let (iadd s25 1) fun v49 => some (.inl (v49)))))))))))) else (some (.inr (.inl ())))) l.length (fun i => ∀ h : i < l.length, Cell g i l[i]) (by omega) ?_ ?_ ?_) ?_
      · intro i hi hP
        have hc := hP hi
        obtain ⟨c1, c2⟩ := hc
        simp only [let_eq, clt_eq, cge_eq, cgt_eq, cne_eq, cond_dec, ln, at?_nat, List.getElem?_eq_getElem hi, bnd_some, ceq_eq]
        rw [if_pos (by omega), show iadd (i : Int) 1 = (i : Int) + 1 from add_ok (by omega)]
        by_cases e : (i : Int) < g.Conv
        · have h1 := c1 e
          clear c1 c2 hP
          revert h1
          generalize l[i].State = s
          generalize l[i].Point = p
          rintro ⟨rfl, rfl⟩
          simp [e]
        · have h1 := c2 (by omega)
          clear c1 c2 hP
          revert h1
          generalize l[i].State = s
          generalize l[i].Point = p
          intro h1
          rw [if_neg e]
          rcases h1 with ⟨rfl, rfl⟩ | ⟨rfl, h, h'⟩ | ⟨rfl, h, h'⟩ | ⟨rfl, h, h'⟩
          · simp [show ¬ g.Size < 0 by omega]
          · simp [show ¬ p < 0 by omega, show ¬ g.Size < p by omega, show ¬ p = g.Size by omega]
          · simp [show ¬ p < 0 by omega, show ¬ g.Size < p by omega, show ¬ p = g.Size by omega, show ¬ p = 0 by omega]
          · simp [show ¬ p < 0 by omega, show ¬ g.Size < p by omega]
      · intro i hi hP
        have hc : ¬ Cell g i l[i] := fun h => hP (fun _ => h)
        have h1 : (i : Int) < g.Conv → ¬ (l[i].State = 4 ∧ l[i].Point = 0) := fun h h' => hc ⟨fun _ => h', fun h' => by omega⟩
        have h2 : g.Conv ≤ (i : Int) → ¬ ((l[i].State = 0 ∧ l[i].Point = 0) ∨ (l[i].State = 1 ∧ 0 ≤ l[i].Point ∧ l[i].Point < g.Size) ∨ (l[i].State = 2 ∧ 0 < l[i].Point ∧ l[i].Point < g.Size) ∨ (l[i].State = 3 ∧ 0 ≤ l[i].Point ∧ l[i].Point ≤ g.Size)) := fun h h' => hc ⟨fun _ => by omega, fun _ => h'⟩
        clear hc hP
        simp only [let_eq, clt_eq, cge_eq, cgt_eq, cne_eq, cond_dec, ln, at?_nat, List.getElem?_eq_getElem hi, bnd_some, ceq_eq]
        rw [if_pos (by omega), show iadd (i : Int) 1 = (i : Int) + 1 from add_ok (by omega)]
        by_cases e : (i : Int) < g.Conv
        · have h3 := h1 e
          clear h1 h2
          revert h3
          generalize l[i].State = s
          generalize l[i].Point = p
          intro h3
          rw [if_pos e]
          repeat' split
          all_goals first | rfl | (exfalso; omega)
        · have h3 := h2 (by omega)
          clear h1 h2
          revert h3
          generalize l[i].State = s
          generalize l[i].Point = p
          intro h3
          rw [if_neg e]
          by_cases a1 : s < 0
          · simp [a1]
          by_cases a2 : 3 < s
          · simp [a1, a2]
          by_cases a3 : p < 0
          · simp [a1, a2, a3]
          by_cases a4 : g.Size < p
          · simp [a1, a2, a3, a4]
          rw [if_neg a1, if_neg a2, if_neg a3, if_neg a4]
          by_cases b0 : s = 0
          · subst b0
            simp [show ¬ p = 0 by omega]
          by_cases b1 : s = 1
          · subst b1
            simp [show p = g.Size by omega]
          by_cases b2 : s = 2
          · subst b2
            by_cases c0 : p = g.Size
            · simp [c0]
            · simp [c0, show p = 0 by omega, show ¬ 0 = g.Size by omega]
          · exfalso; omega
      · simp [ln]
      · rintro q ⟨hq, q1, q2⟩
        refine ⟨match q with | .inl _ => true | .inr _ => false, ?_, ?_⟩
        · simp only [let_eq] at hq ⊢
          simp only [clt_eq, cge_eq, cgt_eq, cne_eq, ceq_eq, cond_dec] at hq ⊢
          rw [hq]
          cases q <;> rfl
        · by_cases ha : ∀ i, i < l.length → ∀ h : i < l.length, Cell g i l[i]
          · obtain rfl := q1 ha; exact ⟨fun _ => ⟨k1, by omega, fun i h => ha i h h⟩, fun _ => rfl⟩
          · obtain rfl := q2 ha; exact ⟨fun h => (by cases h), fun h => absurd (fun i _ h' => h.cell i h') ha⟩
  · rw [if_pos (by simpa using k1)]
    exact ⟨false, rfl, by simp; intro h; exact k1 h.len⟩

theorem ref04_Same (l : List TZone) (hl : l.length ≤ 1000) : m_ref04_Same l l = some true := by
  unfold m_ref04_Same
  simp only [let_eq, cne_eq, cond_dec]
  rw [if_neg (by simp)]
  refine bnd_run (fun i => (i : Int)) l.length (.inl ()) (by omega) rfl ?_ ?_ rfl
  · intro i hi
    simp only [clt_eq, ln, cond_dec]
    rw [if_pos (by omega), at?_nat, List.getElem?_eq_getElem hi, bnd_some, bnd_some, show iadd (i : Int) 1 = (i : Int) + 1 from add_ok (by omega)]
    simp
  · simp [ln]

def newZ (g : TGeom) : List TZone := List.replicate g.Conv.toNat ⟨4, 0⟩ ++ List.replicate g.Seq.toNat ⟨0, 0⟩
theorem newZ_len (g : TGeom) (hg : Geo g) : (newZ g).length ≤ 1000 := by
  obtain ⟨g1, g2, g3, g4⟩ := hg
  simp [newZ]; omega
theorem zone_New (g : TGeom) (hg : Geo g) : m_zone_New g = some (newZ g) := by
  obtain ⟨g1, g2, g3, g4⟩ := id hg
  unfold m_zone_New
  rw [geomZones g hg, bnd_some]
  have hm : mk? 16 (TZone.mk 0 0) (g.Conv + g.Seq) (g.Conv + g.Seq) = some (List.replicate (g.Conv.toNat + g.Seq.toNat) (TZone.mk 0 0)) := by
    unfold mk?
    rw [if_pos (by omega), show (g.Conv + g.Seq).toNat = g.Conv.toNat + g.Seq.toNat by omega]
  rw [hm, bnd_some]
  refine bnd_run (fun i => ((i : Int), List.replicate i (TZone.mk 4 0) ++ List.replicate (g.Conv.toNat + g.Seq.toNat - i) (TZone.mk 0 0))) g.Conv.toNat (newZ g) (by omega) (by simp) ?_ ?_ ?_
  · intro i hi
    obtain ⟨k, hk⟩ : ∃ k, g.Conv.toNat + g.Seq.toNat - i = k + 1 := ⟨g.Conv.toNat + g.Seq.toNat - i - 1, by omega⟩
    have hk2 : g.Conv.toNat + g.Seq.toNat - (i + 1) = k := by omega
    simp only [let_eq, clt_eq, cond_dec]
    rw [if_pos (by omega), hk, hk2, at?_nat, List.getElem?_append_right (by simp), show iadd (i : Int) 1 = (i : Int) + 1 from add_ok (by omega)]
    rw [List.replicate_succ' (n := i), List.replicate_succ (n := k)]
    simp [set']
  · simp only [let_eq, clt_eq, cond_dec]
    rw [if_neg (by omega)]
    simp [newZ]
  · rfl
theorem ref04_New (g : TGeom) (hg : Geo g) : m_ref04_New g = some (newZ g) := by
  obtain ⟨g1, g2, g3, g4⟩ := id hg
  unfold m_ref04_New
  refine bnd_run (fun i => ((i : Int), (newZ g).take i)) (newZ g).length (newZ g) (by have := newZ_len g hg; omega) (by simp) ?_ ?_ rfl
  · intro i hi
    have hi' : i < g.Conv.toNat + g.Seq.toNat := by simpa [newZ] using hi
    rw [List.take_succ_eq_append_getElem hi]
    simp only [let_eq, clt_eq, cond_dec]
    rw [show iadd g.Conv g.Seq = g.Conv + g.Seq from add_ok (by omega), if_pos (by omega), show iadd (i : Int) 1 = (i : Int) + 1 from add_ok (by omega)]
    have hap : ∀ z : TZone, app? 16 ((newZ g).take i) [z] = some ((newZ g).take i ++ [z]) := fun z => app_ok (by simp; omega)
    rw [hap, hap]
    by_cases k : (i : Int) < g.Conv
    · rw [if_pos k]
      have : (newZ g)[i] = ⟨4, 0⟩ := by simp only [newZ]; rw [List.getElem_append_left (by simp; omega)]; simp
      rw [this]; simp
    · rw [if_neg k]
      have : (newZ g)[i] = ⟨0, 0⟩ := by simp only [newZ]; rw [List.getElem_append_right (by simp; omega)]; simp
      rw [this]; simp
  · simp only [let_eq, clt_eq, cond_dec]
    rw [show iadd g.Conv g.Seq = g.Conv + g.Seq from add_ok (by omega), if_neg (by simp [newZ]; omega)]
    simp
end Go.AX
