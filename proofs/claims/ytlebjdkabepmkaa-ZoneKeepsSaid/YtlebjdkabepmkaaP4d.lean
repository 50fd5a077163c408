/- Chapter 4: plain laws: what is handed in stays. -/
import Derived.Test.YtlebjdkabepmkaaP4c
namespace Go.AX
set_option autoImplicit false
set_option linter.unusedVariables false
set_option linter.unusedSimpArgs false
set_option maxRecDepth 4000
set_option maxHeartbeats 4000000

theorem act_own (g : TGeom) (l : List TZone) (k : Int) (hk : k ≠ 1) (a : TAt) : m_law04_act_ g l k a = m_law04_act g l k a := by
  unfold m_law04_act_ m_law04_act
  simp only [let_eq, ceq_eq, cond_dec, hk, if_false]

theorem law_ZoneKeeps (g : TGeom) (l : List TZone) (k : Int) (a : TAt) (w0 : BGeom g) (w1 : (∀ x ∈ l, BZone x) ∧ l.length ≤ maxLen) (w2 : (Lit.int .u8 k).wf = true) (w3 : BAt a) : m_law04_ZoneKeeps g l k a = some true := by
  unfold m_law04_ZoneKeeps
  obtain ⟨b, hb, hb1⟩ := ref03_Right g w0
  obtain ⟨m, hm, hm0, hm1⟩ := rem7 w2
  simp only [jn_eq, let_eq, awake04, hb, bnd_some, Bool.not_true, cond_false, hm]
  cases b with
  | false => rfl
  | true =>
    have hg := hb1 rfl
    simp only [Bool.not_true, cond_false]
    by_cases hl : l.length ≤ 1000
    · obtain ⟨d, hd, hd1⟩ := ref04_Right g hg l hl
      simp only [hd, bnd_some]
      cases d with
      | false => rfl
      | true =>
        have hz := hd1.1 rfl
        simp only [Bool.not_true, cond_false, nz?, ceq_eq, cond_dec]
        by_cases k1 : m = 1
        · simp [k1]
        · obtain ⟨r, e, h1, h2, h3⟩ := act_all g hg l hz m ⟨hm0, hm1⟩ a
          rw [act_own g l m k1 a, app_ok (by simp; omega), h1]
          simp only [k1, if_false, bnd_some, show ¬ (7 : Int) = 0 by decide, List.nil_append, ref04_Same l hl]
          obtain ⟨q, hq, _⟩ := loop_inv (σ := Int × List TZone) (ρ := Unit) (s0 := (0, r)) (step := fun s43 => Let (ln s43.2) fun v48 => Let (clt s43.1 v48) fun b49 => bif b49 then (Bnd (at? s43.2 s43.1) fun y50 => Let (set' s43.2 s43.1 (TZone.mk y50.State (-7))) fun l56 => Let (iadd s43.1 1) fun v59 => some (.inl (v59, l56))) else (some (.inr ())))
            (fun s => s.2.length = r.length ∧ 0 ≤ s.1 ∧ s.1 ≤ r.length) (fun s => (r.length - s.1).toNat) (fun _ => True) ⟨rfl, by simp, by simp⟩ (by simp only; omega) (by
              rintro ⟨i, x⟩ ⟨k1, k2, k3⟩
              simp only at k1 k2 k3
              obtain ⟨i, rfl⟩ := Int.eq_ofNat_of_zero_le k2
              by_cases hi : i < x.length
              · left
                refine ⟨((i : Int) + 1, x.set i ⟨x[i].State, -7⟩), ?_, ⟨by simp [k1], by simp only; omega, by simp only; omega⟩, by simp only; omega⟩
                simp only [let_eq, clt_eq, ln, cond_dec]
                rw [if_pos (by omega), at?_nat, List.getElem?_eq_getElem hi, bnd_some, show iadd (i : Int) 1 = (i : Int) + 1 from add_ok (by omega)]
                rfl
              · right
                exact ⟨(), by simp only [let_eq, clt_eq, ln, cond_dec]; rw [if_neg (by omega)], trivial⟩)
          simp only [let_eq] at hq
          simp only [clt_eq, cond_dec] at hq
          simp only [clt_eq, cond_dec, hq, bnd_some]
    · have hn : ln l ≠ g.Conv + g.Seq := by have := hg.cs; unfold ln; omega
      have h2 : m_ref04_Right g l = some false := by
        unfold m_ref04_Right
        obtain ⟨g1, g2, g3, g4⟩ := id hg
        simp only [jn_eq, let_eq, show iadd g.Conv g.Seq = g.Conv + g.Seq from add_ok (by omega), bnd_some, cne_eq, cond_dec]
        rw [if_pos (by simpa using hn)]
      simp [h2]
end Go.AX
