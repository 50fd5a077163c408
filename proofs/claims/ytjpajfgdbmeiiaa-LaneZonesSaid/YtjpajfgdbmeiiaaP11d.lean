/- Chapter 11: pools of zones. -/
import Derived.Test.YtjpajfgdbmeiiaaP11c
namespace Go.AX
set_option autoImplicit false
set_option linter.unusedVariables false
set_option linter.unusedSimpArgs false

def gz (l : List TZone) (i : Nat) : TZone := l.getD i ⟨0, 0⟩
theorem gz_eq {l : List TZone} {i : Nat} (h : i < l.length) : gz l i = l[i] := by simp [gz, List.getD_eq_getElem?_getD, h]
theorem at?_gz {l : List TZone} {i : Nat} (h : i < l.length) : at? l (i : Int) = some (gz l i) := by
  rw [at?_nat, List.getElem?_eq_getElem h, gz_eq h]
theorem at?_gzI {l : List TZone} {i : Int} (h : 0 ≤ i ∧ i < (l.length : Int)) : at? l i = some (gz l i.toNat) := by
  have h2 : i.toNat < l.length := by omega
  refine at?_ok h.1 ?_
  rw [List.getElem?_eq_getElem h2, gz_eq h2]

theorem ref04_opened (l : List TZone) (hl : l.length ≤ 1000) : ∃ n, m_ref04_opened l = some n := by
  unfold m_ref04_opened
  refine bnd_inv (G := fun x => ∃ n, x = some n) (fun s : Int × Int => 0 ≤ s.1 ∧ s.1 ≤ s.2 ∧ s.2 ≤ l.length) (fun s => ((l.length : Int) - s.2).toNat) (fun _ => True) ⟨by simp, by simp, by simp⟩ (by simp; omega) ?_ (fun r _ => ⟨r, rfl⟩)
  rintro ⟨n, i⟩ ⟨h1, h2, h3⟩
  simp only at h1 h2 h3
  simp only [let_eq, clt_eq, ceq_eq, cond_dec, ln]
  by_cases hi : i < (l.length : Int)
  · left
    rw [if_pos hi, at?_gzI ⟨by omega, hi⟩]
    simp only [bnd_some, show iadd i 1 = i + 1 from add_ok (by omega), show iadd n 1 = n + 1 from add_ok (by omega)]
    split
    · exact ⟨_, rfl, ⟨by simp only; omega, by simp only; omega, by simp only; omega⟩, by simp only; omega⟩
    · exact ⟨_, rfl, ⟨by simp only; omega, by simp only; omega, by simp only; omega⟩, by simp only; omega⟩
  · right; exact ⟨n, by rw [if_neg hi], trivial⟩

/-- What is known of right zones. -/
structure RightZ (g : TGeom) (l : List TZone) : Prop where
  len : (l.length : Int) = g.Conv + g.Seq
  pts : ∀ i : Nat, g.Conv ≤ i → i < l.length → 0 ≤ (gz l i).Point ∧ (gz l i).Point ≤ g.Size

theorem ref04_Right (g : TGeom) (l : List TZone) (hg : Geo g) : ∃ b, m_ref04_Right g l = some b ∧ (b = true → RightZ g l) := by
  have hc := hg.c; have hcs := hg.cs; have hss := hg.s
  unfold m_ref04_Right
  simp only [jn_eq, let_eq, show iadd g.Conv g.Seq = g.Conv + g.Seq from add_ok (by omega), cne_eq, cgt_eq, cond_dec, ln]
  by_cases hl : (l.length : Int) = g.Conv + g.Seq
  case neg => exact ⟨false, by simp [hl], by simp⟩
  obtain ⟨n, hn⟩ := ref04_opened l (by omega)
  simp only [hl, ne_eq, not_true_eq_false, if_false, hn, bnd_some]
  by_cases ho : g.Open < n
  · exact ⟨false, by simp [ho], by simp⟩
  simp only [ho, if_false]
  refine bnd_inv (G := fun x => ∃ b, x = some b ∧ (b = true → RightZ g l)) (fun s : Int => ∃ i : Nat, s = i ∧ i ≤ l.length ∧ ∀ j : Nat, g.Conv ≤ j → j < i → 0 ≤ (gz l j).Point ∧ (gz l j).Point ≤ g.Size) (fun s => ((l.length : Int) - s).toNat)
    (fun r => match r with | .inl _ => ∀ j : Nat, g.Conv ≤ j → j < l.length → 0 ≤ (gz l j).Point ∧ (gz l j).Point ≤ g.Size | .inr _ => True) ⟨0, rfl, by omega, fun j _ h => by omega⟩ (by simp; omega) ?_ ?_
  · rintro s ⟨i, rfl, hi, hall⟩
    by_cases h3 : i < l.length
    case neg =>
      right
      exact ⟨.inl (), by simp only [clt_eq, cond_dec]; rw [if_neg (by omega)], fun j h1 h2 => hall j h1 (by omega)⟩
    have hnext : (g.Conv ≤ (i : Int) → 0 ≤ (gz l i).Point ∧ (gz l i).Point ≤ g.Size) → ∃ k : Nat, ((i : Int) + 1) = (k : Int) ∧ k ≤ l.length ∧ ∀ j : Nat, g.Conv ≤ j → j < k → 0 ≤ (gz l j).Point ∧ (gz l j).Point ≤ g.Size := fun hb => ⟨i + 1, by simp, by omega, fun j h1 h2 => by
      rcases Nat.lt_or_ge j i with h | h
      · exact hall j h1 h
      · rw [show j = i by omega] at h1 ⊢; exact hb h1⟩
    have h3' : (i : Int) < g.Conv + g.Seq := by omega
    simp only [clt_eq, cgt_eq, ceq_eq, cne_eq, cond_dec, h3', if_true, at?_gz h3, bnd_some, show iadd (i : Int) 1 = (i : Int) + 1 from add_ok (by omega)]
    have hm : ((l.length : Int) - ((i : Int) + 1)).toNat < ((l.length : Int) - (i : Int)).toNat := by omega
    generalize (gz l i).State = st at *
    generalize (gz l i).Point = q at *
    refine (show Rnd (fun s : Int => ∃ i : Nat, s = i ∧ i ≤ l.length ∧ ∀ j : Nat, g.Conv ≤ j → j < i → 0 ≤ (gz l j).Point ∧ (gz l j).Point ≤ g.Size) (fun s => ((l.length : Int) - s).toNat) (((l.length : Int) - (i : Int)).toNat) (fun r : Sum Unit Unit => match r with | .inl _ => ∀ j : Nat, g.Conv ≤ j → j < l.length → 0 ≤ (gz l j).Point ∧ (gz l j).Point ≤ g.Size | .inr _ => True) _ from ?_)
    repeat' (refine rnd_if (fun _ => ?_) (fun _ => ?_))
    all_goals first
      | exact rnd_r trivial
      | exact rnd_l (hnext (fun _ => by omega)) hm
  · rintro (u | u) hu
    · exact ⟨true, rfl, fun _ => ⟨hl, hu⟩⟩
    · exact ⟨false, rfl, by simp⟩

def used (g : TGeom) (z : TZone) : Int := if z.State = 3 then g.Size else z.Point
def partly (g : TGeom) (n : Int) : Prop := ¬ (n = 0 ∨ n = g.Size)
instance (g : TGeom) (n : Int) : Decidable (partly g n) := by unfold partly; infer_instance
def points (g : TGeom) (L : List TZone) (n : Nat) : List Int := (L.take n).map (used g)
def headOf (g : TGeom) (L : List TZone) (i : Nat) : List Int := if partly g (used g (gz L i)) then [g.Conv + i] else []
def headsTo (g : TGeom) (L : List TZone) (n : Nat) : List Int := (List.range n).flatMap (headOf g L)

theorem headsTo_succ (g : TGeom) (L : List TZone) (n : Nat) : headsTo g L (n + 1) = headsTo g L n ++ headOf g L n := by
  unfold headsTo; rw [List.range_succ, List.flatMap_append]; simp
theorem points_succ (g : TGeom) (L : List TZone) {n : Nat} (h : n < L.length) : points g L (n + 1) = points g L n ++ [used g (gz L n)] := by
  unfold points
  rw [List.take_add_one, List.map_append, List.getElem?_eq_getElem h, gz_eq h]; rfl
theorem points_len (g : TGeom) (L : List TZone) {n : Nat} (h : n ≤ L.length) : (points g L n).length = n := by
  unfold points; simp; omega
theorem gt_snoc (l : List Int) (x : Int) (j : Nat) : gt (l ++ [x]) j = if j = l.length then x else gt l j := by
  unfold gt
  simp only [List.getD_eq_getElem?_getD]
  rcases Nat.lt_trichotomy j l.length with h | h | h
  · rw [List.getElem?_append_left h, if_neg (by omega)]
  · subst h; simp
  · rw [if_neg (by omega), List.getElem?_append_right (by omega)]
    rw [List.getElem?_eq_none (by simp; omega), List.getElem?_eq_none (by omega)]
theorem headsTo_mono (g : TGeom) (L : List TZone) {m : Nat} : ∀ n, (headsTo g L m).length ≤ (headsTo g L (m + n)).length
  | 0 => Nat.le_refl _
  | n + 1 => by
    rw [show m + (n + 1) = (m + n) + 1 by omega, headsTo_succ, List.length_append]
    have := headsTo_mono g L (m := m) n
    omega
theorem headsTo_le (g : TGeom) (L : List TZone) : ∀ n, (headsTo g L n).length ≤ n
  | 0 => by simp [headsTo]
  | n + 1 => by
    rw [headsTo_succ, List.length_append]
    have := headsTo_le g L n
    have : (headOf g L n).length ≤ 1 := by unfold headOf; split <;> simp
    omega
def h3 (K : List Int) : A3 := ⟨gt K 0, gt K 1, gt K 2⟩
theorem h3_put (K : List Int) (hk : K.length < 3) (v : Int) : A3.put (h3 K) (K.length : Int) v = h3 (K ++ [v]) := by
  unfold A3.put h3
  simp only [gt_snoc]
  congr 1
  · by_cases h : K.length = 0
    · simp [h]
    · rw [if_neg (by omega), if_neg (by omega)]
  · by_cases h : K.length = 1
    · simp [h]
    · rw [if_neg (by omega), if_neg (by omega)]
  · by_cases h : K.length = 2
    · simp [h]
    · rw [if_neg (by omega), if_neg (by omega)]
theorem h3_put' (K : List Int) (hk : 3 ≤ K.length) (v : Int) : h3 (K ++ [v]) = h3 K := by
  unfold h3
  simp only [gt_snoc]
  rw [if_neg (by omega), if_neg (by omega), if_neg (by omega)]

def openF (g : TGeom) (L : List TZone) : TPool × Bool := if (headsTo g L L.length).length ≤ 3 then (⟨points g L L.length, h3 (headsTo g L L.length)⟩, true) else (⟨[], ⟨0, 0, 0⟩⟩, false)

theorem pool_Open (g : TGeom) (l : List TZone) (hg : Geo g) (hz : RightZ g l) : m_pool_Open g l = some (openF g (l.drop g.Conv.toNat)) := by
  have hc := hg.c; have hcs := hg.cs; have hss := hg.s
  have hlen := hz.len
  unfold m_pool_Open
  rw [show from? l g.Conv = some (l.drop g.Conv.toNat) by unfold from?; rw [if_pos (by omega)]]
  have hL : ((l.drop g.Conv.toNat).length : Int) = g.Seq := by rw [List.length_drop]; omega
  generalize l.drop g.Conv.toNat = L at *
  simp only [bnd_some, let_eq, jn_eq]
  refine bnd_inv (G := fun x => x = some (openF g L)) (fun s : Int × Int × Int × Int × Int × (List Int) => ∃ i : Nat, i ≤ L.length ∧ (headsTo g L i).length ≤ 3 ∧ s = (((headsTo g L i).length : Int), (i : Int), gt (headsTo g L i) 0, gt (headsTo g L i) 1, gt (headsTo g L i) 2, points g L i)) (fun s => ((L.length : Int) - s.2.1).toNat)
    (fun r => match r with | .inl q => (headsTo g L L.length).length ≤ 3 ∧ q = (gt (headsTo g L L.length) 0, gt (headsTo g L L.length) 1, gt (headsTo g L L.length) 2, points g L L.length) | .inr _ => ¬ (headsTo g L L.length).length ≤ 3) ⟨0, by omega, by simp [headsTo], by simp [headsTo, points, gt]⟩ (by simp; omega) ?_ ?_
  · rintro s ⟨i, hi, hk, rfl⟩
    by_cases hi2 : i < L.length
    case neg =>
      right
      have : i = L.length := by omega
      subst this
      refine ⟨.inl _, ?_, hk, rfl⟩
      simp only [ln, clt_eq, Int.lt_irrefl, decide_false, cond_false]
    have hu : used g (gz L i) = if (gz L i).State = 3 then g.Size else (gz L i).Point := rfl
    have hho : headOf g L i = if partly g (used g (gz L i)) then [g.Conv + (i : Int)] else [] := rfl
    have hps := points_succ g L hi2
    have hhs := headsTo_succ g L i
    have hpl := points_len g L (n := i) (by omega)
    have hmo := headsTo_mono g L (m := i + 1) (L.length - (i + 1))
    rw [show i + 1 + (L.length - (i + 1)) = L.length by omega] at hmo
    simp only [ln, clt_eq, ceq_eq, cond_dec, Int.ofNat_lt, hi2, if_true, at?_gz hi2, bnd_some, show iadd (i : Int) 1 = (i : Int) + 1 from add_ok (by omega)]
    have body : ∀ n : Int, used g (gz L i) = n → Rnd (fun s : Int × Int × Int × Int × Int × (List Int) => ∃ i : Nat, i ≤ L.length ∧ (headsTo g L i).length ≤ 3 ∧ s = (((headsTo g L i).length : Int), (i : Int), gt (headsTo g L i) 0, gt (headsTo g L i) 1, gt (headsTo g L i) 2, points g L i)) (fun s => ((L.length : Int) - s.2.1).toNat) (((L.length : Int) - (i : Int)).toNat) (fun r : Sum (Int × Int × Int × (List Int)) Unit => match r with | .inl q => (headsTo g L L.length).length ≤ 3 ∧ q = (gt (headsTo g L L.length) 0, gt (headsTo g L L.length) 1, gt (headsTo g L L.length) 2, points g L L.length) | .inr _ => ¬ (headsTo g L L.length).length ≤ 3) (Bnd (app? 8 (points g L i) [n]) fun l55 => if n = 0 then some (Sum.inl (((headsTo g L i).length : Int), (i : Int) + 1, gt (headsTo g L i) 0, gt (headsTo g L i) 1, gt (headsTo g L i) 2, l55)) else if n = g.Size then some (Sum.inl (((headsTo g L i).length : Int), (i : Int) + 1, gt (headsTo g L i) 0, gt (headsTo g L i) 1, gt (headsTo g L i) 2, l55)) else if ((headsTo g L i).length : Int) = 3 then some (Sum.inr (Sum.inr ())) else Bnd (at? (A3.l (A3.mk (gt (headsTo g L i) 0) (gt (headsTo g L i) 1) (gt (headsTo g L i) 2))) ((headsTo g L i).length : Int)) fun v64 => some (Sum.inl (iadd ((headsTo g L i).length : Int) 1, (i : Int) + 1, (A3.put (A3.mk (gt (headsTo g L i) 0) (gt (headsTo g L i) 1) (gt (headsTo g L i) 2)) ((headsTo g L i).length : Int) (iadd g.Conv (i : Int))).x0, (A3.put (A3.mk (gt (headsTo g L i) 0) (gt (headsTo g L i) 1) (gt (headsTo g L i) 2)) ((headsTo g L i).length : Int) (iadd g.Conv (i : Int))).x1, (A3.put (A3.mk (gt (headsTo g L i) 0) (gt (headsTo g L i) 1) (gt (headsTo g L i) 2)) ((headsTo g L i).length : Int) (iadd g.Conv (i : Int))).x2, l55))) := by
      intro n hn
      rw [hn] at hps hho
      rw [app_ok (by rw [hpl]; simp; omega)]
      simp only [bnd_some]
      by_cases n0 : n = 0 ∨ n = g.Size
      · left
        have hh0 : headOf g L i = [] := by rw [hho, if_neg]; exact fun k => k n0
        rw [hh0, List.append_nil] at hhs
        refine ⟨(((headsTo g L i).length : Int), (i : Int) + 1, gt (headsTo g L i) 0, gt (headsTo g L i) 1, gt (headsTo g L i) 2, points g L i ++ [n]), ?_, ⟨i + 1, by omega, by rw [hhs]; exact hk, by rw [hhs, hps]; rfl⟩, by simp only; omega⟩
        rcases n0 with n0 | n0
        · rw [if_pos n0]
        · by_cases n1 : n = 0
          · rw [if_pos n1]
          · rw [if_neg n1, if_pos n0]
      · have n1 : ¬ n = 0 := fun e => n0 (.inl e)
        have n2 : ¬ n = g.Size := fun e => n0 (.inr e)
        have hh0 : headOf g L i = [g.Conv + (i : Int)] := by rw [hho, if_pos]; exact n0
        rw [hh0] at hhs
        simp only [n1, n2, if_false]
        by_cases hk3 : ((headsTo g L i).length : Int) = 3
        · right
          refine ⟨.inr (), by rw [if_pos hk3], ?_⟩
          show ¬ _
          rw [hhs, List.length_append] at hmo
          simp at hmo; omega
        · left
          rw [if_neg hk3, at?_get (by show _ < 3; omega)]
          have hput := h3_put (headsTo g L i) (by omega) (g.Conv + (i : Int))
          simp only [bnd_some, show iadd g.Conv (i : Int) = g.Conv + i from add_ok (by omega), show iadd ((headsTo g L i).length : Int) 1 = ((headsTo g L i).length : Int) + 1 from add_ok (by omega)]
          rw [show (A3.mk (gt (headsTo g L i) 0) (gt (headsTo g L i) 1) (gt (headsTo g L i) 2)) = h3 (headsTo g L i) from rfl, hput]
          refine ⟨_, rfl, ⟨i + 1, by omega, by rw [hhs, List.length_append]; simp; omega, ?_⟩, by simp only; omega⟩
          rw [hhs, hps, List.length_append]
          simp [h3]
    by_cases hst : (gz L i).State = 3
    · rw [if_pos hst]
      have hb := body g.Size (by rw [hu, if_pos hst])
      simp only [if_true] at hb
      exact hb
    · rw [if_neg hst]
      exact body _ (by rw [hu, if_neg hst])
  · rintro (q | u) hq
    · obtain ⟨h1, rfl⟩ := hq
      simp only [openF, h1, if_true]; rfl
    · simp only [openF, (show ¬ (headsTo g L L.length).length ≤ 3 from hq), if_false]

theorem ref11_Open (g : TGeom) (l : List TZone) (hg : Geo g) (hz : RightZ g l) : m_ref11_Open g l = some (openF g (l.drop g.Conv.toNat)) := by
  have hc := hg.c; have hcs := hg.cs; have hss := hg.s; have hgz := hg.z
  have hlen := hz.len
  have hL : ((l.drop g.Conv.toNat).length : Int) = g.Seq := by rw [List.length_drop]; omega
  have hgL : ∀ i : Nat, gz (l.drop g.Conv.toNat) i = gz l (g.Conv.toNat + i) := fun i => by simp [gz, List.getD_eq_getElem?_getD]
  have hpt : ∀ i : Nat, i < (l.drop g.Conv.toNat).length → 0 ≤ (gz (l.drop g.Conv.toNat) i).Point ∧ (gz (l.drop g.Conv.toNat) i).Point ≤ g.Size := fun i hi => by
    rw [hgL]; exact hz.pts _ (by omega) (by omega)
  have hat : ∀ i : Nat, i < (l.drop g.Conv.toNat).length → at? l (g.Conv + (i : Int)) = some (gz (l.drop g.Conv.toNat) i) := fun i hi => by
    rw [hgL, at?_gzI (by omega), show (g.Conv + (i : Int)).toNat = g.Conv.toNat + i by omega]
  unfold m_ref11_Open
  generalize l.drop g.Conv.toNat = L at *
  simp only [bnd_some, let_eq, jn_eq]
  refine bnd_rnd (fun x => x = some (openF g L)) (fun s : Int × Int × Int × Int × Int × (List Int) => ∃ i : Nat, i ≤ L.length ∧ s = (((headsTo g L i).length : Int), g.Conv + (i : Int), gt (headsTo g L i) 0, gt (headsTo g L i) 1, gt (headsTo g L i) 2, points g L i)) (fun s => (g.Conv + (L.length : Int) - s.2.1).toNat) (fun r : Int × Int × Int × Int × (List Int) => r = (((headsTo g L L.length).length : Int), gt (headsTo g L L.length) 0, gt (headsTo g L L.length) 1, gt (headsTo g L L.length) 2, points g L L.length)) ⟨0, by omega, by simp [headsTo, points, gt]⟩ (by simp only; omega) ?_ ?_
  · rintro s ⟨i, hi, rfl⟩
    simp only [show iadd g.Conv g.Seq = g.Conv + g.Seq from add_ok (by omega), clt_eq, ceq_eq, cgt_eq, cond_dec]
    by_cases hi2 : i < L.length
    case neg =>
      have : i = L.length := by omega
      subst this
      rw [if_neg (by omega)]
      exact rnd_r rfl
    have hu : used g (gz L i) = if (gz L i).State = 3 then g.Size else (gz L i).Point := rfl
    have hho : headOf g L i = if partly g (used g (gz L i)) then [g.Conv + (i : Int)] else [] := rfl
    have hps := points_succ g L hi2
    have hhs := headsTo_succ g L i
    have hpl := points_len g L (n := i) (by omega)
    have hle := headsTo_le g L i
    have hpti := hpt i hi2
    rw [if_pos (by omega), hat i hi2]
    simp only [bnd_some, show iadd (g.Conv + (i : Int)) 1 = g.Conv + (i : Int) + 1 from add_ok (by omega), show iadd ((headsTo g L i).length : Int) 1 = ((headsTo g L i).length : Int) + 1 from add_ok (by omega)]
    have body : ∀ n : Int, used g (gz L i) = n → 0 ≤ n → n ≤ g.Size → Rnd (fun s : Int × Int × Int × Int × Int × (List Int) => ∃ i : Nat, i ≤ L.length ∧ s = (((headsTo g L i).length : Int), g.Conv + (i : Int), gt (headsTo g L i) 0, gt (headsTo g L i) 1, gt (headsTo g L i) 2, points g L i)) (fun s => (g.Conv + (L.length : Int) - s.2.1).toNat) ((g.Conv + (L.length : Int) - (g.Conv + (i : Int))).toNat) (fun r : Int × Int × Int × Int × (List Int) => r = (((headsTo g L L.length).length : Int), gt (headsTo g L L.length) 0, gt (headsTo g L L.length) 1, gt (headsTo g L L.length) 2, points g L L.length)) (Bnd (app? 8 (points g L i) [n]) fun l51 => if 0 < n then (if n < g.Size then (if ((headsTo g L i).length : Int) < 3 then Bnd (at? (A3.l (A3.mk (gt (headsTo g L i) 0) (gt (headsTo g L i) 1) (gt (headsTo g L i) 2))) ((headsTo g L i).length : Int)) fun v60 => some (Sum.inl (((headsTo g L i).length : Int) + 1, g.Conv + (i : Int) + 1, (A3.put (A3.mk (gt (headsTo g L i) 0) (gt (headsTo g L i) 1) (gt (headsTo g L i) 2)) ((headsTo g L i).length : Int) (g.Conv + (i : Int))).x0, (A3.put (A3.mk (gt (headsTo g L i) 0) (gt (headsTo g L i) 1) (gt (headsTo g L i) 2)) ((headsTo g L i).length : Int) (g.Conv + (i : Int))).x1, (A3.put (A3.mk (gt (headsTo g L i) 0) (gt (headsTo g L i) 1) (gt (headsTo g L i) 2)) ((headsTo g L i).length : Int) (g.Conv + (i : Int))).x2, l51)) else some (Sum.inl (((headsTo g L i).length : Int) + 1, g.Conv + (i : Int) + 1, gt (headsTo g L i) 0, gt (headsTo g L i) 1, gt (headsTo g L i) 2, l51))) else some (Sum.inl (((headsTo g L i).length : Int), g.Conv + (i : Int) + 1, gt (headsTo g L i) 0, gt (headsTo g L i) 1, gt (headsTo g L i) 2, l51))) else some (Sum.inl (((headsTo g L i).length : Int), g.Conv + (i : Int) + 1, gt (headsTo g L i) 0, gt (headsTo g L i) 1, gt (headsTo g L i) 2, l51))) := by
      intro n hn hn0 hn1
      rw [hn] at hps hho
      rw [app_ok (by rw [hpl]; simp; omega)]
      simp only [bnd_some]
      have hm : (g.Conv + (L.length : Int) - (g.Conv + (i : Int) + 1)).toNat < (g.Conv + (L.length : Int) - (g.Conv + (i : Int))).toNat := by omega
      by_cases n0 : n = 0 ∨ n = g.Size
      · have hh0 : headOf g L i = [] := by rw [hho, if_neg]; exact fun k => k n0
        rw [hh0, List.append_nil] at hhs
        have fin : Rnd (fun s : Int × Int × Int × Int × Int × (List Int) => ∃ i : Nat, i ≤ L.length ∧ s = (((headsTo g L i).length : Int), g.Conv + (i : Int), gt (headsTo g L i) 0, gt (headsTo g L i) 1, gt (headsTo g L i) 2, points g L i)) (fun s => (g.Conv + (L.length : Int) - s.2.1).toNat) ((g.Conv + (L.length : Int) - (g.Conv + (i : Int))).toNat) (fun r : Int × Int × Int × Int × (List Int) => r = (((headsTo g L L.length).length : Int), gt (headsTo g L L.length) 0, gt (headsTo g L L.length) 1, gt (headsTo g L L.length) 2, points g L L.length)) (some (Sum.inl (((headsTo g L i).length : Int), g.Conv + (i : Int) + 1, gt (headsTo g L i) 0, gt (headsTo g L i) 1, gt (headsTo g L i) 2, points g L i ++ [n]))) :=
          rnd_l ⟨i + 1, by omega, by rw [hhs, hps]; simp; omega⟩ hm
        refine rnd_if (fun a => rnd_if (fun b => by omega) (fun _ => fin)) (fun _ => fin)
      · have hh0 : headOf g L i = [g.Conv + (i : Int)] := by rw [hho, if_pos]; exact n0
        rw [hh0] at hhs
        rw [if_pos (by omega), if_pos (by omega)]
        refine rnd_if (fun hk3 => ?_) (fun hk3 => ?_)
        · have hput := h3_put (headsTo g L i) (by omega) (g.Conv + (i : Int))
          rw [at?_get (by show _ < 3; omega)]
          simp only [bnd_some]
          rw [show (A3.mk (gt (headsTo g L i) 0) (gt (headsTo g L i) 1) (gt (headsTo g L i) 2)) = h3 (headsTo g L i) from rfl, hput]
          refine rnd_l ⟨i + 1, by omega, ?_⟩ hm
          rw [hhs, hps, List.length_append]
          simp [h3]; omega
        · have hput := h3_put' (headsTo g L i) (by omega) (g.Conv + (i : Int))
          refine rnd_l ⟨i + 1, by omega, ?_⟩ hm
          rw [hhs, hps, List.length_append]
          simp only [h3, A3.mk.injEq] at hput
          rw [hput.1, hput.2.1, hput.2.2]
          simp; omega
    by_cases hst : (gz L i).State = 3
    · rw [if_pos hst]
      have hb := body g.Size (by rw [hu, if_pos hst]) (by omega) (by omega)
      simp only [Int.lt_irrefl, if_false, show iadd ((headsTo g L i).length : Int) 1 = ((headsTo g L i).length : Int) + 1 from add_ok (by omega)] at hb ⊢
      exact hb
    · rw [if_neg hst]
      exact body _ (by rw [hu, if_neg hst]) hpti.1 hpti.2
  · rintro r rfl
    simp only [cgt_eq, cond_dec, openF]
    by_cases hk : (headsTo g L L.length).length ≤ 3
    · rw [if_neg (by omega), if_pos hk]; rfl
    · rw [if_pos (by omega), if_neg hk]

theorem headsTo_lt (g : TGeom) (L : List TZone) : ∀ n z, z ∈ headsTo g L n → z < g.Conv + (n : Int)
  | 0, z, h => by simp [headsTo] at h
  | n + 1, z, h => by
    rw [headsTo_succ, List.mem_append] at h
    rcases h with h | h
    · have := headsTo_lt g L n z h; omega
    · unfold headOf at h
      split at h
      · simp at h; omega
      · simp at h
theorem headsTo_rise (g : TGeom) (L : List TZone) : ∀ n, (headsTo g L n).Pairwise (· < ·)
  | 0 => by simp [headsTo]
  | n + 1 => by
    rw [headsTo_succ, List.pairwise_append]
    refine ⟨headsTo_rise g L n, ?_, ?_⟩
    · unfold headOf; split <;> simp
    · intro a ha b hb
      have := headsTo_lt g L n a ha
      unfold headOf at hb
      split at hb
      · simp at hb; omega
      · simp at hb
theorem mem_headsTo {g : TGeom} {L : List TZone} {n : Nat} {z : Int} : z ∈ headsTo g L n ↔ ∃ i : Nat, i < n ∧ partly g (used g (gz L i)) ∧ z = g.Conv + i := by
  unfold headsTo headOf
  simp only [List.mem_flatMap, List.mem_range]
  constructor
  · rintro ⟨i, hi, hz⟩
    split at hz
    · rename_i h
      exact ⟨i, hi, h, by simpa using hz⟩
    · simp at hz
  · rintro ⟨i, hi, h1, rfl⟩
    exact ⟨i, hi, by rw [if_pos h1]; simp⟩
theorem gt_points {g : TGeom} {L : List TZone} {i : Nat} (h : i < L.length) : gt (points g L L.length) i = used g (gz L i) := by
  rw [gt_eq (by rw [points_len g L (Nat.le_refl _)]; exact h)]
  simp [points, gz_eq h]

theorem open_right {g : TGeom} {L : List TZone} (hg : Geo g) (hL : (L.length : Int) = g.Seq) (hpt : ∀ i : Nat, i < L.length → 0 ≤ (gz L i).Point ∧ (gz L i).Point ≤ g.Size) (hk : (headsTo g L L.length).length ≤ 3) : RightQ g ⟨points g L L.length, h3 (headsTo g L L.length)⟩ := by
  have hc := hg.c; have hgz := hg.z
  have hul : ∀ i : Nat, i < L.length → 0 ≤ used g (gz L i) ∧ used g (gz L i) ≤ g.Size := fun i hi => by
    unfold used; have := hpt i hi; split <;> omega
  have hhd : ∀ i, i < 3 → gt (h3 (headsTo g L L.length)).l i = gt (headsTo g L L.length) i := fun i hi => by
    match i, hi with
    | 0, _ => rfl
    | 1, _ => rfl
    | 2, _ => rfl
  have hbig : ∀ i, ¬ i < (headsTo g L L.length).length → gt (headsTo g L L.length) i = 0 := fun i hi => by
    simp [gt, List.getD_eq_getElem?_getD, List.getElem?_eq_none (show (headsTo g L L.length).length ≤ i by omega)]
  refine ⟨by simp only [points_len g L (Nat.le_refl _)]; exact hL, fun i hi h0 => ?_, fun i hi => ?_⟩
  · unfold hd at h0 ⊢
    simp only [hhd i hi] at h0 ⊢
    by_cases hil : i < (headsTo g L L.length).length
    case neg => exact absurd (hbig i hil) h0
    obtain ⟨k, hk1, hk2, hk3⟩ := mem_headsTo.1 (by rw [gt_eq hil]; exact List.getElem_mem hil : gt (headsTo g L L.length) i ∈ headsTo g L L.length)
    rw [hk3]
    refine ⟨⟨by omega, by simp only [points_len g L (Nat.le_refl _)]; omega⟩, ?_, fun j hj => ?_⟩
    · unfold pt
      simp only
      rw [show (g.Conv + (k : Int) - g.Conv).toNat = k by omega, gt_points hk1]
      have := hul k hk1
      unfold partly at hk2
      rcases Int.lt_or_le (used g (gz L k)) g.Size with h | h
      · exact h
      · exact absurd (.inr (by omega)) hk2
    · simp only [hhd j (by omega)]
      rw [← hk3, gt_eq hil, gt_eq (show j < (headsTo g L L.length).length by omega)]
      have := List.pairwise_iff_getElem.1 (headsTo_rise g L L.length) j i (by omega) hil hj
      omega
  · simp only [points_len g L (Nat.le_refl _)] at hi
    simp only [gt_points hi]
    refine ⟨(hul i hi).1, (hul i hi).2, fun h1 h2 => ?_⟩
    have hm : g.Conv + (i : Int) ∈ headsTo g L L.length := mem_headsTo.2 ⟨i, hi, by unfold partly; omega, rfl⟩
    obtain ⟨j, hj, e⟩ := List.mem_iff_getElem.1 hm
    refine ⟨j, by omega, ?_⟩
    unfold hd
    simp only [hhd j (by omega)]
    rw [gt_eq hj]; exact e

theorem law_PoolOpens (x0 : TGeom) (x1 : List TZone) (w0 : BGeom x0) (w1 : (∀ x ∈ x1, BZone x) ∧ x1.length ≤ maxLen) : m_law11_PoolOpens x0 x1 = some true := by
  unfold m_law11_PoolOpens
  simp only [jn_eq, let_eq, awake11, bnd_some, Bool.not_true, cond_false]
  obtain ⟨b, hb, hg⟩ := ref03_Right x0 w0
  rw [hb]
  cases b with
  | false => rfl
  | true =>
    have hg := hg rfl
    obtain ⟨r2, h2, k2⟩ := ref04_Right x0 x1 hg
    simp only [bnd_some, h2, Bool.not_true, cond_false]
    cases r2 with
    | false => rfl
    | true =>
      have hz := k2 rfl
      have hc := hg.c; have hcs := hg.cs; have hss := hg.s
      have hlen := hz.len
      simp only [Bool.not_true, cond_false, bnd_some, pool_Open x0 x1 hg hz, ref11_Open x0 x1 hg hz]
      have hL : ((x1.drop x0.Conv.toNat).length : Int) = x0.Seq := by rw [List.length_drop]; omega
      have hgL : ∀ i : Nat, gz (x1.drop x0.Conv.toNat) i = gz x1 (x0.Conv.toNat + i) := fun i => by simp [gz, List.getD_eq_getElem?_getD]
      have hpt : ∀ i : Nat, i < (x1.drop x0.Conv.toNat).length → 0 ≤ (gz (x1.drop x0.Conv.toNat) i).Point ∧ (gz (x1.drop x0.Conv.toNat) i).Point ≤ x0.Size := fun i hi => by
        rw [hgL]; exact hz.pts _ (by omega) (by omega)
      generalize x1.drop x0.Conv.toNat = L at *
      by_cases hk : (headsTo x0 L L.length).length ≤ 3
      · simp only [openF, hk, if_true]
        rw [ref11_Same _ (by simp only [points_len x0 L (Nat.le_refl _)]; omega)]
        obtain ⟨b, hb, hbr⟩ := pool_Right x0 ⟨points x0 L L.length, h3 (headsTo x0 L L.length)⟩ hg
        rw [hb, hbr.2 ((rightQ hg).2 (open_right hg hL hpt hk))]
        rfl
      · simp only [openF, hk, if_false]
        rw [ref11_Same _ (by simp)]
        rfl
end Go.AX
