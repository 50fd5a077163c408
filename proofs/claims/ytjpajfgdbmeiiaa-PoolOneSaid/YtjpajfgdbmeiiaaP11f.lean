/- Chapter 11: whatever steps and resets. -/
import Derived.Test.YtjpajfgdbmeiiaaP11e
namespace Go.AX
set_option autoImplicit false
set_option linter.unusedVariables false
set_option linter.unusedSimpArgs false

def newF (g : TGeom) : List TZone := List.replicate g.Conv.toNat ⟨4, 0⟩ ++ List.replicate g.Seq.toNat ⟨0, 0⟩

theorem ref04_New (g : TGeom) (hg : Geo g) : m_ref04_New g = some (newF g) := by
  have hc := hg.c; have hcs := hg.cs; have hss := hg.s
  have hlen : (newF g).length = g.Conv.toNat + g.Seq.toNat := by simp [newF]
  unfold m_ref04_New
  refine bnd_run (fun i => ((i : Int), (newF g).take i)) (newF g).length (newF g) (by omega) rfl ?_ ?_ rfl
  · intro i hi
    have htl : ((newF g).take i).length = i := by simp; omega
    have hts : (newF g).take (i + 1) = (newF g).take i ++ [gz (newF g) i] := by rw [List.take_add_one, List.getElem?_eq_getElem hi, gz_eq hi]; rfl
    have hv : gz (newF g) i = if (i : Int) < g.Conv then ⟨4, 0⟩ else ⟨0, 0⟩ := by
      unfold gz newF
      rw [List.getD_eq_getElem?_getD, List.getElem?_append, List.length_replicate]
      by_cases h : (i : Int) < g.Conv
      · rw [if_pos (show i < g.Conv.toNat by omega), if_pos h, List.getElem?_replicate, if_pos (by omega)]; rfl
      · rw [if_neg (show ¬ i < g.Conv.toNat by omega), if_neg h, List.getElem?_replicate, if_pos (by omega)]; rfl
    simp only [let_eq, clt_eq, cond_dec, show iadd g.Conv g.Seq = g.Conv + g.Seq from add_ok (by omega), show iadd (i : Int) 1 = (i : Int) + 1 from add_ok (by omega)]
    rw [if_pos (by omega), hts, hv, app_ok (by rw [htl]; simp; omega), app_ok (by rw [htl]; simp; omega)]
    by_cases h : (i : Int) < g.Conv
    · simp [h]
    · simp [h]
  · simp only [let_eq, clt_eq, cond_dec, show iadd g.Conv g.Seq = g.Conv + g.Seq from add_ok (by omega)]
    rw [if_neg (by omega), List.take_of_length_le (by omega)]

theorem new_right (g : TGeom) (hg : Geo g) : RightZ g (newF g) := by
  have hc := hg.c; have hcs := hg.cs; have hss := hg.s; have hgz := hg.z
  refine ⟨by simp [newF]; omega, fun i h1 h2 => ?_⟩
  have : (gz (newF g) i).Point = 0 := by
    unfold gz newF
    have hl : (newF g).length = g.Conv.toNat + g.Seq.toNat := by simp [newF]
    rw [List.getD_eq_getElem?_getD, List.getElem?_append, List.length_replicate, if_neg (show ¬ i < g.Conv.toNat by omega), List.getElem?_replicate, if_pos (by omega)]; rfl
  omega

theorem open_new (g : TGeom) (hg : Geo g) : openF g ((newF g).drop g.Conv.toNat) = (⟨List.replicate g.Seq.toNat 0, ⟨0, 0, 0⟩⟩, true) := by
  have hd : (newF g).drop g.Conv.toNat = List.replicate g.Seq.toNat ⟨0, 0⟩ := by simp [newF]
  rw [hd]
  have hh : ∀ n, n ≤ g.Seq.toNat → headsTo g (List.replicate g.Seq.toNat ⟨0, 0⟩) n = [] := by
    intro n
    induction n with
    | zero => intro _; simp [headsTo]
    | succ n ih =>
      intro hn
      rw [headsTo_succ, ih (by omega)]
      have : gz (List.replicate g.Seq.toNat (⟨0, 0⟩ : TZone)) n = ⟨0, 0⟩ := by rw [gz_eq (by simp; omega)]; simp
      simp [headOf, this, used, partly]
  have h0 := hh g.Seq.toNat (Nat.le_refl _)
  unfold openF
  simp only [List.length_replicate, h0]
  rw [if_pos (by simp)]
  simp [points, used, h3, gt]

theorem rem4 {a : Int} (h : 0 ≤ a ∧ a < 256) : ∃ k : Nat, k < 4 ∧ IntKind.wrap .i64 (binI .rem .u8 a 4) = (k : Int) := by
  refine ⟨(a % 4).toNat, by omega, ?_⟩
  show IntKind.wrap .i64 (a.tmod 4) = _
  rw [Int.tmod_eq_emod_of_nonneg h.1, IntKind.wrap_i64]; omega

/-- What is told of each zone is its point. -/
def Nexts (g : TGeom) (q : TPool) (A : Ar 64) : Prop := ∀ z, has g q z → gt A.l z.toNat = pt g q z

theorem nexts_put {g : TGeom} {q q' : TPool} {A : Ar 64} {z v : Int} (hg : Geo g) (hl : (q.Points.length : Int) = g.Seq) (hz : has g q z) (hn : Nexts g q A) (hh : ∀ x, has g q' x ↔ has g q x) (hv : pt g q' z = v) (ho : ∀ x, has g q x → x ≠ z → pt g q' x = pt g q x) : Nexts g q' (A.put z v) := by
  have hc := hg.c; have hcs := hg.cs
  intro x hx
  have hx' := (hh x).1 hx
  have h1 := hx'
  unfold has at hz h1
  have hA := A.h
  show gt (A.l.set z.toNat v) x.toNat = _
  by_cases e : x = z
  · subst e
    rw [gt_set (by omega), hv]
  · rw [gt_set_ne (by omega), ho x hx' e]; exact hn x hx'

theorem at?_nexts {g : TGeom} {q : TPool} {A : Ar 64} (hg : Geo g) (hl : (q.Points.length : Int) = g.Seq) (hn : Nexts g q A) {z : Int} (hz : has g q z) : at? A.l z = some (pt g q z) := by
  have hc := hg.c; have hcs := hg.cs; have hA := A.h
  have h1 := hz
  unfold has at h1
  rw [at?_getI (by omega), hn z hz]

theorem law_PoolOne (x0 : TGeom) (x1 : List TLaw11_Act) (w0 : BGeom x0) (w1 : (∀ x ∈ x1, BLaw11_Act x) ∧ x1.length ≤ maxLen) : m_law11_PoolOne x0 x1 = some true := by
  unfold m_law11_PoolOne
  simp only [jn_eq, let_eq, awake11, bnd_some, Bool.not_true, cond_false]
  obtain ⟨b, hb, hg⟩ := ref03_Right x0 w0
  rw [hb]
  cases b with
  | false => rfl
  | true =>
    have hg := hg rfl
    have hc := hg.c; have hcs := hg.cs; have hss := hg.s; have hgz := hg.z
    simp only [Bool.not_true, cond_false, bnd_some, cgt_eq, ln]
    by_cases hbig : 400 < (x1.length : Int)
    · simp [hbig]
    simp only [hbig, decide_false, cond_false, ref04_New x0 hg, pool_Open x0 _ hg (new_right x0 hg), open_new x0 hg, bnd_some, Bool.not_true]
    refine bnd_rnd (fun x => x = some true) (fun t : Int × Int × Int × Int × (Ar 64) × (List Int) => ∃ q : TPool, RightQ x0 q ∧ Nexts x0 q t.2.2.2.2.1 ∧ t.2.1 = q.Heads.x0 ∧ t.2.2.1 = q.Heads.x1 ∧ t.2.2.2.1 = q.Heads.x2 ∧ t.2.2.2.2.2 = q.Points ∧ 0 ≤ t.1 ∧ t.1 ≤ x1.length) (fun t => ((x1.length : Int) - t.1).toNat)
      (fun r => match r with | .inl _ => True | .inr _ => False) ⟨⟨List.replicate x0.Seq.toNat 0, ⟨0, 0, 0⟩⟩, ?_, ?_, rfl, rfl, rfl, rfl, by simp, by simp⟩ (by simp; omega) ?_ ?_
    · have ho := open_new x0 hg
      have hrz := new_right x0 hg
      have hL : (((newF x0).drop x0.Conv.toNat).length : Int) = x0.Seq := by simp [newF]; omega
      have hr := open_right (L := (newF x0).drop x0.Conv.toNat) hg hL (fun i hi => by
        have : gz ((newF x0).drop x0.Conv.toNat) i = gz (newF x0) (x0.Conv.toNat + i) := by simp [gz, List.getD_eq_getElem?_getD]
        rw [this]
        exact hrz.pts _ (by omega) (by have := hrz.len; omega))
      unfold openF at ho
      by_cases hk : (headsTo x0 ((newF x0).drop x0.Conv.toNat) ((newF x0).drop x0.Conv.toNat).length).length ≤ 3
      · rw [if_pos hk] at ho
        have := hr hk
        rw [Prod.mk.inj ho |>.1] at this
        exact this
      · rw [if_neg hk] at ho
        exact absurd (congrArg Prod.snd ho) (by simp)
    · intro z hz
      have h1 := hz
      unfold has at h1
      simp only [List.length_replicate] at h1
      unfold pt
      rw [gt_eq (show (z - x0.Conv).toNat < (List.replicate x0.Seq.toNat (0 : Int)).length by simp; omega)]
      simp only [List.getElem_replicate]
      show gt (List.replicate 64 0) z.toNat = 0
      unfold gt
      rw [List.getD_eq_getElem?_getD, List.getElem?_replicate]
      split <;> rfl
    · rintro ⟨i, a0, a1, a2, A, P⟩ ⟨q, hq, hn, e0, e1, e2, e3, hi0, hi1⟩
      simp only at hn e0 e1 e2 e3 hi0 hi1
      subst e0 e1 e2 e3
      have hqp := (rightQ hg).2 hq
      have hlq := hq.len
      have hql := hqp.len' hg
      simp only [clt_eq, cond_dec]
      by_cases hi : i < (x1.length : Int)
      case neg => rw [if_neg hi]; exact rnd_r trivial
      have hmem : ∃ y, at? x1 i = some y ∧ BLaw11_Act y := by
        have hlt : i.toNat < x1.length := by omega
        exact ⟨x1[i.toNat], at?_ok hi0 (List.getElem?_eq_getElem hlt), w1.1 _ (List.getElem_mem hlt)⟩
      obtain ⟨y, hy, hyb⟩ := hmem
      obtain ⟨k, hk, ek⟩ := rem4 (wf_u8 hyb.1)
      have hz8 := wf_u8 hyb.2
      have hm : ((x1.length : Int) - (i + 1)).toNat < ((x1.length : Int) - i).toNat := by omega
      rw [if_pos hi, hy]
      simp only [bnd_some, show nz? 4 = some () from rfl, ek, ceq_eq, cge_eq, cne_eq, cond_dec, show iadd i 1 = i + 1 from add_ok (by omega), show (TPool.mk q.Points (A3.mk q.Heads.x0 q.Heads.x1 q.Heads.x2)) = q from rfl]
      -- what comes of whatever pool is right
      have fin : ∀ (q' : TPool) (A' : Ar 64), RightQ x0 q' → Nexts x0 q' A' →
          Rnd (fun t : Int × Int × Int × Int × (Ar 64) × (List Int) => ∃ q : TPool, RightQ x0 q ∧ Nexts x0 q t.2.2.2.2.1 ∧ t.2.1 = q.Heads.x0 ∧ t.2.2.1 = q.Heads.x1 ∧ t.2.2.2.1 = q.Heads.x2 ∧ t.2.2.2.2.2 = q.Points ∧ 0 ≤ t.1 ∧ t.1 ≤ x1.length) (fun t => ((x1.length : Int) - t.1).toNat) (((x1.length : Int) - i).toNat) (fun r : Sum Unit Unit => match r with | .inl _ => True | .inr _ => False)
            (Bnd (m_pool_Right x0 q') fun r76 => bif !r76 then some (Sum.inr (Sum.inr ())) else some (Sum.inl (i + 1, q'.Heads.x0, q'.Heads.x1, q'.Heads.x2, A', q'.Points))) := by
        intro q' A' hq' hn'
        obtain ⟨b, hb, hbr⟩ := pool_Right x0 q' hg
        rw [hb, hbr.2 ((rightQ hg).2 hq')]
        exact rnd_l ⟨q', hq', hn', rfl, rfl, rfl, rfl, by simp only; omega, by simp only; omega⟩ hm
      by_cases hk3 : k = 3
      · subst hk3
        have hzone : ∃ r : Int, binI .rem .i64 (IntKind.wrap .i64 y.Zone) x0.Seq = r ∧ 0 ≤ r ∧ r < x0.Seq := by
          refine ⟨_, rfl, ?_⟩
          rw [IntKind.wrap_i64]
          show 0 ≤ Int.tmod _ _ ∧ Int.tmod _ _ < _
          rw [Int.tmod_eq_emod_of_nonneg (by omega)]
          exact ⟨Int.emod_nonneg _ (by omega), Int.emod_lt_of_pos _ (by omega)⟩
        obtain ⟨r, hr, hr0, hr1⟩ := hzone
        rw [if_pos (by rfl), show nz? x0.Seq = some () by unfold nz?; rw [if_neg (by omega)]]
        simp only [bnd_some, hr, show iadd x0.Conv r = x0.Conv + r from add_ok (by omega), pool_Reset x0 q hg hqp]
        have hh : has x0 q (x0.Conv + r) := ⟨by omega, by omega⟩
        rw [at?_nexts hg hlq hn hh]
        simp only [bnd_some]
        by_cases hf : isFull x0 q (x0.Conv + r)
        · rw [if_pos hf]
          simp only [hf.2, decide_true, beq_self_eq_true, Bool.not_true, cond_false, cond_true]
          refine fin (resetF x0 q (x0.Conv + r)) (A.put (x0.Conv + r) 0) (reset_right hg hq hf) (nexts_put hg hlq hh hn (fun x => by unfold has resetF; simp) ?_ ?_)
          · unfold pt resetF has at *; simp only; rw [gt_set (by omega)]
          · intro x hx hne
            unfold pt resetF has at *; simp only; rw [gt_set_ne (by omega)]
        · have hpe : ¬ pt x0 q (x0.Conv + r) = x0.Size := fun e => hf ⟨hh, e⟩
          rw [if_neg hf]
          simp only [hpe, decide_false, beq_self_eq_true, Bool.not_true, cond_false]
          exact fin q A hq hn
      · have hks : k < 3 := by omega
        rw [if_neg (by omega), pool_Step x0 q hg hqp hks]
        simp only [bnd_some]
        cases hz : stepZ x0 q k with
        | none =>
          simp only [stepF, hz, cond_false]
          exact fin q A hq hn
        | some z =>
          obtain ⟨z1, z2, z3⟩ := stepZ_has hqp hg hks hz
          have h1 := z1
          unfold has at h1
          simp only [stepF, hz, cond_true, at?_nexts hg hlq hn z1, bnd_some, show iadd x0.Conv x0.Seq = x0.Conv + x0.Seq from add_ok (by omega), ne_eq, not_true_eq_false, if_false, show iadd (pt x0 q z) 1 = pt x0 q z + 1 from add_ok (by omega)]
          rw [if_neg (by omega), if_neg (by omega)]
          exact fin (stepped x0 q k z) (A.put z (pt x0 q z + 1)) (stepped_right hg hq hks hz) (nexts_put hg hlq z1 hn (fun x => by unfold has; rw [stepped_len]) (by rw [pt_stepped k z1 z1, if_pos rfl]) (fun x hx hne => by rw [pt_stepped k z1 hx, if_neg hne]))
    · rintro (u | u) hu
      · rfl
      · exact hu.elim
end Go.AX
