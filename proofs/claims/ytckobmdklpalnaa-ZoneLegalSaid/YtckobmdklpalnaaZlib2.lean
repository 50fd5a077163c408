/- What chapter 4's acts make of right zones: the program's and the document's answer are one; they stay right. -/
import Derived.Test.YtckobmdklpalnaaZlib
namespace Go.Proofs.Ytckobmdklpalnaa.Pure
open Go.RowKit Go.Proofs.Ytckobmdklpalnaa.P04 Go.Proofs.YtckobmdklpalnaaW.PrintWords Go.Proofs.YtckobmdklpalnaaW.PrintLast Go.Proofs.YtckobmdklpalnaaW.PrintMore
set_option linter.unusedVariables false
set_option linter.unusedSimpArgs false
def newZ (c q : Int) : List S36 := List.replicate c.toNat ⟨4, 0⟩ ++ List.replicate q.toNat ⟨0, 0⟩
theorem new_loop (c q : Int) (hc : 0 ≤ c ∧ c ≤ 64) (hq : 0 ≤ q ∧ q ≤ 64) (d : Nat) : ∀ (k : Nat) (i : Int), 0 ≤ i → i ≤ c → c - i = d → d < k →
    zone_New.l0 k (List.replicate i.toNat (⟨4, 0⟩ : S36) ++ List.replicate (c + q - i).toNat ⟨0, 0⟩) c i = some (newZ c q) := by
  induction d with
  | zero =>
    intro k i h5 h6 hd hk
    obtain ⟨k, rfl⟩ : ∃ m, k = m + 1 := ⟨k - 1, by omega⟩
    obtain rfl : i = c := by omega
    simp only [zone_New.l0]
    rw [if_neg (by omega), show i + q - i = q by omega]
    rfl
  | succ d ih =>
    intro k i h5 h6 hd hk
    obtain ⟨k, rfl⟩ : ∃ m, k = m + 1 := ⟨k - 1, by omega⟩
    simp only [zone_New.l0]
    have hlen : (List.replicate i.toNat (⟨4, 0⟩ : S36) ++ List.replicate (c + q - i).toNat (⟨0, 0⟩ : S36)).length = (c + q).toNat := by simp; omega
    rw [if_pos (by omega), if_pos h5, if_pos (by rw [hlen]; omega), w64b (i + 1) (by omega) (by omega)]
    have e0 : (rd_T36 (List.replicate i.toNat (⟨4, 0⟩ : S36) ++ List.replicate (c + q - i).toNat ⟨0, 0⟩) i) = ⟨0, 0⟩ := by
      rw [rd_at h5 (by rw [hlen]; omega), List.getElem_append_right (by simp)]
      simp
    rw [e0]
    have next := ih k (i + 1) (by omega) (by omega) (by omega) (by omega)
    rw [← next]
    congr 1
    rw [List.set_append_right _ _ (by simp), show (c + q - i).toNat = (c + q - (i + 1)).toNat + 1 by omega, List.replicate_succ, show (i + 1).toNat = i.toNat + 1 by omega, List.replicate_succ']
    simp
theorem new_is {c s q z o : Int} (h : Rt c s q z o) (k : Nat) (hk : 100 ≤ k) : zone_New.f k c s q z o = some (newZ c q) := by
  unfold Rt at h
  unfold zone_New.f
  rw [gzones s z o (by omega) (by omega)]
  simp only [Option.bind_some]
  rw [if_pos (by omega), if_pos (by omega)]
  have := new_loop c q (by omega) (by omega) c.toNat k 0 (by omega) (by omega) (by omega) (by omega)
  simpa [z36] using this
theorem rnew_loop (c s q z o : Int) (hc : 0 ≤ c ∧ c ≤ 64) (hq : 0 ≤ q ∧ q ≤ 64) (d : Nat) : ∀ (k : Nat) (i : Int), 0 ≤ i → i ≤ c + q → c + q - i = d → d < k →
    windrowref04_New.l0 k ((newZ c q).take i.toNat) i c s q z o = some (newZ c q) := by
  have hlen : (newZ c q).length = (c + q).toNat := by unfold newZ; simp; omega
  induction d with
  | zero =>
    intro k i h5 h6 hd hk
    obtain ⟨k, rfl⟩ : ∃ m, k = m + 1 := ⟨k - 1, by omega⟩
    simp only [windrowref04_New.l0]
    rw [w64b (c + q) (by omega) (by omega), if_neg (by omega), List.take_of_length_le (by omega)]
  | succ d ih =>
    intro k i h5 h6 hd hk
    obtain ⟨k, rfl⟩ : ∃ m, k = m + 1 := ⟨k - 1, by omega⟩
    simp only [windrowref04_New.l0]
    have next := ih k (i + 1) (by omega) (by omega) (by omega) (by omega)
    rw [show (i + 1).toNat = i.toNat + 1 by omega, List.take_succ_eq_append_getElem (by omega)] at next
    have hl : ((newZ c q).take i.toNat).length < 8796093022208 := by rw [List.length_take]; omega
    rw [w64b (c + q) (by omega) (by omega), if_pos (by omega), w64b (i + 1) (by omega) (by omega), if_pos hl, if_pos hl]
    by_cases a : i < c
    · rw [if_pos a]
      rw [show (newZ c q)[i.toNat]'(by omega) = ⟨4, 0⟩ by unfold newZ; rw [List.getElem_append_left (by simp; omega)]; simp] at next
      exact next
    · rw [if_neg a]
      rw [show (newZ c q)[i.toNat]'(by omega) = ⟨0, 0⟩ by unfold newZ; rw [List.getElem_append_right (by simp; omega)]; simp] at next
      exact next
theorem rnew_is {c s q z o : Int} (h : Rt c s q z o) (k : Nat) (hk : 200 ≤ k) : windrowref04_New.f k c s q z o = some (newZ c q) := by
  unfold Rt at h
  have := rnew_loop c s q z o (by omega) (by omega) (c + q).toNat k 0 (by omega) (by omega) (by omega) (by omega)
  simpa [windrowref04_New.f] using this
/-! #### sectors -/
def gsec (c s q z a : Int) : Int := if a < 0 ∨ a ≥ c + q then 0 else if a < c then s else z
theorem sec_is {c s q z o : Int} (h : Rt c s q z o) (a : Int) (k : Nat) (hk : 1 ≤ k) : geom_Sectors.f k c s q z o a = some (gsec c s q z a) := by
  unfold Rt at h
  obtain ⟨k, rfl⟩ : ∃ m, k = m + 1 := ⟨k - 1, by omega⟩
  unfold geom_Sectors.f gsec
  rw [gzones s z o (by omega) (by omega)]
  simp only [Option.bind_some, geom_Sectors.j0, if_true]
  by_cases a0 : a < 0
  · rw [if_pos a0, if_pos (.inl a0)]
  · rw [if_neg a0]
    by_cases a1 : a ≥ c + q
    · rw [if_pos (by simpa using a1), if_pos (.inr a1)]
    · rw [if_neg (by simpa using a1), if_neg (show ¬ (a < 0 ∨ a ≥ c + q) by omega)]
      by_cases a2 : a < c
      · rw [if_pos a2, if_pos a2]
      · rw [if_neg a2, if_neg a2]
theorem rsec_is {c s q z o : Int} (h : Rt c s q z o) (a : Int) (k : Nat) (hk : 1 ≤ k) : windrowref03_Sectors.f k c s q z o a = some (gsec c s q z a) := by
  unfold Rt at h
  obtain ⟨k, rfl⟩ : ∃ m, k = m + 1 := ⟨k - 1, by omega⟩
  unfold windrowref03_Sectors.f gsec
  rw [w64b (c + q) (by omega) (by omega)]
  simp only [windrowref03_Sectors.j0, if_true]
  by_cases a0 : a < 0
  · rw [if_pos a0, if_pos (.inl a0)]
  · rw [if_neg a0]
    by_cases a1 : a ≥ c + q
    · rw [if_pos (by simpa using a1), if_pos (.inr a1)]
    · rw [if_neg (by simpa using a1), if_neg (show ¬ (a < 0 ∨ a ≥ c + q) by omega)]
      by_cases a2 : a < c
      · rw [if_pos a2, if_pos a2]
      · rw [if_neg a2, if_neg a2]
/-- A sector of a zone's is there. -/
def Th (c s q z a b : Int) : Prop := 0 ≤ b ∧ b < gsec c s q z a
instance (c s q z a b : Int) : Decidable (Th c s q z a b) := by unfold Th; exact inferInstance
theorem there_is {c s q z o : Int} (h : Rt c s q z o) (a b : Int) (k : Nat) (hk : 1 ≤ k) : zone_there.f k c s q z o a b = some (decide (Th c s q z a b)) := by
  unfold zone_there.f
  rw [sec_is h a k hk]
  simp only [Option.bind_some]
  by_cases e : b ≥ 0
  · rw [if_pos e]; congr 1; exact bdec (by rw [decide_eq_true_iff]; unfold Th; omega)
  · rw [if_neg e]; congr 1; exact bdec (by simp only [Bool.false_eq_true, false_iff]; unfold Th; omega)
theorem seq_is {c s q z o : Int} (h : Rt c s q z o) (a : Int) (k : Nat) (hk : 1 ≤ k) : zone_sequential.f k c s q z o a = some (if gsec c s q z a = 0 then 6 else if a < c then 3 else 0) := by
  unfold zone_sequential.f
  rw [sec_is h a k hk]
  simp only [Option.bind_some]
  split
  · rfl
  · split <;> rfl
theorem clone_is {l : List S36} (h : l.length < 8796093022208) : api_Zone.f l = some l := by unfold api_Zone.f; rw [if_pos h]
/-- What is asked, and what comes of it. -/
def wZ (c s q z o : Int) (l : List S36) (a b : Int) : List S36 × Int :=
  if ¬ Th c s q z a b then (l, 6) else if a < c then (l, 0) else if (rd_T36 l a).f0 = 3 then (l, 3) else if ¬ b = (rd_T36 l a).f1 then (l, 4)
  else if ¬ (rd_T36 l a).f0 = 1 ∧ cnt l ≥ o then (l, 5) else (l.set a.toNat ⟨if (rd_T36 l a).f1 + 1 = z then 3 else 1, (rd_T36 l a).f1 + 1⟩, 0)
def rZ (c s q z : Int) (l : List S36) (a b : Int) : List S36 × Int :=
  if ¬ Th c s q z a b then (l, 6) else if a < c then (l, 0) else (l, if b < (rd_T36 l a).f1 then 0 else 4)
def zZ (c s q z : Int) (l : List S36) (a : Int) (x : List S36 × Int) : List S36 × Int :=
  if gsec c s q z a = 0 then (l, 6) else if a < c then (l, 3) else x
def finZ (l : List S36) (a : Int) : List S36 × Int := if (rd_T36 l a).f0 = 3 then (l, 3) else (l.set a.toNat ⟨3, (rd_T36 l a).f1⟩, 0)
def opnZ (o : Int) (l : List S36) (a : Int) : List S36 × Int :=
  if (rd_T36 l a).f0 = 3 then (l, 3) else if (rd_T36 l a).f0 = 1 then (l, 0) else if cnt l ≥ o then (l, 5) else (l.set a.toNat ⟨1, (rd_T36 l a).f1⟩, 0)
def clsZ (l : List S36) (a : Int) : List S36 × Int := if (rd_T36 l a).f0 = 1 then (l.set a.toNat (shutZ (rd_T36 l a)), 0) else (l, 3)
def stepZ (c s q z o : Int) (l : List S36) (kd a b : Int) : List S36 × Int :=
  if kd = 0 then wZ c s q z o l a b else if kd = 1 then rZ c s q z l a b else if kd = 2 then zZ c s q z l a (l.set a.toNat ⟨0, 0⟩, 0)
  else if kd = 3 then zZ c s q z l a (finZ l a) else if kd = 4 then zZ c s q z l a (opnZ o l a) else if kd = 5 then zZ c s q z l a (clsZ l a) else (l.map powerZ, 0)
theorem set_same {l : List S36} {a : Int} {x : S36} (h0 : 0 ≤ a) (h1 : a < l.length) (hx : x = rd_T36 l a) : l.set a.toNat x = l := by
  rw [hx, rd_at h0 h1, List.set_getElem_self]
theorem gsec_in {c s q z a : Int} (h : ¬ gsec c s q z a = 0) : 0 ≤ a ∧ a < c + q := by
  unfold gsec at h
  by_cases e : a < 0 ∨ a ≥ c + q
  · rw [if_pos e] at h; exact absurd rfl h
  · omega
theorem gsec_pos {c s q z o a : Int} (h : Rt c s q z o) (h0 : 0 ≤ a) (h1 : a < c + q) : 0 < gsec c s q z a := by
  have hb := h
  unfold Rt at h
  have := blk_bd (q := q) (z := z) (by omega) (by omega) (by omega) (by omega)
  have hp : 0 ≤ pag q z := by unfold pag; omega
  unfold gsec
  rw [if_neg (by omega)]
  split <;> omega
theorem th_in {c s q z a b : Int} (h : Th c s q z a b) : 0 ≤ a ∧ a < c + q := by
  have hg : ¬ gsec c s q z a = 0 := by unfold Th at h; omega
  exact gsec_in hg
theorem wrap_pt {x z : Int} (h0 : 0 ≤ x) (h1 : x ≤ z) (hz : z ≤ 256) : wrap64 (x + 1) = x + 1 := w64b _ (by omega) (by omega)
theorem okz_bd {z : Int} {x : S36} (h : Okz z x) (hz : 0 ≤ z) : 0 ≤ x.f1 ∧ x.f1 ≤ z ∧ 0 ≤ x.f0 ∧ x.f0 ≤ 3 := by unfold Okz at h; omega
theorem th_sec {c s q z a b : Int} (h : Th c s q z a b) : ¬ gsec c s q z a = 0 := by unfold Th at h; omega
section
variable {c s q z o : Int} (h : Rt c s q z o) {l : List S36} (hr : RtZ c q z o l) (a b : Int) (k : Nat) (hk : 100 ≤ k)
include h hr hk
theorem write_is : zone_Write.f k c s q z o l a b = some (wZ c s q z o l a b) := by
  obtain ⟨hlen, hcnt, hall⟩ := hr
  have h' := h
  unfold Rt at h'
  unfold zone_Write.f zone_Write.last wZ
  rw [clone_is (l := l) (by omega), there_is h a b k (by omega), open_is l (by omega) k (by omega)]
  simp only [Option.bind_some]
  by_cases t : Th c s q z a b
  · obtain ⟨a0, a1⟩ := th_in t
    have hone := hall a a0 (by omega)
    rw [if_pos (by simpa using t), if_pos (show 0 ≤ a ∧ a < (l.length : Int) by omega), if_neg (show ¬ ¬ Th c s q z a b from fun hh => hh t)]
    by_cases ac : a < c
    · have hs := hone.1 ac
      rw [if_pos hs.1, if_pos ac]
    · have hbd := okz_bd (hone.2 (by omega)) (by omega)
      rw [if_neg (show ¬ (rd_T36 l a).f0 = 4 by omega), if_neg ac]
      by_cases f3 : (rd_T36 l a).f0 = 3
      · rw [if_pos f3, if_pos f3]
      rw [if_neg f3, if_neg f3]
      by_cases fb : b = (rd_T36 l a).f1
      · rw [if_neg (show ¬ ¬ b = (rd_T36 l a).f1 from fun hh => hh fb), if_neg (show ¬ ¬ b = (rd_T36 l a).f1 from fun hh => hh fb), wrap_pt hbd.1 hbd.2.1 (by omega)]
        by_cases f1 : (rd_T36 l a).f0 = 1
        · rw [if_pos f1, if_neg (show ¬ (¬ (rd_T36 l a).f0 = 1 ∧ cnt l ≥ o) from fun hh => hh.1 f1)]
          by_cases fz : (rd_T36 l a).f1 + 1 = z
          · rw [if_pos fz, if_pos fz]
          · rw [if_neg fz, if_neg fz]
        · rw [if_neg f1]
          by_cases fo : cnt l ≥ o
          · rw [if_pos fo, if_pos ⟨f1, fo⟩]
          · rw [if_neg fo, if_neg (show ¬ (¬ (rd_T36 l a).f0 = 1 ∧ cnt l ≥ o) from fun hh => fo hh.2)]
            by_cases fz : (rd_T36 l a).f1 + 1 = z
            · rw [if_pos fz, if_pos fz]
            · rw [if_neg fz, if_neg fz]
      · rw [if_pos fb, if_pos fb]
  · rw [if_neg (by simpa using t), if_pos t]
theorem read_is : (zone_Read.f k c s q z o l a b).bind (fun t => some (l, t)) = some (rZ c s q z l a b) := by
  obtain ⟨hlen, hcnt, hall⟩ := hr
  have h' := h
  unfold Rt at h'
  unfold zone_Read.f rZ
  rw [there_is h a b k (by omega)]
  simp only [Option.bind_some]
  by_cases t : Th c s q z a b
  · obtain ⟨a0, a1⟩ := th_in t
    have hone := hall a a0 (by omega)
    rw [if_pos (by simpa using t), if_pos a0, if_pos (show a < (l.length : Int) by omega), if_neg (show ¬ ¬ Th c s q z a b from fun hh => hh t)]
    by_cases ac : a < c
    · have hs := hone.1 ac
      rw [if_pos hs.1, if_pos ac]
      rfl
    · have hbd := okz_bd (hone.2 (by omega)) (by omega)
      rw [if_neg (show ¬ (rd_T36 l a).f0 = 4 by omega), if_neg ac]
      by_cases e : b < (rd_T36 l a).f1
      · rw [if_neg (by omega), if_pos e]; rfl
      · rw [if_pos (by omega), if_neg e]; rfl
  · rw [if_neg (by simpa using t), if_pos t]
    rfl
theorem reset_is : zone_Reset.f k c s q z o l a = some (zZ c s q z l a (l.set a.toNat ⟨0, 0⟩, 0)) := by
  obtain ⟨hlen, hcnt, hall⟩ := hr
  have h' := h
  unfold Rt at h'
  unfold zone_Reset.f zZ
  rw [clone_is (l := l) (by omega), seq_is h a k (by omega)]
  simp only [Option.bind_some]
  by_cases g : gsec c s q z a = 0
  · rw [if_pos g, if_pos g]; rfl
  rw [if_neg g, if_neg g]
  obtain ⟨a0, a1⟩ := gsec_in g
  by_cases ac : a < c
  · rw [if_pos ac, if_pos ac]; rfl
  rw [if_neg ac, if_neg ac, if_pos rfl, if_pos a0, if_pos (by omega)]
theorem finish_is : zone_Finish.f k c s q z o l a = some (zZ c s q z l a (finZ l a)) := by
  obtain ⟨hlen, hcnt, hall⟩ := hr
  have h' := h
  unfold Rt at h'
  unfold zone_Finish.f zZ finZ
  rw [clone_is (l := l) (by omega), seq_is h a k (by omega)]
  simp only [Option.bind_some]
  by_cases g : gsec c s q z a = 0
  · rw [if_pos g, if_pos g]; rfl
  rw [if_neg g, if_neg g]
  obtain ⟨a0, a1⟩ := gsec_in g
  by_cases ac : a < c
  · rw [if_pos ac, if_pos ac]; rfl
  rw [if_neg ac, if_neg ac, if_pos rfl, if_pos a0, if_pos (by omega)]
  by_cases f3 : (rd_T36 l a).f0 = 3
  · rw [if_pos f3, if_pos f3]
  · rw [if_neg f3, if_neg f3]
theorem opens_is : zone_Open.f k c s q z o l a = some (zZ c s q z l a (opnZ o l a)) := by
  obtain ⟨hlen, hcnt, hall⟩ := hr
  have h' := h
  unfold Rt at h'
  unfold zone_Open.f zZ opnZ
  rw [clone_is (l := l) (by omega), seq_is h a k (by omega), open_is l (by omega) k (by omega)]
  simp only [Option.bind_some]
  by_cases g : gsec c s q z a = 0
  · rw [if_pos g, if_pos g]; rfl
  rw [if_neg g, if_neg g]
  obtain ⟨a0, a1⟩ := gsec_in g
  by_cases ac : a < c
  · rw [if_pos ac, if_pos ac]; rfl
  rw [if_neg ac, if_neg ac, if_neg (by omega), if_pos (show 0 ≤ a ∧ a < (l.length : Int) by omega)]
  by_cases f3 : (rd_T36 l a).f0 = 3
  · rw [if_pos f3, if_pos f3]
  rw [if_neg f3, if_neg f3]
  by_cases f1 : (rd_T36 l a).f0 = 1
  · rw [if_pos f1, if_pos f1]
  rw [if_neg f1, if_neg f1]
  by_cases fo : cnt l ≥ o
  · rw [if_pos fo, if_pos fo]
  · rw [if_neg fo, if_neg fo]
theorem close_is : zone_Close.f k c s q z o l a = some (zZ c s q z l a (clsZ l a)) := by
  obtain ⟨hlen, hcnt, hall⟩ := hr
  have h' := h
  unfold Rt at h'
  unfold zone_Close.f zZ clsZ
  rw [clone_is (l := l) (by omega), seq_is h a k (by omega)]
  simp only [Option.bind_some]
  by_cases g : gsec c s q z a = 0
  · rw [if_pos g, if_pos g]; rfl
  rw [if_neg g, if_neg g]
  obtain ⟨a0, a1⟩ := gsec_in g
  by_cases ac : a < c
  · rw [if_pos ac, if_pos ac]; rfl
  rw [if_neg ac, if_neg ac, if_neg (by omega), if_pos (show 0 ≤ a ∧ a < (l.length : Int) by omega)]
  by_cases f1 : (rd_T36 l a).f0 = 1
  · rw [if_neg (fun hh => hh f1), if_pos f1]
  · rw [if_pos f1, if_neg f1]
omit hk in
theorem power_is : zone_Power.f l = some (l.map powerZ) := by
  have h' := h
  unfold Rt at h'
  have := hr.1
  unfold zone_Power.f
  rw [clone_is (l := l) (by omega)]
  rfl
theorem act_is (kd : Int) : windrowlaw04_act.f k c s q z o l kd a b = some (stepZ c s q z o l kd a b) := by
  unfold windrowlaw04_act.f stepZ
  by_cases k0 : kd = 0
  · rw [if_pos k0, if_pos k0, write_is h hr a b k hk]; rfl
  rw [if_neg k0, if_neg k0]
  by_cases k1 : kd = 1
  · rw [if_pos k1, if_pos k1]; exact read_is h hr a b k hk
  rw [if_neg k1, if_neg k1]
  by_cases k2 : kd = 2
  · rw [if_pos k2, if_pos k2, reset_is h hr a k hk]; rfl
  rw [if_neg k2, if_neg k2]
  by_cases k3 : kd = 3
  · rw [if_pos k3, if_pos k3, finish_is h hr a k hk]; rfl
  rw [if_neg k3, if_neg k3]
  by_cases k4 : kd = 4
  · rw [if_pos k4, if_pos k4, opens_is h hr a k hk]; rfl
  rw [if_neg k4, if_neg k4]
  by_cases k5 : kd = 5
  · rw [if_pos k5, if_pos k5, close_is h hr a k hk]; rfl
  rw [if_neg k5, if_neg k5, power_is h hr]; rfl
end
end Go.Proofs.Ytckobmdklpalnaa.Pure
