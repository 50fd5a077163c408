/- The plain law of GeomRights: what its parts compute comes to true, for every measure in the integers' bounds. -/
import Derived.Test.YtdmjdanchknkmaaPGeomRightsx
import Derived.OpenShut
namespace Go.Proofs.Ytdmjdanchknkmaa.Pure
open Go.RowKit Go.Proofs.Ytdmjdanchknkmaa.PGeomRights Go.Proofs.YtdmjdanchknkmaaW.PrintWords Go.Proofs.YtdmjdanchknkmaaW.PrintLast Go.Proofs.YtdmjdanchknkmaaW.PrintMore
/-- i64. -/
def I64 (x : Int) : Prop := -9223372036854775808 ≤ x ∧ x ≤ 9223372036854775807
theorem w64 {x : Int} (h : I64 x) : wrap64 x = x := by unfold wrap64; unfold I64 at h; omega
theorem w64b (x : Int) (h0 : -9223372036854775808 ≤ x) (h1 : x ≤ 9223372036854775807) : wrap64 x = x := w64 ⟨h0, h1⟩
/-- How many blocks. -/
def blk (q z : Int) : Int := if 4096 < (q - 5) * (z / 2) then 4096 else (q - 5) * (z / 2)
def pag (q z : Int) : Int := (blk q z + 9) / 10
/-- A right measure. -/
def Rt (c s q z o : Int) : Prop := 2 ≤ c ∧ c ≤ 64 ∧ 6 ≤ q ∧ c + q ≤ 64 ∧ 8 ≤ z ∧ z ≤ 256 ∧ 3 ≤ o ∧ pag q z + 3 ≤ s ∧ s ≤ 65536
instance (c s q z o : Int) : Decidable (Rt c s q z o) := by unfold Rt; exact inferInstance
theorem prod_bd {q z : Int} (h1 : 6 ≤ q) (h2 : q ≤ 64) (h3 : 8 ≤ z) (h4 : z ≤ 256) : 4 ≤ (q - 5) * (z / 2) ∧ (q - 5) * (z / 2) ≤ 7552 := by
  have hz : 4 ≤ z / 2 ∧ z / 2 ≤ 128 := by omega
  constructor
  · have := Int.mul_le_mul (a := 1) (b := 4) (c := q - 5) (d := z / 2) (by omega) (by omega) (by omega) (by omega)
    omega
  · have := Int.mul_le_mul (a := q - 5) (b := z / 2) (c := 59) (d := 128) (by omega) (by omega) (by omega) (by omega)
    omega
theorem blk_bd {q z : Int} (h1 : 6 ≤ q) (h2 : q ≤ 64) (h3 : 8 ≤ z) (h4 : z ≤ 256) : 4 ≤ blk q z ∧ blk q z ≤ 4096 := by
  have := prod_bd h1 h2 h3 h4
  unfold blk; split <;> omega
theorem i64_wf {x : Int} (h : (Lit.int .i64 x).wf = true) : I64 x := by
  have := Go.bounds_i64 h
  unfold I64; omega
theorem gblocks {q z : Int} (c s o : Int) (h1 : 6 ≤ q) (h2 : q ≤ 64) (h3 : 8 ≤ z) (h4 : z ≤ 256) : geom_Blocks.f c s q z o = some (blk q z) := by
  have := prod_bd h1 h2 h3 h4
  unfold geom_Blocks.f mn
  rw [w64b (q - 5) (by omega) (by omega), w64b _ (by omega) (by omega)]
  rfl
theorem gpages {q z : Int} (c s o : Int) (h1 : 6 ≤ q) (h2 : q ≤ 64) (h3 : 8 ≤ z) (h4 : z ≤ 256) : geom_Pages.f c s q z o = some (pag q z) := by
  have := blk_bd h1 h2 h3 h4
  unfold geom_Pages.f
  rw [gblocks c s o h1 h2 h3 h4]
  simp only [Option.bind_some]
  rw [w64b (blk q z + 10) (by omega) (by omega), w64b (blk q z + 10 - 1) (by omega) (by omega), Int.tdiv_eq_ediv_of_nonneg (by omega), w64b _ (by omega) (by omega)]
  congr 1
  unfold pag
  omega
theorem mul_i64 {q z : Int} (h1 : 0 ≤ q) (h2 : q ≤ 64) (h3 : 0 ≤ z) (h4 : z ≤ 256) : 0 ≤ q * z ∧ q * z ≤ 16384 := by
  constructor
  · exact Int.mul_nonneg h1 h3
  · have := Int.mul_le_mul h2 h4 h3 (by omega)
    omega
theorem rblocks_loop (c s o q z : Int) (h1 : 6 ≤ q) (h2 : q ≤ 64) (h3 : 8 ≤ z) (h4 : z ≤ 256) (d : Nat) : ∀ (k : Nat) (i : Int), 5 ≤ i → i ≤ q → q - i = d → d < k →
    windrowref03_Blocks.l0 k ((i - 5) * (z / 2)) i c s q z o = some (blk q z) := by
  induction d with
  | zero =>
    intro k i h5 h6 hd hk
    obtain ⟨k, rfl⟩ : ∃ m, k = m + 1 := ⟨k - 1, by omega⟩
    obtain rfl : i = q := by omega
    simp only [windrowref03_Blocks.l0]
    rw [if_neg (by omega)]
    unfold blk
    by_cases hh : (i - 5) * (z / 2) > 4096
    · rw [if_pos hh, if_pos hh]
    · rw [if_neg hh, if_neg hh]
  | succ d ih =>
    intro k i h5 h6 hd hk
    obtain ⟨k, rfl⟩ : ∃ m, k = m + 1 := ⟨k - 1, by omega⟩
    simp only [windrowref03_Blocks.l0]
    rw [if_pos (by omega)]
    have hz : 4 ≤ z / 2 ∧ z / 2 ≤ 128 := by omega
    have e : (i - 5) * (z / 2) + z / 2 = (i + 1 - 5) * (z / 2) := by
      rw [show i + 1 - 5 = (i - 5) + 1 by omega, Int.add_mul]; omega
    have h0 : 0 ≤ (i - 5) * (z / 2) := Int.mul_nonneg (by omega) (by omega)
    have h7 : (i - 5) * (z / 2) ≤ 59 * 128 := Int.mul_le_mul (by omega) (by omega) (by omega) (by omega)
    rw [Int.tdiv_eq_ediv_of_nonneg (by omega), w64b (z / 2) (by omega) (by omega), w64b _ (by omega) (by omega), w64b (i + 1) (by omega) (by omega), e]
    exact ih k (i + 1) (by omega) (by omega) (by omega) (by omega)
theorem rblocks {q z : Int} (c s o : Int) (h1 : 6 ≤ q) (h2 : q ≤ 64) (h3 : 8 ≤ z) (h4 : z ≤ 256) (k : Nat) (hk : 60 ≤ k) : windrowref03_Blocks.f k c s q z o = some (blk q z) := by
  have := rblocks_loop c s o q z h1 h2 h3 h4 (q - 5).toNat k 5 (by omega) (by omega) (by omega) (by omega)
  rw [show ((5 : Int) - 5) * (z / 2) = 0 by rw [Int.sub_self, Int.zero_mul]] at this
  exact this
theorem rpages_loop (c s o q z : Int) (h1 : 6 ≤ q) (h2 : q ≤ 64) (h3 : 8 ≤ z) (h4 : z ≤ 256) (d : Nat) : ∀ (k : Nat) (i : Int), 0 ≤ i → i ≤ pag q z → pag q z - i = d → 60 + d < k →
    windrowref03_Pages.l0 k i c s q z o = some (pag q z) := by
  have hb := blk_bd h1 h2 h3 h4
  induction d with
  | zero =>
    intro k i h5 h6 hd hk
    obtain ⟨k, rfl⟩ : ∃ m, k = m + 1 := ⟨k - 1, by omega⟩
    obtain rfl : i = pag q z := by omega
    simp only [windrowref03_Pages.l0]
    rw [rblocks c s o h1 h2 h3 h4 k (by omega)]
    simp only [Option.bind_some]
    unfold pag
    rw [w64b _ (by omega) (by omega), if_neg (by omega)]
  | succ d ih =>
    intro k i h5 h6 hd hk
    obtain ⟨k, rfl⟩ : ∃ m, k = m + 1 := ⟨k - 1, by omega⟩
    simp only [windrowref03_Pages.l0]
    rw [rblocks c s o h1 h2 h3 h4 k (by omega)]
    simp only [Option.bind_some]
    have hp : 10 * i < blk q z ∧ i ≤ 500 := by unfold pag at h6 hd; omega
    rw [w64b (10 * i) (by omega) (by omega), if_pos (by omega), w64b (i + 1) (by omega) (by omega)]
    exact ih k (i + 1) (by omega) (by omega) (by omega) (by omega)
theorem rpages {q z : Int} (c s o : Int) (h1 : 6 ≤ q) (h2 : q ≤ 64) (h3 : 8 ≤ z) (h4 : z ≤ 256) (k : Nat) (hk : 1000 ≤ k) : windrowref03_Pages.f k c s q z o = some (pag q z) := by
  have hb := blk_bd h1 h2 h3 h4
  have hp : 0 ≤ pag q z ∧ pag q z ≤ 500 := by unfold pag; omega
  exact rpages_loop c s o q z h1 h2 h3 h4 (pag q z).toNat k 0 (by omega) (by omega) (by omega) (by omega)
theorem rright (c s q z o : Int) (hc : I64 c) (hq : I64 q) (k : Nat) (hk : 1001 ≤ k) : windrowref03_Right.f k c s q z o = some (decide (Rt c s q z o)) := by
  obtain ⟨k, rfl⟩ : ∃ m, k = m + 1 := ⟨k - 1, by omega⟩
  unfold I64 at hc hq
  unfold windrowref03_Right.f
  by_cases a1 : c < 2
  · rw [if_pos a1]; simp only [windrowref03_Right.j0, if_true]; congr 1; symm; apply decide_eq_false; unfold Rt; omega
  rw [if_neg a1]
  by_cases a2 : c > 64
  · rw [if_pos a2]; simp only [windrowref03_Right.j0, if_true]; congr 1; symm; apply decide_eq_false; unfold Rt; omega
  rw [if_neg a2]
  by_cases a3 : q < 6
  · rw [if_pos a3]; simp only [windrowref03_Right.j0, if_true]; congr 1; symm; apply decide_eq_false; unfold Rt; omega
  rw [if_neg a3]
  by_cases a4 : q > 64
  · rw [if_pos a4]; simp only [windrowref03_Right.j0, if_true]; congr 1; symm; apply decide_eq_false; unfold Rt; omega
  rw [if_neg a4, w64b (c + q) (by omega) (by omega)]
  simp only [windrowref03_Right.j0]
  by_cases a5 : c + q > 64
  · rw [if_pos (by simpa using a5)]; congr 1; symm; apply decide_eq_false; unfold Rt; omega
  rw [if_neg (by simpa using a5)]
  by_cases a6 : z < 8
  · rw [if_pos a6]; congr 1; symm; apply decide_eq_false; unfold Rt; omega
  rw [if_neg a6]
  by_cases a7 : z > 256
  · rw [if_pos a7]; congr 1; symm; apply decide_eq_false; unfold Rt; omega
  rw [if_neg a7]
  by_cases a8 : o < 3
  · rw [if_pos a8]; congr 1; symm; apply decide_eq_false; unfold Rt; omega
  rw [if_neg a8]
  by_cases a9 : s > 65536
  · rw [if_pos a9]; congr 1; symm; apply decide_eq_false; unfold Rt; omega
  rw [if_neg a9, rpages c s o (by omega) (by omega) (by omega) (by omega) k (by omega)]
  have hb := blk_bd (q := q) (z := z) (by omega) (by omega) (by omega) (by omega)
  simp only [Option.bind_some]
  have hp : 0 ≤ pag q z ∧ pag q z ≤ 500 := by unfold pag; omega
  rw [w64b _ (by omega) (by omega)]
  congr 1
  rw [decide_eq_decide]
  unfold Rt
  omega
theorem gright (c s q z o : Int) (hc : I64 c) (hq : I64 q) (k : Nat) (hk : 1 ≤ k) : geom_Right.f k c s q z o = some (decide (Rt c s q z o)) := by
  obtain ⟨k, rfl⟩ : ∃ m, k = m + 1 := ⟨k - 1, by omega⟩
  unfold I64 at hc hq
  unfold geom_Right.f
  by_cases a1 : c < 2
  · rw [if_pos a1]; simp only [geom_Right.j0, if_true]; congr 1; symm; apply decide_eq_false; unfold Rt; omega
  rw [if_neg a1]
  by_cases a3 : q < 6
  · rw [if_pos a3]; simp only [geom_Right.j0, if_true]; congr 1; symm; apply decide_eq_false; unfold Rt; omega
  rw [if_neg a3]
  by_cases a2 : c > 64
  · rw [if_pos a2]; simp only [geom_Right.j0, if_true]; congr 1; symm; apply decide_eq_false; unfold Rt; omega
  rw [if_neg a2, w64b (64 - c) (by omega) (by omega)]
  simp only [geom_Right.j0]
  by_cases a5 : q > 64 - c
  · rw [if_pos (by simpa using a5)]; congr 1; symm; apply decide_eq_false; unfold Rt; omega
  rw [if_neg (by simpa using a5)]
  by_cases a6 : z < 8
  · rw [if_pos a6]; congr 1; symm; apply decide_eq_false; unfold Rt; omega
  rw [if_neg a6]
  by_cases a7 : z > 256
  · rw [if_pos a7]; congr 1; symm; apply decide_eq_false; unfold Rt; omega
  rw [if_neg a7]
  by_cases a8 : o < 3
  · rw [if_pos a8]; congr 1; symm; apply decide_eq_false; unfold Rt; omega
  rw [if_neg a8, gpages c s o (by omega) (by omega) (by omega) (by omega)]
  have hb := blk_bd (q := q) (z := z) (by omega) (by omega) (by omega) (by omega)
  simp only [Option.bind_some]
  have hp : 0 ≤ pag q z ∧ pag q z ≤ 500 := by unfold pag; omega
  rw [w64b _ (by omega) (by omega)]
  by_cases a9 : s ≥ pag q z + 3
  · rw [if_pos a9]; congr 1; rw [decide_eq_decide]; unfold Rt; omega
  · rw [if_neg a9]; congr 1; symm; apply decide_eq_false; unfold Rt; omega
theorem awake_at (k : Nat) (hk : 1 ≤ k) : windrowlaw03_awake.f k = some true := by
  obtain ⟨k, rfl⟩ : ∃ m, k = m + 1 := ⟨k - 1, by omega⟩
  have h := gright 2 8 6 16 3 (by unfold I64; omega) (by unfold I64; omega) (k + 1) (by omega)
  unfold windrowlaw03_awake.f
  rw [h]
  decide +kernel
theorem gzones {c q : Int} (s z o : Int) (hc : 0 ≤ c ∧ c ≤ 64) (hq : 0 ≤ q ∧ q ≤ 64) : geom_Zones.f c s q z o = some (c + q) := by
  unfold geom_Zones.f; rw [w64b _ (by omega) (by omega)]
theorem gat {c s q z o n : Int} (h : Rt c s q z o) (hn : I64 n) : geom_At.f c s q z o n = some (if n < 1 ∨ n > q * z then (0, 0, false) else (c + (n - 1) / z, (n - 1) % z, true)) := by
  unfold Rt at h; unfold I64 at hn
  have hm := mul_i64 (q := q) (z := z) (by omega) (by omega) (by omega) (by omega)
  unfold geom_At.f
  rw [w64b (q * z) (by omega) (by omega)]
  by_cases a1 : n < 1
  · rw [if_pos a1, if_pos (.inl a1)]
  rw [if_neg a1]
  by_cases a2 : n > q * z
  · rw [if_pos a2, if_pos (.inr a2)]
  rw [if_neg a2, if_neg (by omega), if_neg (by omega), w64b (n - 1) (by omega) (by omega), Int.tdiv_eq_ediv_of_nonneg (by omega), Int.tmod_eq_emod_of_nonneg (by omega)]
  have hd : 0 ≤ (n - 1) / z := Int.ediv_nonneg (by omega) (by omega)
  have hd2 : (n - 1) / z ≤ n - 1 := Int.ediv_le_self _ (by omega)
  rw [w64b ((n - 1) / z) (by omega) (by omega), w64b _ (by omega) (by omega)]
theorem gnum {c s q z o a b : Int} (h : Rt c s q z o) : geom_Num.f c s q z o a b = some (if a < c ∨ a ≥ c + q ∨ b < 0 ∨ b ≥ z then 0 else (a - c) * z + b + 1) := by
  unfold Rt at h
  unfold geom_Num.f
  by_cases a1 : a < c
  · rw [if_pos a1, if_pos (.inl a1)]
  rw [if_neg a1, gzones s z o (by omega) (by omega)]
  simp only [Option.bind_some]
  by_cases a2 : a ≥ c + q
  · rw [if_pos a2, if_pos (.inr (.inl a2))]
  rw [if_neg a2]
  by_cases a3 : b < 0
  · rw [if_pos a3, if_pos (.inr (.inr (.inl a3)))]
  rw [if_neg a3]
  by_cases a4 : b ≥ z
  · rw [if_pos a4, if_pos (.inr (.inr (.inr a4)))]
  rw [if_neg a4, if_neg (by omega)]
  have hm := mul_i64 (q := a - c) (z := z) (by omega) (by omega) (by omega) (by omega)
  rw [w64b (a - c) (by omega) (by omega), w64b ((a - c) * z) (by omega) (by omega), w64b ((a - c) * z + b) (by omega) (by omega), w64b _ (by omega) (by omega)]
theorem GeomRights (c s q z o n : Int) (w0 : (Lit.int .i64 c).wf = true ∧ (Lit.int .i64 s).wf = true ∧ (Lit.int .i64 q).wf = true ∧ (Lit.int .i64 z).wf = true ∧ (Lit.int .i64 o).wf = true) (_w1 : (Lit.int .i64 n).wf = true) : ∃ k, windrowlaw03_GeomRights.f k c s q z o n = some true := by
  refine ⟨2002, ?_⟩
  have hc := i64_wf w0.1
  have hq := i64_wf w0.2.2.1
  unfold windrowlaw03_GeomRights.f
  rw [awake_at 2002 (by omega)]
  simp only [Option.bind_some, if_true]
  rw [gright c s q z o hc hq 2002 (by omega), rright c s q z o hc hq 2002 (by omega)]
  simp only [Option.bind_some, windrowlaw03_GeomRights.j0]
  rw [if_neg (by simp), rright c s q z o hc hq 2001 (by omega)]
  simp only [Option.bind_some]
  by_cases h : Rt c s q z o
  · rw [if_pos (by simp [h])]
    have h' := h
    unfold Rt at h'
    rw [gblocks c s o (by omega) (by omega) (by omega) (by omega), rblocks c s o (by omega) (by omega) (by omega) (by omega) 2001 (by omega)]
    simp only [Option.bind_some, if_true]
    rw [gpages c s o (by omega) (by omega) (by omega) (by omega), rpages c s o (by omega) (by omega) (by omega) (by omega) 2001 (by omega)]
    simp only [Option.bind_some, geom_Most.f, if_true]
    rw [Int.tdiv_eq_ediv_of_nonneg (by omega), w64b (z / 2) (by omega) (by omega), if_pos rfl, gzones s z o (by omega) (by omega)]
    simp only [Option.bind_some]
    rw [w64b (c + q) (by omega) (by omega), if_pos rfl]
    unfold geom_Sectors.f windrowref03_Sectors.f
    rw [gzones s z o (by omega) (by omega), w64b (c + q) (by omega) (by omega)]
    simp only [Option.bind_some]
    by_cases a1 : n < 0
    · rw [if_pos a1, if_pos a1]; simp [geom_Sectors.j0, windrowref03_Sectors.j0]
    · rw [if_neg a1, if_neg a1]
      simp only [geom_Sectors.j0, windrowref03_Sectors.j0]
      by_cases a2 : n ≥ c + q
      · rw [if_pos (by simpa using a2)]; simp
      · rw [if_neg (by simpa using a2)]
        by_cases a3 : n < c
        · rw [if_pos a3]; simp
        · rw [if_neg a3]; simp
  · rw [if_neg (by simp [h])]
end Go.Proofs.Ytdmjdanchknkmaa.Pure
