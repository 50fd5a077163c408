/- The plain law of GeomRooms: what its parts compute comes to true, for every measure in the integers' bounds. -/
import Derived.Test.YtdmjdanchknkmaaPGeomRoomsx
import Derived.OpenShut
namespace Go.Proofs.Ytdmjdanchknkmaa.Pure
open Go.RowKit Go.Proofs.Ytdmjdanchknkmaa.PGeomRooms Go.Proofs.YtdmjdanchknkmaaW.PrintWords Go.Proofs.YtdmjdanchknkmaaW.PrintLast Go.Proofs.YtdmjdanchknkmaaW.PrintMore
/-- i64. -/
def I64 (x : Int) : Prop := -9223372036854775808 ≤ x ∧ x ≤ 9223372036854775807
theorem w64 {x : Int} (h : I64 x) : wrap64 x = x := by unfold wrap64; unfold I64 at h; omega
theorem w64b (x : Int) (h0 : -9223372036854775808 ≤ x) (h1 : x ≤ 9223372036854775807) : wrap64 x = x := w64 ⟨h0, h1⟩
/-- How many blocks. -/
def blk (q z : Int) : Int := if 4096 < (q - 5) * (z / 2) then 4096 else (q - 5) * (z / 2)
def pag (q z : Int) : Int := (blk q z + 9) / 10
/-- A right measure. -/
def Rt (c s q z o : Int) : Prop := 2 ≤ c ∧ c ≤ 64 ∧ 6 ≤ q ∧ c + q ≤ 64 ∧ 8 ≤ z ∧ z ≤ 256 ∧ 3 ≤ o ∧ pag q z + 3 ≤ s ∧ s ≤ 65536
instance (c s q z o : Int) : Decidable (Rt c s q z o) := by unfold Rt; exact inferInstance
theorem prod_bd {q z : Int} (h1 : 6 ≤ q) (h2 : q ≤ 64) (h3 : 8 ≤ z) (h4 : z ≤ 256) : 4 ≤ (q - 5) * (z / 2) ∧ (q - 5) * (z / 2) ≤ 7552 := by
  have hz : 4 ≤ z / 2 ∧ z / 2 ≤ 128 := by omega
  constructor
  · have := Int.mul_le_mul (a := 1) (b := 4) (c := q - 5) (d := z / 2) (by omega) (by omega) (by omega) (by omega)
    omega
  · have := Int.mul_le_mul (a := q - 5) (b := z / 2) (c := 59) (d := 128) (by omega) (by omega) (by omega) (by omega)
    omega
theorem blk_bd {q z : Int} (h1 : 6 ≤ q) (h2 : q ≤ 64) (h3 : 8 ≤ z) (h4 : z ≤ 256) : 4 ≤ blk q z ∧ blk q z ≤ 4096 := by
  have := prod_bd h1 h2 h3 h4
  unfold blk; split <;> omega
theorem i64_wf {x : Int} (h : (Lit.int .i64 x).wf = true) : I64 x := by
  have := Go.bounds_i64 h
  unfold I64; omega
theorem gblocks {q z : Int} (c s o : Int) (h1 : 6 ≤ q) (h2 : q ≤ 64) (h3 : 8 ≤ z) (h4 : z ≤ 256) : geom_Blocks.f c s q z o = some (blk q z) := by
  have := prod_bd h1 h2 h3 h4
  unfold geom_Blocks.f mn
  rw [w64b (q - 5) (by omega) (by omega), w64b _ (by omega) (by omega)]
  rfl
theorem gpages {q z : Int} (c s o : Int) (h1 : 6 ≤ q) (h2 : q ≤ 64) (h3 : 8 ≤ z) (h4 : z ≤ 256) : geom_Pages.f c s q z o = some (pag q z) := by
  have := blk_bd h1 h2 h3 h4
  unfold geom_Pages.f
  rw [gblocks c s o h1 h2 h3 h4]
  simp only [Option.bind_some]
  rw [w64b (blk q z + 10) (by omega) (by omega), w64b (blk q z + 10 - 1) (by omega) (by omega), Int.tdiv_eq_ediv_of_nonneg (by omega), w64b _ (by omega) (by omega)]
  congr 1
  unfold pag
  omega
theorem mul_i64 {q z : Int} (h1 : 0 ≤ q) (h2 : q ≤ 64) (h3 : 0 ≤ z) (h4 : z ≤ 256) : 0 ≤ q * z ∧ q * z ≤ 16384 := by
  constructor
  · exact Int.mul_nonneg h1 h3
  · have := Int.mul_le_mul h2 h4 h3 (by omega)
    omega
theorem gright (c s q z o : Int) (hc : I64 c) (hq : I64 q) (k : Nat) (hk : 1 ≤ k) : geom_Right.f k c s q z o = some (decide (Rt c s q z o)) := by
  obtain ⟨k, rfl⟩ : ∃ m, k = m + 1 := ⟨k - 1, by omega⟩
  unfold I64 at hc hq
  unfold geom_Right.f
  by_cases a1 : c < 2
  · rw [if_pos a1]; simp only [geom_Right.j0, if_true]; congr 1; symm; apply decide_eq_false; unfold Rt; omega
  rw [if_neg a1]
  by_cases a3 : q < 6
  · rw [if_pos a3]; simp only [geom_Right.j0, if_true]; congr 1; symm; apply decide_eq_false; unfold Rt; omega
  rw [if_neg a3]
  by_cases a2 : c > 64
  · rw [if_pos a2]; simp only [geom_Right.j0, if_true]; congr 1; symm; apply decide_eq_false; unfold Rt; omega
  rw [if_neg a2, w64b (64 - c) (by omega) (by omega)]
  simp only [geom_Right.j0]
  by_cases a5 : q > 64 - c
  · rw [if_pos (by simpa using a5)]; congr 1; symm; apply decide_eq_false; unfold Rt; omega
  rw [if_neg (by simpa using a5)]
  by_cases a6 : z < 8
  · rw [if_pos a6]; congr 1; symm; apply decide_eq_false; unfold Rt; omega
  rw [if_neg a6]
  by_cases a7 : z > 256
  · rw [if_pos a7]; congr 1; symm; apply decide_eq_false; unfold Rt; omega
  rw [if_neg a7]
  by_cases a8 : o < 3
  · rw [if_pos a8]; congr 1; symm; apply decide_eq_false; unfold Rt; omega
  rw [if_neg a8, gpages c s o (by omega) (by omega) (by omega) (by omega)]
  have hb := blk_bd (q := q) (z := z) (by omega) (by omega) (by omega) (by omega)
  simp only [Option.bind_some]
  have hp : 0 ≤ pag q z ∧ pag q z ≤ 500 := by unfold pag; omega
  rw [w64b _ (by omega) (by omega)]
  by_cases a9 : s ≥ pag q z + 3
  · rw [if_pos a9]; congr 1; rw [decide_eq_decide]; unfold Rt; omega
  · rw [if_neg a9]; congr 1; symm; apply decide_eq_false; unfold Rt; omega
theorem awake_at (k : Nat) (hk : 1 ≤ k) : windrowlaw03_awake.f k = some true := by
  obtain ⟨k, rfl⟩ : ∃ m, k = m + 1 := ⟨k - 1, by omega⟩
  have h := gright 2 8 6 16 3 (by unfold I64; omega) (by unfold I64; omega) (k + 1) (by omega)
  unfold windrowlaw03_awake.f
  rw [h]
  decide +kernel
theorem gzones {c q : Int} (s z o : Int) (hc : 0 ≤ c ∧ c ≤ 64) (hq : 0 ≤ q ∧ q ≤ 64) : geom_Zones.f c s q z o = some (c + q) := by
  unfold geom_Zones.f; rw [w64b _ (by omega) (by omega)]
theorem gat {c s q z o n : Int} (h : Rt c s q z o) (hn : I64 n) : geom_At.f c s q z o n = some (if n < 1 ∨ n > q * z then (0, 0, false) else (c + (n - 1) / z, (n - 1) % z, true)) := by
  unfold Rt at h; unfold I64 at hn
  have hm := mul_i64 (q := q) (z := z) (by omega) (by omega) (by omega) (by omega)
  unfold geom_At.f
  rw [w64b (q * z) (by omega) (by omega)]
  by_cases a1 : n < 1
  · rw [if_pos a1, if_pos (.inl a1)]
  rw [if_neg a1]
  by_cases a2 : n > q * z
  · rw [if_pos a2, if_pos (.inr a2)]
  rw [if_neg a2, if_neg (by omega), if_neg (by omega), w64b (n - 1) (by omega) (by omega), Int.tdiv_eq_ediv_of_nonneg (by omega), Int.tmod_eq_emod_of_nonneg (by omega)]
  have hd : 0 ≤ (n - 1) / z := Int.ediv_nonneg (by omega) (by omega)
  have hd2 : (n - 1) / z ≤ n - 1 := Int.ediv_le_self _ (by omega)
  rw [w64b ((n - 1) / z) (by omega) (by omega), w64b _ (by omega) (by omega)]
theorem gnum {c s q z o a b : Int} (h : Rt c s q z o) : geom_Num.f c s q z o a b = some (if a < c ∨ a ≥ c + q ∨ b < 0 ∨ b ≥ z then 0 else (a - c) * z + b + 1) := by
  unfold Rt at h
  unfold geom_Num.f
  by_cases a1 : a < c
  · rw [if_pos a1, if_pos (.inl a1)]
  rw [if_neg a1, gzones s z o (by omega) (by omega)]
  simp only [Option.bind_some]
  by_cases a2 : a ≥ c + q
  · rw [if_pos a2, if_pos (.inr (.inl a2))]
  rw [if_neg a2]
  by_cases a3 : b < 0
  · rw [if_pos a3, if_pos (.inr (.inr (.inl a3)))]
  rw [if_neg a3]
  by_cases a4 : b ≥ z
  · rw [if_pos a4, if_pos (.inr (.inr (.inr a4)))]
  rw [if_neg a4, if_neg (by omega)]
  have hm := mul_i64 (q := a - c) (z := z) (by omega) (by omega) (by omega) (by omega)
  rw [w64b (a - c) (by omega) (by omega), w64b ((a - c) * z) (by omega) (by omega), w64b ((a - c) * z + b) (by omega) (by omega), w64b _ (by omega) (by omega)]
/-- Of a right device: its rooms. -/
theorem GeomRooms (c s q z o : Int) (w0 : (Lit.int .i64 c).wf = true ∧ (Lit.int .i64 s).wf = true ∧ (Lit.int .i64 q).wf = true ∧ (Lit.int .i64 z).wf = true ∧ (Lit.int .i64 o).wf = true) : ∃ k, windrowlaw03_GeomRooms.f k c s q z o = some true := by
  refine ⟨2, ?_⟩
  have hc := i64_wf w0.1
  have hq := i64_wf w0.2.2.1
  unfold windrowlaw03_GeomRooms.f
  rw [awake_at 2 (by omega)]
  simp only [Option.bind_some, if_true]
  rw [gright c s q z o hc hq 2 (by omega)]
  simp only [Option.bind_some, windrowlaw03_GeomRooms.j0]
  by_cases h : Rt c s q z o
  · rw [if_neg (by simp [h])]
    have h' := h
    unfold Rt at h'
    have hb := blk_bd (q := q) (z := z) (by omega) (by omega) (by omega) (by omega)
    have hm := mul_i64 (q := q) (z := z) (by omega) (by omega) (by omega) (by omega)
    have hp : 0 ≤ pag q z ∧ pag q z ≤ 500 := by unfold pag; omega
    have hp2 : blk q z ≤ 10 * pag q z ∧ 10 * pag q z ≤ blk q z + 9 := by unfold pag; omega
    have hx : 2 * blk q z < q * z := by
      have h1 : blk q z ≤ (q - 5) * (z / 2) := by unfold blk; split <;> omega
      have h2 : (q - 5) * (2 * (z / 2)) ≤ (q - 5) * z := Int.mul_le_mul_of_nonneg_left (by omega) (by omega)
      have h3 : (q - 5) * z = q * z - 5 * z := Int.sub_mul _ _ _
      have h4 : (q - 5) * (2 * (z / 2)) = 2 * ((q - 5) * (z / 2)) := Int.mul_left_comm _ _ _
      omega
    rw [gpages c s o (by omega) (by omega) (by omega) (by omega), gblocks c s o (by omega) (by omega) (by omega) (by omega)]
    simp only [Option.bind_some, geom_Most.f]
    rw [w64b (pag q z + 3) (by omega) (by omega), if_pos (by omega), w64b (pag q z * 10) (by omega) (by omega), if_pos (by omega), w64b (pag q z - 1) (by omega) (by omega), w64b _ (by omega) (by omega), if_pos (by omega), w64b (q * z) (by omega) (by omega), w64b (2 * blk q z) (by omega) (by omega), if_pos (by omega), w64b (z / 2 + 1) (by omega) (by omega), if_pos (by omega)]
    congr 1
    exact decide_eq_true (by omega)
  · rw [if_pos (by simp [h]), awake_at 1 (by omega)]
    rfl
end Go.Proofs.Ytdmjdanchknkmaa.Pure
