/- slices.Insert of one element, walked. -/
import Derived.WalkKit
import Derived.ProofKit
import Derived.Shelf.RegionOpenPlain
import Derived.Lib.Walk
import Derived.Lib.SliceRun
import Derived.Lib.JoinLaws
import Derived.Lib.AppendZeros
import Derived.Lib.AppendZerosOnto
import Derived.Lib.Overlaps
import Derived.Laws.Externs
import Derived.Laws.IdiomCopy
import Derived.Shelf.Spec.SlicesInsert
import Derived.Shelf.Spec.SlicesInsertGrow
import Derived.Test.YtegcfbmleimcfaaTM
import Derived.Test.YtegcfbmleimcfaaKc
namespace Go.AX
open Go.Proofs Go.Shelf Go.RowKit Go.Lib
set_option autoImplicit false
set_option linter.unusedVariables false
set_option linter.unusedSimpArgs false
set_option maxRecDepth 100000
set_option maxHeartbeats 4000000
theorem insTI : TIok Try.prog 28 ⟨34, 48, true, true, [.int .i64, .bool, .big 32 .u8], .struct [(0, 3), (1, 4), (2, 26)]⟩ := okTI_ok (by kernel_rfl)
theorem insShift (b n c i vb vc : Nat) (cc cv : Array Value) (w : World) (hi : i < n) (hroom : n + 1 ≤ c) (hc63 : c ≤ 9223372036854775807) (hvb : vb ≠ b) (hb : w.heap[b]? = some (.cells cc 28 (0, 0))) (hcs : cc.size = c * 34) (hv : w.heap[vb]? = some (.cells cv 28 (0, 0))) (hvs : 34 ≤ cv.size)
    (h1 : ∀ v ∈ cc.toList, v.oneCell' = true) (h1v : ∀ v ∈ cv.toList, v.oneCell' = true) (X1 X2 : Array Value) (hX1 : X1 = (cc.toList.take ((i + 1) * 34) ++ (cc.toList.drop (i * 34)).take ((n - i) * 34) ++ cc.toList.drop ((i + 1) * 34 + (n - i) * 34)).toArray)
    (hX2 : X2 = (X1.toList.take (i * 34) ++ cv.toList.take 34 ++ X1.toList.drop (i * 34 + 34)).toArray) :
    Calls Try.prog 30 #[.slice (some ⟨b, 0, none⟩) n c, .int .i64 i, .slice (some ⟨vb, 0, none⟩) 1 vc] w fun e w' =>
      e = .returned (.slice (some ⟨b, 0, none⟩) (n + 1) c) ∧ w' = (w.drew.setRow b X1).setRow b X2 := by
  have hz2 : ¬ ((i : Int) = (n : Int)) := by omega
  have hov : ∀ lb cb, (callFunc 39 #[.slice (some ⟨vb, 0, none⟩) 1 vc, .slice (some ⟨b, (i + 1) * 34, none⟩) lb cb]).run Try.prog w = .ok (.value (.bool false)) w := fun lb cb => by
    rw [run_callFunc_extern Try.func39 (by kernel_rfl) (by kernel_rfl) (by kernel_rfl) (e := Extern.SlicesOverlaps.overlaps #[22, 22] #[4]) (by kernel_rfl),
      Lib.run_overlaps_apart w 22 4 28 Try.underlying22 34 (fun w => insTI.sizeOf w) ⟨vb, 0, none⟩ ⟨b, (i + 1) * 34, none⟩ 1 vc lb cb hvb 28 28 cv.size cc.size (by simp [World.shape?, hv]) (by simp [World.shape?, hb]) (by omega) (by simp [World.frozen?, hv]) (by simp [World.frozen?, hv])]
    rfl
  have hw1 : IntKind.i64.wrap ((i : Int) + 1) = (i : Int) + 1 := by rw [IntKind.wrap_i64]; omega
  have hb1 : (0 : Int) ≤ (i : Int) + 1 := by omega
  have hin : i ≤ n := by omega
  have htn : ((i : Int) + 1).toNat = i + 1 := by omega
  have hb2 : ¬ (c = i + 1) := by omega
  have hb3 : (i : Int) ≤ (n : Int) + 1 := by omega
  have hb4 : ¬ (c = i) := by omega
  have hcp1 : ∀ ty dc sc, (Builtin.copy_ #[22, 22] ty #[.slice (some ⟨b, (i + 1) * 34, none⟩) (n - i) dc, .slice (some ⟨b, i * 34, none⟩) (n + 1 - i) sc]).run Try.prog w.drew = .ok (goInt ((n - i : Nat) : Int)) (w.drew.setRow b X1) := fun ty dc sc => by
    have hm : Nat.min (n + 1 - i) (n - i) = n - i := by show min _ _ = _; omega
    have hl : ((cc.toList.drop (i * 34)).take ((n - i) * 34)).length = (n - i) * 34 := by
      have : cc.toList.length = c * 34 := by simpa using hcs
      rw [List.length_take, List.length_drop]; omega
    have := run_copy_k (P := Try.prog) (w := w.drew) (ty := ty) Try.underlying22 insTI 22 b ((i + 1) * 34) (n - i) dc (some ⟨b, i * 34, none⟩) (n + 1 - i) sc cc 28 ((cc.toList.drop (i * 34)).take ((n - i) * 34)) hb (by rw [hm, hl]) (.inr ⟨_, rfl, fun j v hj => by
      rw [Addr.add_lit]
      rw [List.getElem?_take] at hj
      split at hj
      · rw [List.getElem?_drop] at hj
        have : w.drew.heap[b]? = some (.cells cc 28 (0, 0)) := hb
        simp only [World.cell?, this]
        simpa using hj
      · cases hj⟩) (by rw [hl]; omega) (fun v hv => h1 v (List.mem_of_mem_drop (List.mem_of_mem_take hv)))
    rw [hm, hl, ← hX1] at this
    exact this
  have hcX : X1.size = cc.size := by
    have : cc.toList.length = cc.size := by simp
    rw [hX1]
    simp only [List.size_toArray, List.length_append, List.length_take, List.length_drop]
    omega
  obtain ⟨W1, hW1⟩ : ∃ W1, W1 = w.drew.setRow b X1 := ⟨_, rfl⟩
  have hb1' : W1.heap[b]? = some (.cells X1 28 (0, 0)) := by rw [hW1]; exact setRow_heap w.drew b cc X1 28 (0, 0) hb
  have hv1' : W1.heap[vb]? = some (.cells cv 28 (0, 0)) := by
    rw [hW1]
    have := (grownBy_setRow w.drew b X1).block vb (Array.getElem?_eq_some_iff.1 hv).1 (by simp [hvb])
    rw [this]; exact hv
  have hcp2 : ∀ ty dc, (Builtin.copy_ #[22, 22] ty #[.slice (some ⟨b, i * 34, none⟩) (n + 1 - i) dc, .slice (some ⟨vb, 0, none⟩) 1 vc]).run Try.prog W1 = .ok (goInt 1) (W1.setRow b X2) := fun ty dc => by
    have hm : Nat.min 1 (n + 1 - i) = 1 := by show min _ _ = _; omega
    have hl : (cv.toList.take 34).length = 34 := by
      have : cv.toList.length = cv.size := by simp
      rw [List.length_take]; omega
    have := run_copy_k (P := Try.prog) (w := W1) (ty := ty) Try.underlying22 insTI 22 b (i * 34) (n + 1 - i) dc (some ⟨vb, 0, none⟩) 1 vc X1 28 (cv.toList.take 34) hb1' (by rw [hm, hl]; rfl) (.inr ⟨_, rfl, fun j v hj => by
      rw [Addr.add_lit]
      rw [List.getElem?_take] at hj
      split at hj
      · simp only [World.cell?, hv1']
        simpa using hj
      · cases hj⟩) (by rw [hl]; omega) (fun v hv => h1v v (List.mem_of_mem_take hv))
    rw [hm, hl, ← hX2] at this
    exact this
  rw [← hW1] at hcp1 ⊢
  clear hW1 hX1 hX2 hb1' hv1' hcX
  have mixed : Try.prog.follows .mixedOrders = true := by kernel_rfl
  go_enter Try.func30, Try.ntmps30
  go_wp2_with (simp only [hov])
  go_region_law_o (refine step_copy_runI rfl _ _ 22 22 rfl _ _ (by simp [Act.eval, Act.put]) (by simp [Act.eval, Act.put]) (hcp1 _ _ _) ?_)
  go_wp2_with (at_builtin; refine wpList_copy_runI _ rfl _ _ 22 22 rfl _ _ rfl rfl (hcp2 _ _) ?_)
  go_ret
  exact ⟨rfl, rfl⟩
theorem insEnd (base : Option Addr) (n c vb vc : Nat) (w : World) (hb : base = none → n = 0) (hnc : n ≤ c) (v' : Value) (w1 : World)
    (hr : ∀ ty, (Builtin.append_ #[22, 22] ty #[.slice base n c, .slice (some ⟨vb, 0, none⟩) 1 vc]).run Try.prog w = .ok v' w1) :
    Calls Try.prog 30 #[.slice base n c, .int .i64 n, .slice (some ⟨vb, 0, none⟩) 1 vc] w fun e w' => e = .returned v' ∧ w' = w1 := by
  have mixed : Try.prog.follows .mixedOrders = true := by kernel_rfl
  go_enter Try.func30, Try.ntmps30
  cases base with
  | none =>
    have h0 := hb rfl
    subst h0
    go_wp2_with (at_builtin; refine Lib.wpList_append_run _ rfl _ _ _ _ rfl _ _ rfl rfl _ _ (hr _) ?_)
    go_ret
    exact ⟨rfl, rfl⟩
  | some a =>
    obtain ⟨ab, ao, asp⟩ := a
    go_wp2_with (at_builtin; refine Lib.wpList_append_run _ rfl _ _ _ _ rfl _ _ rfl rfl _ _ (hr _) ?_)
    all_goals (go_ret; exact ⟨rfl, rfl⟩)
theorem insGrow (b n c i vb vc : Nat) (cc cv : Array Value) (w : World) (hi : i < n) (hnc : n ≤ c) (hroom : c < n + 1) (hbig : (n + 1) * 48 ≤ 140737488355328) (hvb : vb ≠ b) (hb : w.heap[b]? = some (.cells cc 28 (0, 0))) (hcs : cc.size = c * 34) (hv : w.heap[vb]? = some (.cells cv 28 (0, 0))) (hvs : 34 ≤ cv.size)
    (h1 : ∀ v ∈ cc.toList, v.oneCell' = true) (h1v : ∀ v ∈ cv.toList, v.oneCell' = true) (z : Value) (inf : TypeInfo) (hinf : Try.prog.info? 28 = some inf) (hz : inf.zero = some z) (hzs : inf.size = 34) (hzb : inf.bytes = 48) (hz34 : z.cells.size = 34) (G : Nat) (hG : G = grownCap w (n + 1) c 28) (R0 R1 R2 : Array Value)
    (hR0 : R0 = (cc.toList.take (i * 34)).toArray ++ Builtin.zeroCells z.cells (n + 1 - i) ++ Builtin.zeroCells z.cells (G - (n + 1)))
    (hR1 : R1 = (R0.toList.take (i * 34) ++ cv.toList.take 34 ++ R0.toList.drop (i * 34 + 34)).toArray)
    (hR2 : R2 = (R1.toList.take ((i + 1) * 34) ++ (cc.toList.drop (i * 34)).take ((n - i) * 34) ++ R1.toList.drop ((i + 1) * 34 + (n - i) * 34)).toArray) :
    Calls Try.prog 30 #[.slice (some ⟨b, 0, none⟩) n c, .int .i64 i, .slice (some ⟨vb, 0, none⟩) 1 vc] w fun e w' =>
      e = .returned (.slice (some ⟨w.heap.size, 0, none⟩) (n + 1) G) ∧ w' = (((w.alloc (.cells R0 28)).drew.setRow w.heap.size R1).drew).setRow w.heap.size R2 := by
  have hbw : b < w.heap.size := (Array.getElem?_eq_some_iff.1 hb).1
  have hvw : vb < w.heap.size := (Array.getElem?_eq_some_iff.1 hv).1
  have hGn : n + 1 ≤ G := by rw [hG]; exact grownCap_ge w _ _ _
  have hGm : G ≤ maxLen := by rw [hG]; exact grownCap_le_maxLen w (n + 1) c 28 (by unfold maxLen; omega)
  have hG63 : G ≤ 9223372036854775807 := by unfold maxLen at hGm; omega
  have hR0s : R0.size = G * 34 := by
    rw [hR0]
    have : cc.toList.length = c * 34 := by simpa using hcs
    simp only [Array.size_append, List.size_toArray, List.length_take, size_zeroCells, hz34]
    omega
  have hold : (Builtin.firstCells inf.size i (.slice (some ⟨b, 0, none⟩) i c)).run Try.prog w.drew = .ok (cc.toList.take (i * 34)).toArray w.drew := by
    rw [hzs]
    have hl : (cc.toList.take (i * 34)).length = i * 34 := by
      have : cc.toList.length = c * 34 := by simpa using hcs
      rw [List.length_take]; omega
    exact run_firstCells_some w.drew 34 i ⟨b, 0, none⟩ i c (cc.toList.take (i * 34)) hl (fun j v hj => by
      have hb' : w.drew.heap[b]? = some (.cells cc 28 (0, 0)) := hb
      exact cells_at (o := 0) hb' (i * 34) j v (by simpa using hj))
  have hrz : ∀ ty, (Builtin.append_ #[22, 3] ty #[.slice (some ⟨b, 0, none⟩) i c, .int .i64 ((n : Int) + 1 - (i : Int))]).run Try.prog w = .ok (.slice (some ⟨w.heap.size, 0, none⟩) (n + 1) G) (w.drew.alloc (.cells R0 28)) := fun ty => by
    have hik : i + (n + 1 - i) = n + 1 := by omega
    have h := Lib.run_append_grow_zeros (P := Try.prog) w 22 3 ty 28 inf z .i64 .i64 Try.underlying22 Try.underlying3 hinf hz (some ⟨b, 0, none⟩) i c (cc.toList.take (i * 34)) hold (n + 1 - i) (by omega) (by omega) (by omega) (by omega) (by rw [hzb]; omega) (by rw [hzb, hik]; exact growslice_fits hroom hbig)
    rw [hik, ← hG, ← hR0] at h
    rw [show (n : Int) + 1 - (i : Int) = ((n + 1 - i : Nat) : Int) by omega]
    exact h
  obtain ⟨N, hN⟩ : ∃ N, N = w.heap.size := ⟨_, rfl⟩
  rw [← hN] at hrz ⊢
  have hNb : N ≠ b := by omega
  have hNv : N ≠ vb := by omega
  have ci : ∀ W : World, W.heap[N]? = some (.cells R0 28 (0, 0)) → W.heap[vb]? = some (.cells cv 28 (0, 0)) → ∀ ty dc, (Builtin.copy_ #[22, 22] ty #[.slice (some ⟨N, i * 34, none⟩) (n + 1 - i) dc, .slice (some ⟨vb, 0, none⟩) 1 vc]).run Try.prog W = .ok (goInt 1) (W.setRow N R1) := fun W hWN hWv ty dc => by
    have hm : Nat.min 1 (n + 1 - i) = 1 := by show min _ _ = _; omega
    have hl : (cv.toList.take 34).length = 34 := by
      have : cv.toList.length = cv.size := by simp
      rw [List.length_take]; omega
    have := run_copy_k (P := Try.prog) (w := W) (ty := ty) Try.underlying22 insTI 22 N (i * 34) (n + 1 - i) dc (some ⟨vb, 0, none⟩) 1 vc R0 28 (cv.toList.take 34) hWN (by rw [hm, hl]; rfl) (.inr ⟨_, rfl, fun j v hj => cells_at (o := 0) hWv 34 j v (by simpa using hj)⟩) (by rw [hl]; omega) (fun v hv => h1v v (List.mem_of_mem_take hv))
    rw [hm, hl, ← hR1] at this
    exact this
  have hR1s : R1.size = G * 34 := by
    have h0 : R0.toList.length = G * 34 := by simpa using hR0s
    have h2 : cv.toList.length = cv.size := by simp
    rw [hR1]
    simp only [List.size_toArray, List.length_append, List.length_take, List.length_drop]
    omega
  have cj : ∀ W : World, W.heap[N]? = some (.cells R1 28 (0, 0)) → W.heap[b]? = some (.cells cc 28 (0, 0)) → ∀ ty dc sc, (Builtin.copy_ #[22, 22] ty #[.slice (some ⟨N, (i + 1) * 34, none⟩) (n - i) dc, .slice (some ⟨b, i * 34, none⟩) (n - i) sc]).run Try.prog W = .ok (goInt ((n - i : Nat) : Int)) (W.setRow N R2) := fun W hWN hWb ty dc sc => by
    have hm : Nat.min (n - i) (n - i) = n - i := by show min _ _ = _; omega
    have hl : ((cc.toList.drop (i * 34)).take ((n - i) * 34)).length = (n - i) * 34 := by
      have : cc.toList.length = c * 34 := by simpa using hcs
      rw [List.length_take, List.length_drop]; omega
    have := run_copy_k (P := Try.prog) (w := W) (ty := ty) Try.underlying22 insTI 22 N ((i + 1) * 34) (n - i) dc (some ⟨b, i * 34, none⟩) (n - i) sc R1 28 ((cc.toList.drop (i * 34)).take ((n - i) * 34)) hWN (by rw [hm, hl]) (.inr ⟨_, rfl, cells_at hWb _⟩) (by rw [hl]; omega) (fun v hv => h1 v (List.mem_of_mem_drop (List.mem_of_mem_take hv)))
    rw [hm, hl, ← hR2] at this
    exact this
  have hz2 : ¬ ((i : Int) = (n : Int)) := by omega
  have hz3 : (c : Int) < (n : Int) + 1 := by omega
  have hGi : ¬ (G = i) := by omega
  have hGim : ¬ (G = i + 1) := by omega
  have hci : ¬ (c = i) := by omega
  have hw1 : IntKind.i64.wrap ((i : Int) + 1) = (i : Int) + 1 := by rw [IntKind.wrap_i64]; omega
  have hb1 : (0 : Int) ≤ (i : Int) + 1 := by omega
  have hin : i ≤ n := by omega
  have htn : ((i : Int) + 1).toNat = i + 1 := by omega
  have hb3 : (i : Int) ≤ (n : Int) := by omega
  have hsub : (n : Int) + 1 - (i : Int) = (n : Int) + 1 - (i : Int) := rfl
  have a1 : ((w.alloc (.cells R0 28)).drew).heap[N]? = some (.cells R0 28 (0, 0)) := by rw [hN]; exact heap_alloc_new w _
  have a2 : ((w.alloc (.cells R0 28)).drew).heap[vb]? = some (.cells cv 28 (0, 0)) := (heap_alloc_old w _ hvw).trans hv
  have a3 : ((w.alloc (.cells R0 28)).drew).heap[b]? = some (.cells cc 28 (0, 0)) := (heap_alloc_old w _ hbw).trans hb
  have b1 : (((w.alloc (.cells R0 28)).drew).setRow N R1).drew.heap[N]? = some (.cells R1 28 (0, 0)) := setRow_heap _ N R0 R1 28 (0, 0) a1
  have b2 : (((w.alloc (.cells R0 28)).drew).setRow N R1).drew.heap[b]? = some (.cells cc 28 (0, 0)) := ((grownBy_setRow ((w.alloc (.cells R0 28)).drew) N R1).block b (Array.getElem?_eq_some_iff.1 a3).1 (fun q => hNb (Option.some.inj q).symm)).trans a3
  clear hR0 hR1 hR2 hG hold hN hR0s hR1s
  have mixed : Try.prog.follows .mixedOrders = true := by kernel_rfl
  go_enter Try.func30, Try.ntmps30
  go_wp2_with (first
    | (at_builtin; refine Lib.wpList_append_run _ rfl _ _ _ _ rfl _ _ rfl rfl _ _ (hrz _) ?_)
    | (at_builtin; refine wpList_copy_runI _ rfl _ _ 22 22 rfl _ _ rfl rfl (ci _ a1 a2 _ _) ?_))
  go_region_law_o (refine step_copy_runI rfl _ _ 22 22 rfl _ _ (by simp [Act.eval, Act.put]) (by simp [Act.eval, Act.put]) (cj _ b1 b2 _ _ _) ?_)
  go_wp2
  go_ret
  exact ⟨rfl, rfl⟩
end Go.AX
