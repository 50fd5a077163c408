/- The row of the law ScanChains: whatever it is handed, it answers true, and what it was handed reads as before; out of its contract and its plain law. -/
import Derived.Test.YtgphlcbjgcogkaaRows
import Derived.WalkKit
import Derived.ProofKit
import Derived.OpenShut
import Derived.ShutString
import Derived.ChangeOld
import Derived.Below
import Derived.SizedLaws
import Derived.Carry
import Derived.Test.YtgphlcbjgcogkaaXR
import Derived.Test.YtgphlcbjgcogkaaXS30
import Derived.Test.YtgphlcbjgcogkaaXPScanChains
namespace Go.Proofs.Ytgphlcbjgcogkaa.scanChains
open Go.ChangeShapes Go.WideShapes Go.ChangeAt Go.RowKit Go.AX
open Go.ChangeMaps (open_string shut_string)
set_option linter.unusedVariables false
theorem own : ownKnob Try.prog.godebug = none := by kernel_rfl
theorem laidOut : laidOutB Try.prog = true := by kernel_rfl
set_option maxRecDepth 100000 in
theorem lifted (os : Os) (started : os.Started) (H : Type) (enc : TypeId × Value → H) :
    ReturnsInHanded {} Try.checked os 3 .any (Rows.scanChainsSpec.pre6 enc Try.prog Try.f3 Rows.scanChainsRow.domain false) (Rows.scanChainsSpec.post enc Try.prog Try.f3 false true false false) := by
  refine returnsInHanded_of_change_sized (C := Try.checked) own started (by kernel_rfl) Try.func3
    (ChangeSpec.witness6 (enc := enc) (C := Try.checked) false ⟨#[], #[.slice none 0 0, .int .i64 0], []⟩ 8 (by kernel_rfl) (by kernel_rfl) (by kernel_rfl) (by kernel_rfl)) ?_
  intro W base args ds gs before hval0 hW hcnd hsz0 _
  have hval : ∀ (j : Nat) t v, Try.f3.params[j]? = some t → args[j]? = some v → Value.okWide Try.prog W .any base t v := hval0
  have hW' := hW
  obtain ⟨p, q, hA0, hV, rfl, hfz, hnd⟩ := hW
  have hA : DataW.TrodAll enc Try.prog W 0 (fun _ => true) true Try.f3.params.toList args.toList ds p := hA0
  rw [Try.params3] at hA hval
  obtain ⟨v0, vs0, d0, ds0, p0, q0, hargs, rfl, rfl, h0, r0⟩ := trodAll_cons hA
  obtain ⟨v1, vs1, d1, ds1, p1, q1, rfl, rfl, rfl, h1, r1⟩ := trodAll_cons r0
  obtain ⟨rfl, rfl, rfl⟩ := trodAll_nil r1
  obtain rfl : args = #[v0, v1] := by cases args; simp_all
  obtain ⟨rfl, rfl⟩ := trodVars_none hV
  have k0 := h0
  have lt0 : ∀ x ∈ p0, x.block < W.heap.size := by obtain ⟨m, hm⟩ := k0; exact DataW.trod_lt m _ _ _ hm
  obtain ⟨fu0, hf0⟩ := h0
  obtain ⟨A0', len0', cap0', rfl⟩ := okWide_slice Try.underlying22 (hval 0 22 v0 rfl rfl)
  obtain ⟨x0, hK0, hl0, w0⟩ := (OpD.slice Try.underlying22 (by kernel_rfl) eFound_len (by decide) opFound) _ enc W 0 _ true fu0 _ _ hf0
  have k1 := h1
  have lt1 : ∀ x ∈ p1, x.block < W.heap.size := by obtain ⟨m, hm⟩ := k1; exact DataW.trod_lt m _ _ _ hm
  obtain ⟨a1, rfl, rfl, rfl, w1⟩ := open_int Try.underlying3 (hval 1 3 v1 rfl rfl) h1
  clear hA0 hval0 hsz0
  have hk := law_ScanChains x0 a1 w0 w1
  refine ((s3 zstd hk).2 (fun b => W.heap[b]?) W #[_, _] (fun b o h => h) ?_).mono fun e W' he0 => ?_
  · simp only [repVs]
    exact ⟨_, _, rfl, (repV_of_d (E := E0 fun b => W.heap[b]?) (repC_of_plain (E := E0 fun b => W.heap[b]?) _ _ hK0 hl0)), ⟨_, _, rfl, (by simp only [repV, repD]), rfl⟩⟩
  obtain ⟨v, C, rfl, hD⟩ := he0
  obtain ⟨rfl, bel⟩ := law_below hD
  exact ⟨_, rfl, _, _, _, [], _, [], hW', trodAll_mk1 (shut_bool Try.underlying4 _), (trodAll_cons_mk (Below.trod laidOut (by kernel_rfl) (of_decide_eq_true (by kernel_rfl)) k0 bel lt0) (trodAll_cons_mk (Below.trod laidOut (by kernel_rfl) (of_decide_eq_true (by kernel_rfl)) k1 bel lt1) trodAll_mk0)), rfl, bel.frame _, fun h => by cases h⟩
theorem over : Rows.scanChainsRow.holds Try.pinned (OpenSpec.ofChange Rows.scanChainsSpec) :=
  OpenClaim.holds_of_wide 3 Try.f3 rfl rfl rfl rfl rfl rfl rfl ⟨rfl, rfl, rfl, rfl, rfl⟩ rfl rfl rfl rfl rfl (by kernel_rfl) Try.func3 (by kernel_rfl)
    (of_decide_eq_true (by kernel_rfl)) (by unfold Func.isWrapper; first | (rw [if_pos (by decide +kernel)]; kernel_rfl) | (rw [if_neg (by decide +kernel)]; exact ⟨rfl, rfl⟩))
    (fun os started H enc _ => lifted os started H enc)
theorem proved : Rows.ScanChainsSaid := over
end Go.Proofs.Ytgphlcbjgcogkaa.scanChains
namespace Go.Proofs.Ytgphlcbjgcogkaa
/-- The row, under a short name, for the claim. -/
theorem scanChains_holds : Rows.ScanChainsSaid := scanChains.proved
#print axioms scanChains_holds
end Go.Proofs.Ytgphlcbjgcogkaa
