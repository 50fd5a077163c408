/- The row of the law ScanPrefix: whatever it is handed, it answers true, and what it was handed reads as before; out of its contract and its plain law. -/
import Derived.Test.YtgphlcbjgcogkaaRows
import Derived.WalkKit
import Derived.ProofKit
import Derived.OpenShut
import Derived.ShutString
import Derived.ChangeOld
import Derived.Below
import Derived.SizedLaws
import Derived.Carry
import Derived.Test.YtgphlcbjgcogkaaXR
import Derived.Test.YtgphlcbjgcogkaaXS32
import Derived.Test.YtgphlcbjgcogkaaXPScanPrefix
namespace Go.Proofs.Ytgphlcbjgcogkaa.scanPrefix
open Go.ChangeShapes Go.WideShapes Go.ChangeAt Go.RowKit Go.AX
open Go.ChangeMaps (open_string shut_string)
set_option linter.unusedVariables false
theorem own : ownKnob Try.prog.godebug = none := by kernel_rfl
theorem laidOut : laidOutB Try.prog = true := by kernel_rfl
set_option maxRecDepth 100000 in
theorem lifted (os : Os) (started : os.Started) (H : Type) (enc : TypeId × Value → H) :
    ReturnsInHanded {} Try.checked os 6 .any (Rows.scanPrefixSpec.pre6 enc Try.prog Try.f6 Rows.scanPrefixRow.domain false) (Rows.scanPrefixSpec.post enc Try.prog Try.f6 false true false false) := by
  refine returnsInHanded_of_change_sized (C := Try.checked) own started (by kernel_rfl) Try.func6
    (ChangeSpec.witness6 (enc := enc) (C := Try.checked) false ⟨#[], #[.agg #[.int .i64 0, .int .i64 0, .int .i64 0, .int .i64 0, .int .i64 0], .slice none 0 0, .int .u16 0, .agg #[.slice none 0 0, .int .u64 0, .int .i64 0]], []⟩ 8 (by kernel_rfl) (by kernel_rfl) (by kernel_rfl) (by kernel_rfl)) ?_
  intro W base args ds gs before hval0 hW hcnd hsz0 _
  have hval : ∀ (j : Nat) t v, Try.f6.params[j]? = some t → args[j]? = some v → Value.okWide Try.prog W .any base t v := hval0
  have hW' := hW
  obtain ⟨p, q, hA0, hV, rfl, hfz, hnd⟩ := hW
  have hA : DataW.TrodAll enc Try.prog W 0 (fun _ => true) true Try.f6.params.toList args.toList ds p := hA0
  rw [Try.params6] at hA hval
  obtain ⟨v0, vs0, d0, ds0, p0, q0, hargs, rfl, rfl, h0, r0⟩ := trodAll_cons hA
  obtain ⟨v1, vs1, d1, ds1, p1, q1, rfl, rfl, rfl, h1, r1⟩ := trodAll_cons r0
  obtain ⟨v2, vs2, d2, ds2, p2, q2, rfl, rfl, rfl, h2, r2⟩ := trodAll_cons r1
  obtain ⟨v3, vs3, d3, ds3, p3, q3, rfl, rfl, rfl, h3, r3⟩ := trodAll_cons r2
  obtain ⟨rfl, rfl, rfl⟩ := trodAll_nil r3
  obtain rfl : args = #[v0, v1, v2, v3] := by cases args; simp_all
  obtain ⟨rfl, rfl⟩ := trodVars_none hV
  have k0 := h0
  have lt0 : ∀ x ∈ p0, x.block < W.heap.size := by obtain ⟨m, hm⟩ := k0; exact DataW.trod_lt m _ _ _ hm
  obtain ⟨fu0, hf0⟩ := h0
  obtain ⟨cs0, rfl, hs0⟩ := okWide_struct Try.underlying35 (hval 0 35 v0 rfl rfl)
  obtain ⟨x0, hK0, hl0, w0⟩ := opGeom _ enc W 0 _ true fu0 _ _ hf0
  have k1 := h1
  have lt1 : ∀ x ∈ p1, x.block < W.heap.size := by obtain ⟨m, hm⟩ := k1; exact DataW.trod_lt m _ _ _ hm
  obtain ⟨fu1, hf1⟩ := h1
  obtain ⟨A1', len1', cap1', rfl⟩ := okWide_slice Try.underlying47 (hval 1 47 v1 rfl rfl)
  obtain ⟨x1, hK1, hl1, w1⟩ := (OpD.slice Try.underlying47 (by kernel_rfl) (eI_len .u8) (by decide) (OpD.int Try.underlying5)) _ enc W 0 _ true fu1 _ _ hf1
  have k2 := h2
  have lt2 : ∀ x ∈ p2, x.block < W.heap.size := by obtain ⟨m, hm⟩ := k2; exact DataW.trod_lt m _ _ _ hm
  obtain ⟨a2, rfl, rfl, rfl, w2⟩ := open_int Try.underlying48 (hval 2 48 v2 rfl rfl) h2
  have k3 := h3
  have lt3 : ∀ x ∈ p3, x.block < W.heap.size := by obtain ⟨m, hm⟩ := k3; exact DataW.trod_lt m _ _ _ hm
  obtain ⟨fu3, hf3⟩ := h3
  obtain ⟨cs3, rfl, hs3⟩ := okWide_struct Try.underlying52 (hval 3 52 v3 rfl rfl)
  obtain ⟨x3, hK3, hl3, w3⟩ := opWreck _ enc W 0 _ true fu3 _ _ hf3
  clear hA0 hval0 hsz0
  have hk := law_ScanPrefix x0 x1 a2 x3 w0 w1 w2 w3
  refine ((s6 zstd hk).2 (fun b => W.heap[b]?) W #[_, _, _, _] (fun b o h => h) ?_).mono fun e W' he0 => ?_
  · simp only [repVs]
    exact ⟨_, _, rfl, ⟨cs0, rfl, repC_of_plain (E := E0 fun b => W.heap[b]?) _ _ hK0 hl0⟩, ⟨_, _, rfl, (repV_of_d (E := E0 fun b => W.heap[b]?) (repC_of_plain (E := E0 fun b => W.heap[b]?) _ _ hK1 hl1)), ⟨_, _, rfl, (by simp only [repV, repD]), ⟨_, _, rfl, ⟨cs3, rfl, repC_of_plain (E := E0 fun b => W.heap[b]?) _ _ hK3 hl3⟩, rfl⟩⟩⟩⟩
  obtain ⟨v, C, rfl, hD⟩ := he0
  obtain ⟨rfl, bel⟩ := law_below hD
  exact ⟨_, rfl, _, _, _, [], _, [], hW', trodAll_mk1 (shut_bool Try.underlying4 _), (trodAll_cons_mk (Below.trod laidOut (by kernel_rfl) (of_decide_eq_true (by kernel_rfl)) k0 bel lt0) (trodAll_cons_mk (Below.trod laidOut (by kernel_rfl) (of_decide_eq_true (by kernel_rfl)) k1 bel lt1) (trodAll_cons_mk (Below.trod laidOut (by kernel_rfl) (of_decide_eq_true (by kernel_rfl)) k2 bel lt2) (trodAll_cons_mk (Below.trod laidOut (by kernel_rfl) (of_decide_eq_true (by kernel_rfl)) k3 bel lt3) trodAll_mk0)))), rfl, bel.frame _, fun h => by cases h⟩
theorem over : Rows.scanPrefixRow.holds Try.pinned (OpenSpec.ofChange Rows.scanPrefixSpec) :=
  OpenClaim.holds_of_wide 6 Try.f6 rfl rfl rfl rfl rfl rfl rfl ⟨rfl, rfl, rfl, rfl, rfl⟩ rfl rfl rfl rfl rfl (by kernel_rfl) Try.func6 (by kernel_rfl)
    (of_decide_eq_true (by kernel_rfl)) (by unfold Func.isWrapper; first | (rw [if_pos (by decide +kernel)]; kernel_rfl) | (rw [if_neg (by decide +kernel)]; exact ⟨rfl, rfl⟩))
    (fun os started H enc _ => lifted os started H enc)
theorem proved : Rows.ScanPrefixSaid := over
end Go.Proofs.Ytgphlcbjgcogkaa.scanPrefix
namespace Go.Proofs.Ytgphlcbjgcogkaa
/-- The row, under a short name, for the claim. -/
theorem scanPrefix_holds : Rows.ScanPrefixSaid := scanPrefix.proved
#print axioms scanPrefix_holds
end Go.Proofs.Ytgphlcbjgcogkaa
