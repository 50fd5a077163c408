/- The row of the law TransHandles: whatever it is handed, it answers true, and what it was handed reads as before; out of its contract and its plain law. -/
import Derived.Test.YtegcfbmleimcfaaRows
import Derived.WalkKit
import Derived.ProofKit
import Derived.OpenShut
import Derived.ShutString
import Derived.ChangeOld
import Derived.Below
import Derived.SizedLaws
import Derived.Carry
import Derived.Test.YtegcfbmleimcfaaTR
import Derived.Test.YtegcfbmleimcfaaTS20
import Derived.Test.YtegcfbmleimcfaaTPTransHandles
namespace Go.Proofs.Ytegcfbmleimcfaa.transHandles
open Go.ChangeShapes Go.WideShapes Go.ChangeAt Go.RowKit Go.AX
open Go.ChangeMaps (open_string shut_string)
set_option linter.unusedVariables false
theorem own : ownKnob Try.prog.godebug = none := by kernel_rfl
theorem laidOut : laidOutB Try.prog = true := by kernel_rfl
set_option maxRecDepth 100000 in
theorem lifted (os : Os) (started : os.Started) (H : Type) (enc : TypeId × Value → H) :
    ReturnsInHanded {} Try.checked os 6 .any (Rows.transHandlesSpec.pre6 enc Try.prog Try.f6 Rows.transHandlesRow.domain false) (Rows.transHandlesSpec.post enc Try.prog Try.f6 false true false false) := by
  refine returnsInHanded_of_change_sized (C := Try.checked) own started (by kernel_rfl) Try.func6
    (ChangeSpec.witness6 (enc := enc) (C := Try.checked) false ⟨#[], #[.slice none 0 0], []⟩ 8 (by kernel_rfl) (by kernel_rfl) (by kernel_rfl) (by kernel_rfl)) ?_
  intro W base args ds gs before hval0 hW hcnd hsz0 _
  have hval : ∀ (j : Nat) t v, Try.f6.params[j]? = some t → args[j]? = some v → Value.okWide Try.prog W .any base t v := hval0
  have hW' := hW
  obtain ⟨p, q, hA0, hV, rfl, hfz, hnd⟩ := hW
  have hA : DataW.TrodAll enc Try.prog W 0 (fun _ => true) true Try.f6.params.toList args.toList ds p := hA0
  rw [Try.params6] at hA hval
  obtain ⟨v0, vs0, d0, ds0, p0, q0, hargs, rfl, rfl, h0, r0⟩ := trodAll_cons hA
  obtain ⟨rfl, rfl, rfl⟩ := trodAll_nil r0
  obtain rfl : args = #[v0] := by cases args; simp_all
  obtain ⟨rfl, rfl⟩ := trodVars_none hV
  have k0 := h0
  have lt0 : ∀ x ∈ p0, x.block < W.heap.size := by obtain ⟨m, hm⟩ := k0; exact DataW.trod_lt m _ _ _ hm
  obtain ⟨fu0, hf0⟩ := h0
  obtain ⟨A0', len0', cap0', rfl⟩ := okWide_slice Try.underlying56 (hval 0 56 v0 rfl rfl)
  obtain ⟨x0, hK0, hl0, w0⟩ := (OpD.slice Try.underlying56 (by kernel_rfl) (eI_len .u8) (by decide) (OpD.int Try.underlying5)) _ enc W 0 _ true fu0 _ _ hf0
  clear hA0 hval0 hsz0
  have hk := law_TransHandles x0 w0
  refine ((s6 ⟨rfl, rfl⟩ hk).2 (fun b => W.heap[b]?) W #[_] (fun b o h => h) ?_).mono fun e W' he0 => ?_
  · simp only [repVs]
    exact ⟨_, _, rfl, (repV_of_d (E := E0 fun b => W.heap[b]?) (repC_of_plain (E := E0 fun b => W.heap[b]?) _ _ hK0 hl0)), rfl⟩
  obtain ⟨v, C, rfl, hD⟩ := he0
  obtain ⟨rfl, bel⟩ := law_below hD
  exact ⟨_, rfl, _, _, _, [], _, [], hW', trodAll_mk1 (shut_bool Try.underlying4 _), (trodAll_cons_mk (Below.trod laidOut (by kernel_rfl) (of_decide_eq_true (by kernel_rfl)) k0 bel lt0) trodAll_mk0), rfl, bel.frame _, fun h => by cases h⟩
theorem over : Rows.transHandlesRow.holds Try.pinned (OpenSpec.ofChange Rows.transHandlesSpec) :=
  OpenClaim.holds_of_wide 6 Try.f6 rfl rfl rfl rfl rfl rfl rfl ⟨rfl, rfl, rfl, rfl, rfl⟩ rfl rfl rfl rfl rfl (by kernel_rfl) Try.func6 (by kernel_rfl)
    (of_decide_eq_true (by kernel_rfl)) (by unfold Func.isWrapper; first | (rw [if_pos (by decide +kernel)]; kernel_rfl) | (rw [if_neg (by decide +kernel)]; exact ⟨rfl, rfl⟩))
    (fun os started H enc _ => lifted os started H enc)
theorem proved : Rows.TransHandlesSaid := over
end Go.Proofs.Ytegcfbmleimcfaa.transHandles
namespace Go.Proofs.Ytegcfbmleimcfaa
/-- The row, under a short name, for the claim. -/
theorem transHandles_holds : Rows.TransHandlesSaid := transHandles.proved
#print axioms transHandles_holds
end Go.Proofs.Ytegcfbmleimcfaa
