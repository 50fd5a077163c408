/- Bounds and openings of the laws' arguments. -/
import Derived.Test.YtlebjdkabepmkaaFM
import Derived.Test.YtlebjdkabepmkaaKc
namespace Go.AX
open Go.Proofs
set_option autoImplicit false
set_option linter.unusedVariables false
set_option maxRecDepth 100000
def eGeom (y : TGeom) : List D := [.int .i64 y.Conv, .int .i64 y.Soft, .int .i64 y.Seq, .int .i64 y.Size, .int .i64 y.Open]
theorem eGeom_len (a : TGeom) : (eGeom a).length = 5 := rfl
theorem eGeom_noL (a : TGeom) : ∀ d ∈ eGeom a, d.noL := by intro d hd; simp [eGeom] at hd; rcases hd with rfl | rfl | rfl | rfl | rfl <;> trivial
def eAt (y : TAt) : List D := [.int .i64 y.Zone, .int .i64 y.Off]
theorem eAt_len (a : TAt) : (eAt a).length = 2 := rfl
theorem eAt_noL (a : TAt) : ∀ d ∈ eAt a, d.noL := by intro d hd; simp [eAt] at hd; rcases hd with rfl | rfl <;> trivial
def BGeom (y : TGeom) : Prop := (Lit.int .i64 y.Conv).wf = true ∧ (Lit.int .i64 y.Soft).wf = true ∧ (Lit.int .i64 y.Seq).wf = true ∧ (Lit.int .i64 y.Size).wf = true ∧ (Lit.int .i64 y.Open).wf = true
theorem opGeom : OpD Try.prog 23 eGeom BGeom := (OpD.struct Try.underlying23 (OpDs.cons (n := 1) rfl (by kernel_rfl) (OpD.int Try.underlying3) (OpDs.cons (n := 1) rfl (by kernel_rfl) (OpD.int Try.underlying3) (OpDs.cons (n := 1) rfl (by kernel_rfl) (OpD.int Try.underlying3) (OpDs.cons (n := 1) rfl (by kernel_rfl) (OpD.int Try.underlying3) (OpDs.one (n := 1) rfl (by kernel_rfl) (by kernel_rfl) (OpD.int Try.underlying3))))))).iso (fun x => (⟨x.1, x.2.1, x.2.2.1, x.2.2.2.1, x.2.2.2.2⟩ : TGeom)) _ (fun x => by first | rfl | simp [eGeom, eI, eB, encL]) _ (fun x h => h)
def BZone (y : TZone) : Prop := (Lit.int .i64 y.State).wf = true ∧ (Lit.int .i64 y.Point).wf = true
theorem opZone : OpD Try.prog 36 eZone BZone := (OpD.struct Try.underlying36 (OpDs.cons (n := 1) rfl (by kernel_rfl) (OpD.int Try.underlying3) (OpDs.one (n := 1) rfl (by kernel_rfl) (by kernel_rfl) (OpD.int Try.underlying3)))).iso (fun x => (⟨x.1, x.2⟩ : TZone)) _ (fun x => by first | rfl | simp [eZone, eI, eB, encL]) _ (fun x h => h)
def BAt (y : TAt) : Prop := (Lit.int .i64 y.Zone).wf = true ∧ (Lit.int .i64 y.Off).wf = true
theorem opAt : OpD Try.prog 32 eAt BAt := (OpD.struct Try.underlying32 (OpDs.cons (n := 1) rfl (by kernel_rfl) (OpD.int Try.underlying3) (OpDs.one (n := 1) rfl (by kernel_rfl) (by kernel_rfl) (OpD.int Try.underlying3)))).iso (fun x => (⟨x.1, x.2⟩ : TAt)) _ (fun x => by first | rfl | simp [eAt, eI, eB, encL]) _ (fun x h => h)
end Go.AX
