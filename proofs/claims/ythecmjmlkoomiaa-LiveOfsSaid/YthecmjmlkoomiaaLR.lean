/- Bounds and openings of the laws' arguments. -/
import Derived.Test.YthecmjmlkoomiaaLM
import Derived.Test.YthecmjmlkoomiaaKc
namespace Go.AX
open Go.Proofs
set_option autoImplicit false
set_option linter.unusedVariables false
set_option maxRecDepth 100000
def eGeom (y : TGeom) : List D := [.int .i64 y.Conv, .int .i64 y.Soft, .int .i64 y.Seq, .int .i64 y.Size, .int .i64 y.Open]
theorem eGeom_len (a : TGeom) : (eGeom a).length = 5 := rfl
theorem eGeom_noL (a : TGeom) : ∀ d ∈ eGeom a, d.noL := by intro d hd; simp [eGeom] at hd; rcases hd with rfl | rfl | rfl | rfl | rfl <;> trivial
def BGeom (y : TGeom) : Prop := (Lit.int .i64 y.Conv).wf = true ∧ (Lit.int .i64 y.Soft).wf = true ∧ (Lit.int .i64 y.Seq).wf = true ∧ (Lit.int .i64 y.Size).wf = true ∧ (Lit.int .i64 y.Open).wf = true
theorem opGeom : OpD Try.prog 23 eGeom BGeom := (OpD.struct Try.underlying23 (OpDs.cons (n := 1) rfl (by kernel_rfl) (OpD.int Try.underlying3) (OpDs.cons (n := 1) rfl (by kernel_rfl) (OpD.int Try.underlying3) (OpDs.cons (n := 1) rfl (by kernel_rfl) (OpD.int Try.underlying3) (OpDs.cons (n := 1) rfl (by kernel_rfl) (OpD.int Try.underlying3) (OpDs.one (n := 1) rfl (by kernel_rfl) (by kernel_rfl) (OpD.int Try.underlying3))))))).iso (fun x => (⟨x.1, x.2.1, x.2.2.1, x.2.2.2.1, x.2.2.2.2⟩ : TGeom)) _ (fun x => by first | rfl | simp [eGeom, eI, eB, encL]) _ (fun x h => h)
def BRef10_Cell (y : TRef10_Cell) : Prop := (Lit.int .i64 y.Place).wf = true ∧ (Lit.int .i64 y.Block).wf = true
theorem opRef10_Cell : OpD Try.prog 69 eRef10_Cell BRef10_Cell := (OpD.struct Try.underlying69 (OpDs.cons (n := 1) rfl (by kernel_rfl) (OpD.int Try.underlying3) (OpDs.one (n := 1) rfl (by kernel_rfl) (by kernel_rfl) (OpD.int Try.underlying3)))).iso (fun x => (⟨x.1, x.2⟩ : TRef10_Cell)) _ (fun x => by first | rfl | simp [eRef10_Cell, eI, eB, encL]) _ (fun x h => h)
def BLaw10_Act (y : TLaw10_Act) : Prop := True ∧ BRef10_Cell y.Cell
theorem opLaw10_Act : OpD Try.prog 71 eLaw10_Act BLaw10_Act := (OpD.struct Try.underlying71 (OpDs.cons (n := 1) rfl (by kernel_rfl) (OpD.bool Try.underlying4) (OpDs.one (n := 2) rfl (by kernel_rfl) (by kernel_rfl) opRef10_Cell))).iso (fun x => (⟨x.1, x.2⟩ : TLaw10_Act)) _ (fun x => by first | rfl | simp [eLaw10_Act, eI, eB, encL]) _ (fun x h => h)
end Go.AX
