/- Bounds and openings of the laws' arguments. -/
import Derived.Test.YthecmjmlkoomiaaRM
import Derived.Test.YthecmjmlkoomiaaKc
namespace Go.AX
open Go.Proofs
set_option autoImplicit false
set_option linter.unusedVariables false
set_option maxRecDepth 100000
def eGeom (y : TGeom) : List D := [.int .i64 y.Conv, .int .i64 y.Soft, .int .i64 y.Seq, .int .i64 y.Size, .int .i64 y.Open]
theorem eGeom_len (a : TGeom) : (eGeom a).length = 5 := rfl
theorem eGeom_noL (a : TGeom) : ∀ d ∈ eGeom a, d.noL := by intro d hd; simp [eGeom] at hd; rcases hd with rfl | rfl | rfl | rfl | rfl <;> trivial
def eWreck (y : TWreck) : List D := [.lst (encL (eI .i64) y.Keep) y.Keep.length, .int .u64 y.Soft, .int .i64 y.Tear]
theorem eWreck_len (a : TWreck) : (eWreck a).length = 3 := rfl
def BGeom (y : TGeom) : Prop := (Lit.int .i64 y.Conv).wf = true ∧ (Lit.int .i64 y.Soft).wf = true ∧ (Lit.int .i64 y.Seq).wf = true ∧ (Lit.int .i64 y.Size).wf = true ∧ (Lit.int .i64 y.Open).wf = true
theorem opGeom : OpD Try.prog 23 eGeom BGeom := (OpD.struct Try.underlying23 (OpDs.cons (n := 1) rfl (by kernel_rfl) (OpD.int Try.underlying3) (OpDs.cons (n := 1) rfl (by kernel_rfl) (OpD.int Try.underlying3) (OpDs.cons (n := 1) rfl (by kernel_rfl) (OpD.int Try.underlying3) (OpDs.cons (n := 1) rfl (by kernel_rfl) (OpD.int Try.underlying3) (OpDs.one (n := 1) rfl (by kernel_rfl) (by kernel_rfl) (OpD.int Try.underlying3))))))).iso (fun x => (⟨x.1, x.2.1, x.2.2.1, x.2.2.2.1, x.2.2.2.2⟩ : TGeom)) _ (fun x => by first | rfl | simp [eGeom, eI, eB, encL]) _ (fun x h => h)
def BAt (y : TAt) : Prop := (Lit.int .i64 y.Zone).wf = true ∧ (Lit.int .i64 y.Off).wf = true
theorem opAt : OpD Try.prog 40 eAt BAt := (OpD.struct Try.underlying40 (OpDs.cons (n := 1) rfl (by kernel_rfl) (OpD.int Try.underlying3) (OpDs.one (n := 1) rfl (by kernel_rfl) (by kernel_rfl) (OpD.int Try.underlying3)))).iso (fun x => (⟨x.1, x.2⟩ : TAt)) _ (fun x => by first | rfl | simp [eAt, eI, eB, encL]) _ (fun x h => h)
def BWreck (y : TWreck) : Prop := ((∀ x ∈ y.Keep, (Lit.int .i64 x).wf = true) ∧ y.Keep.length ≤ maxLen) ∧ (Lit.int .u64 y.Soft).wf = true ∧ (Lit.int .i64 y.Tear).wf = true
theorem opWreck : OpD Try.prog 28 eWreck BWreck := (OpD.struct Try.underlying28 (OpDs.cons (n := 1) rfl (by kernel_rfl) (OpD.slice Try.underlying25 (by kernel_rfl) (eI_len .i64) (by decide) (OpD.int Try.underlying3)) (OpDs.cons (n := 1) rfl (by kernel_rfl) (OpD.int Try.underlying26) (OpDs.one (n := 1) rfl (by kernel_rfl) (by kernel_rfl) (OpD.int Try.underlying3))))).iso (fun x => (⟨x.1, x.2.1, x.2.2⟩ : TWreck)) _ (fun x => by first | rfl | simp [eWreck, eI, eB, encL]) _ (fun x h => h)
def BRef05_Act (y : TRef05_Act) : Prop := (Lit.int .u8 y.Kind).wf = true ∧ BAt y.At ∧ (∀ x ∈ y.Page.l, (Lit.int .u8 x).wf = true) ∧ (Lit.int .i64 y.N).wf = true ∧ BWreck y.Wreck
theorem opRef05_Act : OpD Try.prog 44 eRef05_Act BRef05_Act := (OpD.struct Try.underlying44 (OpDs.cons (n := 1) rfl (by kernel_rfl) (OpD.int Try.underlying5) (OpDs.cons (n := 2) rfl (by kernel_rfl) opAt (OpDs.cons (n := 64) rfl (by kernel_rfl) (OpD.array Try.underlying42 Try.underlying5 (by kernel_rfl) (by kernel_rfl)) (OpDs.cons (n := 1) rfl (by kernel_rfl) (OpD.int Try.underlying3) (OpDs.one (n := 3) rfl (by kernel_rfl) (by kernel_rfl) opWreck)))))).iso (fun x => (⟨x.1, x.2.1, x.2.2.1, x.2.2.2.1, x.2.2.2.2⟩ : TRef05_Act)) _ (fun x => by first | rfl | simp [eRef05_Act, eI, eB, encL]) _ (fun x h => h)
end Go.AX
