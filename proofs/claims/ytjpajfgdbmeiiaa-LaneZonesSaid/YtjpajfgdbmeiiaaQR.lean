/- Bounds and openings of the laws' arguments. -/
import Derived.Test.YtjpajfgdbmeiiaaQM
import Derived.Test.YtjpajfgdbmeiiaaKc
namespace Go.AX
open Go.Proofs
set_option autoImplicit false
set_option linter.unusedVariables false
set_option maxRecDepth 100000
def eGeom (y : TGeom) : List D := [.int .i64 y.Conv, .int .i64 y.Soft, .int .i64 y.Seq, .int .i64 y.Size, .int .i64 y.Open]
theorem eGeom_len (a : TGeom) : (eGeom a).length = 5 := rfl
theorem eGeom_noL (a : TGeom) : ∀ d ∈ eGeom a, d.noL := by intro d hd; simp [eGeom] at hd; rcases hd with rfl | rfl | rfl | rfl | rfl <;> trivial
def ePool (y : TPool) : List D := [.lst (encL (eI .i64) y.Points) y.Points.length, .int .i64 y.Heads.x0, .int .i64 y.Heads.x1, .int .i64 y.Heads.x2]
theorem ePool_len (a : TPool) : (ePool a).length = 4 := rfl
def BGeom (y : TGeom) : Prop := (Lit.int .i64 y.Conv).wf = true ∧ (Lit.int .i64 y.Soft).wf = true ∧ (Lit.int .i64 y.Seq).wf = true ∧ (Lit.int .i64 y.Size).wf = true ∧ (Lit.int .i64 y.Open).wf = true
theorem opGeom : OpD Try.prog 23 eGeom BGeom := (OpD.struct Try.underlying23 (OpDs.cons (n := 1) rfl (by kernel_rfl) (OpD.int Try.underlying3) (OpDs.cons (n := 1) rfl (by kernel_rfl) (OpD.int Try.underlying3) (OpDs.cons (n := 1) rfl (by kernel_rfl) (OpD.int Try.underlying3) (OpDs.cons (n := 1) rfl (by kernel_rfl) (OpD.int Try.underlying3) (OpDs.one (n := 1) rfl (by kernel_rfl) (by kernel_rfl) (OpD.int Try.underlying3))))))).iso (fun x => (⟨x.1, x.2.1, x.2.2.1, x.2.2.2.1, x.2.2.2.2⟩ : TGeom)) _ (fun x => by first | rfl | simp [eGeom, eI, eB, encL]) _ (fun x h => h)
def BPool (y : TPool) : Prop := ((∀ x ∈ y.Points, (Lit.int .i64 x).wf = true) ∧ y.Points.length ≤ maxLen) ∧ (∀ x ∈ y.Heads.l, (Lit.int .i64 x).wf = true)
theorem opPool : OpD Try.prog 27 ePool BPool := (OpD.struct Try.underlying27 (OpDs.cons (n := 1) rfl (by kernel_rfl) (OpD.slice Try.underlying24 (by kernel_rfl) (eI_len .i64) (by decide) (OpD.int Try.underlying3)) (OpDs.one (n := 3) rfl (by kernel_rfl) (by kernel_rfl) (OpD.a3 Try.underlying25 Try.underlying3 (by kernel_rfl) (by kernel_rfl))))).iso (fun x => (⟨x.1, x.2⟩ : TPool)) _ (fun x => by first | rfl | simp [ePool, eI, eB, encL]) _ (fun x h => h)
def BZone (y : TZone) : Prop := (Lit.int .i64 y.State).wf = true ∧ (Lit.int .i64 y.Point).wf = true
theorem opZone : OpD Try.prog 75 eZone BZone := (OpD.struct Try.underlying75 (OpDs.cons (n := 1) rfl (by kernel_rfl) (OpD.int Try.underlying3) (OpDs.one (n := 1) rfl (by kernel_rfl) (by kernel_rfl) (OpD.int Try.underlying3)))).iso (fun x => (⟨x.1, x.2⟩ : TZone)) _ (fun x => by first | rfl | simp [eZone, eI, eB, encL]) _ (fun x h => h)
def BLaw11_Act (y : TLaw11_Act) : Prop := (Lit.int .u8 y.Kind).wf = true ∧ (Lit.int .u8 y.Zone).wf = true
theorem opLaw11_Act : OpD Try.prog 51 eLaw11_Act BLaw11_Act := (OpD.struct Try.underlying51 (OpDs.cons (n := 1) rfl (by kernel_rfl) (OpD.int Try.underlying5) (OpDs.one (n := 1) rfl (by kernel_rfl) (by kernel_rfl) (OpD.int Try.underlying5)))).iso (fun x => (⟨x.1, x.2⟩ : TLaw11_Act)) _ (fun x => by first | rfl | simp [eLaw11_Act, eI, eB, encL]) _ (fun x h => h)
end Go.AX
