/- Bounds and openings of the laws' arguments. -/
import Derived.Test.YtgphlcbjgcogkaaXM
import Derived.Test.YtgphlcbjgcogkaaKc
namespace Go.AX
open Go.Proofs
set_option autoImplicit false
set_option linter.unusedVariables false
set_option maxRecDepth 100000
def eRec (y : TRec) : List D := [.int .i64 y.Kind, .int .i64 y.Epoch, .int .i64 y.Seq, .int .i64 y.Block, .int .i64 y.Count] ++ (encL (eI .u8) y.Data.l)
theorem eRec_len (a : TRec) : (eRec a).length = 37 := by simp [eRec, encL_len (eI_len .u8), Ar.h]
theorem eRec_noL (a : TRec) : ∀ d ∈ eRec a, d.noL := (noLapp (noLcons trivial (noLcons trivial (noLcons trivial (noLcons trivial (noLcons trivial noLnil))))) (eA_noL _ a.Data))
def eGeom (y : TGeom) : List D := [.int .i64 y.Conv, .int .i64 y.Soft, .int .i64 y.Seq, .int .i64 y.Size, .int .i64 y.Open]
theorem eGeom_len (a : TGeom) : (eGeom a).length = 5 := rfl
theorem eGeom_noL (a : TGeom) : ∀ d ∈ eGeom a, d.noL := by intro d hd; simp [eGeom] at hd; rcases hd with rfl | rfl | rfl | rfl | rfl <;> trivial
def eWreck (y : TWreck) : List D := [.lst (encL (eI .i64) y.Keep) y.Keep.length, .int .u64 y.Soft, .int .i64 y.Tear]
theorem eWreck_len (a : TWreck) : (eWreck a).length = 3 := rfl
def BRec (y : TRec) : Prop := (Lit.int .i64 y.Kind).wf = true ∧ (Lit.int .i64 y.Epoch).wf = true ∧ (Lit.int .i64 y.Seq).wf = true ∧ (Lit.int .i64 y.Block).wf = true ∧ (Lit.int .i64 y.Count).wf = true ∧ (∀ x ∈ y.Data.l, (Lit.int .u8 x).wf = true)
theorem opRec : OpD Try.prog 31 eRec BRec := (OpD.struct Try.underlying31 (OpDs.cons (n := 1) rfl (by kernel_rfl) (OpD.int Try.underlying3) (OpDs.cons (n := 1) rfl (by kernel_rfl) (OpD.int Try.underlying3) (OpDs.cons (n := 1) rfl (by kernel_rfl) (OpD.int Try.underlying3) (OpDs.cons (n := 1) rfl (by kernel_rfl) (OpD.int Try.underlying3) (OpDs.cons (n := 1) rfl (by kernel_rfl) (OpD.int Try.underlying3) (OpDs.one (n := 32) rfl (by kernel_rfl) (by kernel_rfl) (OpD.array Try.underlying29 Try.underlying5 (by kernel_rfl) (by kernel_rfl))))))))).iso (fun x => (⟨x.1, x.2.1, x.2.2.1, x.2.2.2.1, x.2.2.2.2.1, x.2.2.2.2.2⟩ : TRec)) _ (fun x => by first | rfl | simp [eRec, eI, eB, encL]) _ (fun x h => h)
def BFound (y : TFound) : Prop := (Lit.int .i64 y.Place).wf = true ∧ BRec y.Rec
theorem opFound : OpD Try.prog 33 eFound BFound := (OpD.struct Try.underlying33 (OpDs.cons (n := 1) rfl (by kernel_rfl) (OpD.int Try.underlying3) (OpDs.one (n := 37) rfl (by kernel_rfl) (by kernel_rfl) opRec))).iso (fun x => (⟨x.1, x.2⟩ : TFound)) _ (fun x => by first | rfl | simp [eFound, eI, eB, encL]) _ (fun x h => h)
def BGeom (y : TGeom) : Prop := (Lit.int .i64 y.Conv).wf = true ∧ (Lit.int .i64 y.Soft).wf = true ∧ (Lit.int .i64 y.Seq).wf = true ∧ (Lit.int .i64 y.Size).wf = true ∧ (Lit.int .i64 y.Open).wf = true
theorem opGeom : OpD Try.prog 35 eGeom BGeom := (OpD.struct Try.underlying35 (OpDs.cons (n := 1) rfl (by kernel_rfl) (OpD.int Try.underlying3) (OpDs.cons (n := 1) rfl (by kernel_rfl) (OpD.int Try.underlying3) (OpDs.cons (n := 1) rfl (by kernel_rfl) (OpD.int Try.underlying3) (OpDs.cons (n := 1) rfl (by kernel_rfl) (OpD.int Try.underlying3) (OpDs.one (n := 1) rfl (by kernel_rfl) (by kernel_rfl) (OpD.int Try.underlying3))))))).iso (fun x => (⟨x.1, x.2.1, x.2.2.1, x.2.2.2.1, x.2.2.2.2⟩ : TGeom)) _ (fun x => by first | rfl | simp [eGeom, eI, eB, encL]) _ (fun x h => h)
def BRef14_Step (y : TRef14_Step) : Prop := (Lit.int .u8 y.Zone).wf = true ∧ BRec y.Rec ∧ True
theorem opRef14_Step : OpD Try.prog 55 eRef14_Step BRef14_Step := (OpD.struct Try.underlying55 (OpDs.cons (n := 1) rfl (by kernel_rfl) (OpD.int Try.underlying5) (OpDs.cons (n := 37) rfl (by kernel_rfl) opRec (OpDs.one (n := 1) rfl (by kernel_rfl) (by kernel_rfl) (OpD.bool Try.underlying4))))).iso (fun x => (⟨x.1, x.2.1, x.2.2⟩ : TRef14_Step)) _ (fun x => by first | rfl | simp [eRef14_Step, eI, eB, encL]) _ (fun x h => h)
def BWreck (y : TWreck) : Prop := ((∀ x ∈ y.Keep, (Lit.int .i64 x).wf = true) ∧ y.Keep.length ≤ maxLen) ∧ (Lit.int .u64 y.Soft).wf = true ∧ (Lit.int .i64 y.Tear).wf = true
theorem opWreck : OpD Try.prog 52 eWreck BWreck := (OpD.struct Try.underlying52 (OpDs.cons (n := 1) rfl (by kernel_rfl) (OpD.slice Try.underlying49 (by kernel_rfl) (eI_len .i64) (by decide) (OpD.int Try.underlying3)) (OpDs.cons (n := 1) rfl (by kernel_rfl) (OpD.int Try.underlying50) (OpDs.one (n := 1) rfl (by kernel_rfl) (by kernel_rfl) (OpD.int Try.underlying3))))).iso (fun x => (⟨x.1, x.2.1, x.2.2⟩ : TWreck)) _ (fun x => by first | rfl | simp [eWreck, eI, eB, encL]) _ (fun x h => h)
end Go.AX
