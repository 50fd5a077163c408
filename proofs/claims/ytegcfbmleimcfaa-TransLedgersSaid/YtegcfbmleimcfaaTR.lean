/- Bounds and openings of the laws' arguments. -/
import Derived.Test.YtegcfbmleimcfaaTM
import Derived.Test.YtegcfbmleimcfaaKc
namespace Go.AX
open Go.Proofs
set_option autoImplicit false
set_option linter.unusedVariables false
set_option maxRecDepth 100000
def eLedger (y : TLedger) : List D := [.int .i64 y.Next, .lst (encL eTrans y.Open) y.Open.length]
theorem eLedger_len (a : TLedger) : (eLedger a).length = 2 := rfl
def BWrite (y : TWrite) : Prop := (Lit.int .i64 y.Block).wf = true ∧ True ∧ (∀ x ∈ y.Data.l, (Lit.int .u8 x).wf = true)
theorem opWrite : OpD Try.prog 28 eWrite BWrite := (OpD.struct Try.underlying28 (OpDs.cons (n := 1) rfl (by kernel_rfl) (OpD.int Try.underlying3) (OpDs.cons (n := 1) rfl (by kernel_rfl) (OpD.bool Try.underlying4) (OpDs.one (n := 32) rfl (by kernel_rfl) (by kernel_rfl) (OpD.array Try.underlying26 Try.underlying5 (by kernel_rfl) (by kernel_rfl)))))).iso (fun x => (⟨x.1, x.2.1, x.2.2⟩ : TWrite)) _ (fun x => by first | rfl | simp [eWrite, eI, eB, encL]) _ (fun x h => h)
def BTrans (y : TTrans) : Prop := (Lit.int .i64 y.Id).wf = true ∧ (Lit.int .i64 y.Begin).wf = true ∧ ((∀ x ∈ y.Writes, BWrite x) ∧ y.Writes.length ≤ maxLen)
theorem opTrans : OpD Try.prog 24 eTrans BTrans := (OpD.struct Try.underlying24 (OpDs.cons (n := 1) rfl (by kernel_rfl) (OpD.int Try.underlying3) (OpDs.cons (n := 1) rfl (by kernel_rfl) (OpD.int Try.underlying3) (OpDs.one (n := 1) rfl (by kernel_rfl) (by kernel_rfl) (OpD.slice Try.underlying22 (by kernel_rfl) eWrite_len (by decide) opWrite))))).iso (fun x => (⟨x.1, x.2.1, x.2.2⟩ : TTrans)) _ (fun x => by first | rfl | simp [eTrans, eI, eB, encL]) _ (fun x h => h)
def BLedger (y : TLedger) : Prop := (Lit.int .i64 y.Next).wf = true ∧ ((∀ x ∈ y.Open, BTrans x) ∧ y.Open.length ≤ maxLen)
theorem opLedger : OpD Try.prog 39 eLedger BLedger := (OpD.struct Try.underlying39 (OpDs.cons (n := 1) rfl (by kernel_rfl) (OpD.int Try.underlying3) (OpDs.one (n := 1) rfl (by kernel_rfl) (by kernel_rfl) (OpD.slice Try.underlying37 (by kernel_rfl) eTrans_len (by decide) opTrans)))).iso (fun x => (⟨x.1, x.2⟩ : TLedger)) _ (fun x => by first | rfl | simp [eLedger, eI, eB, encL]) _ (fun x h => h)
end Go.AX
