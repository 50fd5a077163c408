/- Bounds and openings of the laws' arguments. -/
import Derived.Test.YtegcfbmleimcfaaTM
import Derived.Test.YtegcfbmleimcfaaKc
namespace Go.AX
open Go.Proofs
set_option autoImplicit false
set_option linter.unusedVariables false
set_option maxRecDepth 100000
theorem repC_nn {E : Emb} {cs : List Value} (h : repDs E.H [] cs) (l : ([] : List D).length = cs.length) : repC E [] cs := by
  have : cs = [] := List.eq_nil_of_length_eq_zero (by simpa using l.symm)
  subst this; simp [repC]
theorem repC_dd {E : Emb} {d : D} {ds : List D} {L : List V} {cs : List Value} (h : repDs E.H (d :: ds) cs) (l : (d :: ds).length = cs.length) (k : ∀ us, repDs E.H ds us → ds.length = us.length → repC E L us) : repC E (.d d :: L) cs := by
  simp only [repDs] at h
  obtain ⟨u, us, rfl, h1, h2⟩ := h
  simp only [List.length_cons] at l
  simp only [repC]
  exact .inr ⟨u, us, rfl, repD_one _ _ h1, by simp only [repV]; exact h1, k us h2 (by omega)⟩
theorem repC_bl {E : Emb} {n : Nat} {b : List D} {cs : List Value} (hn : b.length = n) (h : repDs E.H b cs) (l : b.length = cs.length) : repC E [.big n b] cs := by
  simp only [repC]
  exact .inl ⟨n, b, cs, [], rfl, by simp, by omega, hn, h, rfl⟩
def eLedger (y : TLedger) : List D := [.int .i64 y.Next, .lst (encL eTrans y.Open) y.Open.length]
theorem eLedger_len (a : TLedger) : (eLedger a).length = 2 := rfl
def BWrite (y : TWrite) : Prop := (Lit.int .i64 y.Block).wf = true ∧ True ∧ (∀ x ∈ y.Data.l, (Lit.int .u8 x).wf = true)
theorem opWrite : OpD Try.prog 28 eWrite BWrite := (OpD.struct Try.underlying28 (OpDs.cons (n := 1) rfl (by kernel_rfl) (OpD.int Try.underlying3) (OpDs.cons (n := 1) rfl (by kernel_rfl) (OpD.bool Try.underlying4) (OpDs.one (n := 32) rfl (by kernel_rfl) (by kernel_rfl) (OpD.array Try.underlying26 Try.underlying5 (by kernel_rfl) (by kernel_rfl)))))).iso (fun x => (⟨x.1, x.2.1, x.2.2⟩ : TWrite)) _ (fun x => by first | rfl | simp [eWrite, eI, eB, encL]) _ (fun x h => h)
def BTrans (y : TTrans) : Prop := (Lit.int .i64 y.Id).wf = true ∧ (Lit.int .i64 y.Begin).wf = true ∧ ((∀ x ∈ y.Writes, BWrite x) ∧ y.Writes.length ≤ maxLen)
theorem opTrans : OpD Try.prog 24 eTrans BTrans := (OpD.struct Try.underlying24 (OpDs.cons (n := 1) rfl (by kernel_rfl) (OpD.int Try.underlying3) (OpDs.cons (n := 1) rfl (by kernel_rfl) (OpD.int Try.underlying3) (OpDs.one (n := 1) rfl (by kernel_rfl) (by kernel_rfl) (OpD.slice Try.underlying22 (by kernel_rfl) eWrite_len (by decide) opWrite))))).iso (fun x => (⟨x.1, x.2.1, x.2.2⟩ : TTrans)) _ (fun x => by first | rfl | simp [eTrans, eI, eB, encL]) _ (fun x h => h)
def BLedger (y : TLedger) : Prop := (Lit.int .i64 y.Next).wf = true ∧ ((∀ x ∈ y.Open, BTrans x) ∧ y.Open.length ≤ maxLen)
theorem opLedger : OpD Try.prog 39 eLedger BLedger := (OpD.struct Try.underlying39 (OpDs.cons (n := 1) rfl (by kernel_rfl) (OpD.int Try.underlying3) (OpDs.one (n := 1) rfl (by kernel_rfl) (by kernel_rfl) (OpD.slice Try.underlying37 (by kernel_rfl) eTrans_len (by decide) opTrans)))).iso (fun x => (⟨x.1, x.2⟩ : TLedger)) _ (fun x => by first | rfl | simp [eLedger, eI, eB, encL]) _ (fun x h => h)
end Go.AX
