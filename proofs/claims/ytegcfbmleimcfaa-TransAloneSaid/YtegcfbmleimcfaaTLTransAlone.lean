/- The row of the law TransAlone: whatever it is handed, it answers true, and what it was handed reads as before; out of its contract and its plain law. -/
import Derived.Test.YtegcfbmleimcfaaRows
import Derived.WalkKit
import Derived.ProofKit
import Derived.OpenShut
import Derived.ShutString
import Derived.ChangeOld
import Derived.Below
import Derived.SizedLaws
import Derived.Carry
import Derived.Test.YtegcfbmleimcfaaTR
import Derived.Test.YtegcfbmleimcfaaTS19
import Derived.Test.YtegcfbmleimcfaaTPTransAlone
namespace Go.Proofs.Ytegcfbmleimcfaa.transAlone
open Go.ChangeShapes Go.WideShapes Go.ChangeAt Go.RowKit Go.AX
open Go.ChangeMaps (open_string shut_string)
set_option linter.unusedVariables false
theorem own : ownKnob Try.prog.godebug = none := by kernel_rfl
theorem laidOut : laidOutB Try.prog = true := by kernel_rfl
set_option maxRecDepth 100000 in
theorem lifted (os : Os) (started : os.Started) (H : Type) (enc : TypeId × Value → H) :
    ReturnsInHanded {} Try.checked os 8 .any (Rows.transAloneSpec.pre6 enc Try.prog Try.f8 Rows.transAloneRow.domain false) (Rows.transAloneSpec.post enc Try.prog Try.f8 false true false false) := by
  refine returnsInHanded_of_change_sized (C := Try.checked) own started (by kernel_rfl) Try.func8
    (ChangeSpec.witness6 (enc := enc) (C := Try.checked) false ⟨#[], #[.agg #[.int .i64 0, .slice none 0 0], .int .i64 0, .agg #[.int .i64 0, .bool false, .int .u8 0, .int .u8 0, .int .u8 0, .int .u8 0, .int .u8 0, .int .u8 0, .int .u8 0, .int .u8 0, .int .u8 0, .int .u8 0, .int .u8 0, .int .u8 0, .int .u8 0, .int .u8 0, .int .u8 0, .int .u8 0, .int .u8 0, .int .u8 0, .int .u8 0, .int .u8 0, .int .u8 0, .int .u8 0, .int .u8 0, .int .u8 0, .int .u8 0, .int .u8 0, .int .u8 0, .int .u8 0, .int .u8 0, .int .u8 0, .int .u8 0, .int .u8 0]], []⟩ 8 (by kernel_rfl) (by kernel_rfl) (by kernel_rfl) (by kernel_rfl)) ?_
  intro W base args ds gs before hval0 hW hcnd hsz0 _
  have hval : ∀ (j : Nat) t v, Try.f8.params[j]? = some t → args[j]? = some v → Value.okWide Try.prog W .any base t v := hval0
  have hW' := hW
  obtain ⟨p, q, hA0, hV, rfl, hfz, hnd⟩ := hW
  have hA : DataW.TrodAll enc Try.prog W 0 (fun _ => true) true Try.f8.params.toList args.toList ds p := hA0
  rw [Try.params8] at hA hval
  obtain ⟨v0, vs0, d0, ds0, p0, q0, hargs, rfl, rfl, h0, r0⟩ := trodAll_cons hA
  obtain ⟨v1, vs1, d1, ds1, p1, q1, rfl, rfl, rfl, h1, r1⟩ := trodAll_cons r0
  obtain ⟨v2, vs2, d2, ds2, p2, q2, rfl, rfl, rfl, h2, r2⟩ := trodAll_cons r1
  obtain ⟨rfl, rfl, rfl⟩ := trodAll_nil r2
  obtain rfl : args = #[v0, v1, v2] := by cases args; simp_all
  obtain ⟨rfl, rfl⟩ := trodVars_none hV
  have k0 := h0
  have lt0 : ∀ x ∈ p0, x.block < W.heap.size := by obtain ⟨m, hm⟩ := k0; exact DataW.trod_lt m _ _ _ hm
  obtain ⟨fu0, hf0⟩ := h0
  obtain ⟨cs0, rfl, hs0⟩ := okWide_struct Try.underlying39 (hval 0 39 v0 rfl rfl)
  obtain ⟨x0, hK0, hl0, w0⟩ := opLedger _ enc W 0 _ true fu0 _ _ hf0
  have k1 := h1
  have lt1 : ∀ x ∈ p1, x.block < W.heap.size := by obtain ⟨m, hm⟩ := k1; exact DataW.trod_lt m _ _ _ hm
  obtain ⟨a1, rfl, rfl, rfl, w1⟩ := open_int Try.underlying3 (hval 1 3 v1 rfl rfl) h1
  have k2 := h2
  have lt2 : ∀ x ∈ p2, x.block < W.heap.size := by obtain ⟨m, hm⟩ := k2; exact DataW.trod_lt m _ _ _ hm
  obtain ⟨fu2, hf2⟩ := h2
  obtain ⟨cs2, rfl, hs2⟩ := okWide_struct Try.underlying28 (hval 2 28 v2 rfl rfl)
  obtain ⟨x2, hK2, hl2, w2⟩ := opWrite _ enc W 0 _ true fu2 _ _ hf2
  clear hA0 hval0 hsz0
  have hk := law_TransAlone x0 a1 x2 w0 w1 w2
  refine ((s8 ⟨rfl, rfl⟩ rfl hk).2 (fun b => W.heap[b]?) W #[_, _, _] (fun b o h => h) ?_).mono fun e W' he0 => ?_
  · simp only [repVs]
    exact ⟨_, _, rfl, ⟨cs0, rfl, repC_of_plain (E := E0 fun b => W.heap[b]?) _ _ hK0 hl0⟩, ⟨_, _, rfl, (by simp only [repV, repD]), ⟨_, _, rfl, ⟨cs2, rfl, (fun _ h l => repC_dd (E := E0 fun b => W.heap[b]?) h l (fun _ h l => repC_dd (E := E0 fun b => W.heap[b]?) h l (fun _ h l => repC_bl (E := E0 fun b => W.heap[b]?) (eA_len _ _) h l))) _ hK2 hl2⟩, rfl⟩⟩⟩
  obtain ⟨v, C, rfl, hD⟩ := he0
  obtain ⟨rfl, bel⟩ := law_below hD
  exact ⟨_, rfl, _, _, _, [], _, [], hW', trodAll_mk1 (shut_bool Try.underlying4 _), (trodAll_cons_mk (Below.trod laidOut (by kernel_rfl) (of_decide_eq_true (by kernel_rfl)) k0 bel lt0) (trodAll_cons_mk (Below.trod laidOut (by kernel_rfl) (of_decide_eq_true (by kernel_rfl)) k1 bel lt1) (trodAll_cons_mk (Below.trod laidOut (by kernel_rfl) (of_decide_eq_true (by kernel_rfl)) k2 bel lt2) trodAll_mk0))), rfl, bel.frame _, fun h => by cases h⟩
theorem over : Rows.transAloneRow.holds Try.pinned (OpenSpec.ofChange Rows.transAloneSpec) :=
  OpenClaim.holds_of_wide 8 Try.f8 rfl rfl rfl rfl rfl rfl rfl ⟨rfl, rfl, rfl, rfl, rfl⟩ rfl rfl rfl rfl rfl (by kernel_rfl) Try.func8 (by kernel_rfl)
    (of_decide_eq_true (by kernel_rfl)) (by unfold Func.isWrapper; first | (rw [if_pos (by decide +kernel)]; kernel_rfl) | (rw [if_neg (by decide +kernel)]; exact ⟨rfl, rfl⟩))
    (fun os started H enc _ => lifted os started H enc)
theorem proved : Rows.TransAloneSaid := over
end Go.Proofs.Ytegcfbmleimcfaa.transAlone
namespace Go.Proofs.Ytegcfbmleimcfaa
/-- The row, under a short name, for the claim. -/
theorem transAlone_holds : Rows.TransAloneSaid := transAlone.proved
#print axioms transAlone_holds
end Go.Proofs.Ytegcfbmleimcfaa
