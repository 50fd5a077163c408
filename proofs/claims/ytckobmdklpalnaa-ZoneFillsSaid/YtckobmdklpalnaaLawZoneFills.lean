/- The row of the law windrow/windrowlaw04.ZoneFills: whatever it is handed, it answers true, and what it was handed reads as before; out of its contract and its pure statement. -/
import Derived.Test.YtckobmdklpalnaaRows
import Derived.Test.YtckobmdklpalnaaP04x14
import Derived.Test.YtckobmdklpalnaaOpn
import Derived.Test.YtckobmdklpalnaaPureZoneFills
import Derived.WalkKit
import Derived.ProofKit
import Derived.OpenShut
import Derived.ShutString
import Derived.ChangeOld
import Derived.Below
import Derived.SizedLaws
import Derived.Carry
namespace Go.Proofs.Ytckobmdklpalnaa.zoneFills
open Go.ChangeShapes Go.WideShapes Go.ChangeAt Go.RowKit Go.Proofs.YtckobmdklpalnaaW.PrintWords Go.Proofs.YtckobmdklpalnaaOpn Go.Proofs.Ytckobmdklpalnaa.P04
open Go.ChangeMaps (open_string shut_string)
set_option linter.unusedVariables false
theorem own : ownKnob Try.prog.godebug = none := by kernel_rfl
theorem laidOut : laidOutB Try.prog = true := by kernel_rfl
set_option maxRecDepth 100000 in
theorem lifted (os : Os) (started : os.Started) (H : Type) (enc : TypeId × Value → H) :
    ReturnsInHanded {} Try.checked os 3 .any (Rows.zoneFillsSpec.pre6 enc Try.prog Try.f3 Rows.zoneFillsRow.domain false) (Rows.zoneFillsSpec.post enc Try.prog Try.f3 false true false false) := by
  refine returnsInHanded_of_change_sized (C := Try.checked) own started (by kernel_rfl) Try.func3
    (ChangeSpec.witness6 (enc := enc) (C := Try.checked) false ⟨#[], #[.agg #[.int .i64 0, .int .i64 0, .int .i64 0, .int .i64 0, .int .i64 0], .int .u8 0], []⟩ 8 (by kernel_rfl) (by kernel_rfl) (by kernel_rfl) (by kernel_rfl)) ?_
  intro W base args ds gs before hval0 hW hcnd hsz0 _
  have hval : ∀ (j : Nat) t v, Try.f3.params[j]? = some t → args[j]? = some v → Value.okWide Try.prog W .any base t v := hval0
  have hW' := hW
  obtain ⟨p, q, hA0, hV, rfl, hfz, hnd⟩ := hW
  have hA : DataW.TrodAll enc Try.prog W 0 (fun _ => true) true Try.f3.params.toList args.toList ds p := hA0
  rw [Try.params3] at hA hval
  obtain ⟨v0, vs0, d0, ds0, p0, q0, hargs, rfl, rfl, h0, r0⟩ := trodAll_cons hA
  obtain ⟨v1, vs1, d1, ds1, p1, q1, rfl, rfl, rfl, h1, r1⟩ := trodAll_cons r0
  obtain ⟨rfl, rfl, rfl⟩ := trodAll_nil r1
  obtain rfl : args = #[v0, v1] := by cases args; simp_all
  obtain ⟨rfl, rfl⟩ := trodVars_none hV
  have k0 := h0
  have lt0 : ∀ x ∈ p0, x.block < W.heap.size := by obtain ⟨m, hm⟩ := k0; exact DataW.trod_lt m _ _ _ hm
  obtain ⟨fu0, hf0⟩ := h0
  obtain ⟨cs0, rfl, hs0⟩ := okWide_struct Try.underlying23 (hval 0 23 v0 rfl rfl)
  obtain ⟨ls0⟩ := cs0
  obtain ⟨x0, hK0, w0⟩ := (Opens.struct Try.underlying23 (OpensFs.cons (n := 1) rfl (by kernel_rfl) (Opens.int Try.underlying3) (OpensFs.cons (n := 1) rfl (by kernel_rfl) (Opens.int Try.underlying3) (OpensFs.cons (n := 1) rfl (by kernel_rfl) (Opens.int Try.underlying3) (OpensFs.cons (n := 1) rfl (by kernel_rfl) (Opens.int Try.underlying3) (OpensFs.one (n := 1) rfl (by kernel_rfl) (by kernel_rfl) (Opens.int Try.underlying3))))))) _ enc W 0 _ true fu0 _ _ hf0
  change (Kd.pair _ _).K W x0 ls0 at hK0
  obtain ⟨_, _, rfl, rfl, ⟨_, _, rfl, rfl, ⟨_, _, rfl, rfl, ⟨_, _, rfl, rfl, rfl⟩⟩⟩⟩ := hK0
  have k1 := h1
  have lt1 : ∀ x ∈ p1, x.block < W.heap.size := by obtain ⟨m, hm⟩ := k1; exact DataW.trod_lt m _ _ _ hm
  obtain ⟨a1, rfl, rfl, rfl, w1⟩ := open_int Try.underlying5 (hval 1 5 v1 rfl rfl) h1
  clear hA0 hval0 hsz0
  obtain ⟨kk, hk⟩ := Pure.ZoneFills x0.1 x0.2.1 x0.2.2.1 x0.2.2.2.1 x0.2.2.2.2 a1 w0 w1
  refine (P04.windrowlaw04_ZoneFills.calls kk _ _ _ _ _ _ true W hk).mono fun e W' he0 => ?_
  obtain ⟨he, bel⟩ := he0
  subst he
  exact ⟨_, rfl, _, _, _, [], _, [], hW', trodAll_mk1 (shut_bool Try.underlying4 _), (trodAll_cons_mk (Below.trod laidOut (by kernel_rfl) (of_decide_eq_true (by kernel_rfl)) k0 bel lt0) (trodAll_cons_mk (Below.trod laidOut (by kernel_rfl) (of_decide_eq_true (by kernel_rfl)) k1 bel lt1) trodAll_mk0)), rfl, bel.frame _, fun h => by cases h⟩
theorem over : Rows.zoneFillsRow.holds Try.pinned (OpenSpec.ofChange Rows.zoneFillsSpec) :=
  OpenClaim.holds_of_wide 3 Try.f3 rfl rfl rfl rfl rfl rfl rfl ⟨rfl, rfl, rfl, rfl, rfl⟩ rfl rfl rfl rfl rfl (by kernel_rfl) Try.func3 (by kernel_rfl)
    (of_decide_eq_true (by kernel_rfl)) (by unfold Func.isWrapper; first | (rw [if_pos (by decide +kernel)]; kernel_rfl) | (rw [if_neg (by decide +kernel)]; exact ⟨rfl, rfl⟩))
    (fun os started H enc _ => lifted os started H enc)
theorem proved : Rows.ZoneFillsSaid := over
#print axioms proved
end Go.Proofs.Ytckobmdklpalnaa.zoneFills
namespace Go.Proofs.Ytckobmdklpalnaa
/-- The row, under a short name, for the claim. -/
theorem zoneFills_holds : Rows.ZoneFillsSaid := zoneFills.proved
end Go.Proofs.Ytckobmdklpalnaa
