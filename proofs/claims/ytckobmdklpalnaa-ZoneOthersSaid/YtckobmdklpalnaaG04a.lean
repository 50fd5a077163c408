/- slices.Clone of zones: it answers a new slice of the same elements. -/
import Derived.Test.YtckobmdklpalnaaP04x0
import Derived.Lib.SliceRun
namespace Go.Proofs.Ytckobmdklpalnaa.P04
open Go.RowKit Go.Proofs.YtckobmdklpalnaaW.PrintWords Go.Proofs.YtckobmdklpalnaaW.PrintLast Go.Proofs.YtckobmdklpalnaaW.PrintMore
/-! ### slices.Clone, function 24: slices of type 26, elements of type 36 -/
def api_Zone.f (l0 : List S36) : Option (List S36) := if l0.length < 8796093022208 then some l0 else none
set_option linter.unusedVariables false in
set_option maxHeartbeats 1000000 in
theorem api_Zone.calls (A0 : Option Addr) (c0 : Nat) (l0 : List S36) (r : List S36) (w : World) (hr0 : Kd.C k36 w A0 l0.length l0) (hc0 : l0.length ≤ c0) (h : api_Zone.f l0 = some r) :
    Calls Try.prog 24 #[.slice A0 l0.length c0] w fun e w' => ∃ v0_ : Value, e = .returned (v0_) ∧ Kd.R k36 36 w' w.heap.size (fun _ => True) v0_ r ∧ Below w.heap.size w w' := by
  unfold api_Zone.f at h
  by_cases hlt : l0.length < 8796093022208
  · rw [if_pos hlt] at h
    obtain rfl := Option.some.inj h
    clear h
    have HLT := Aside0.mk hlt
    have HR0 := Aside0.mk hr0
    clear hlt hr0 hc0
    have he : ∀ (W : World) n c, (binOp .eql 26 (.slice A0 n c) (.slice none 0 0)).run Try.prog W = .ok (.bool A0.isNone) W := fun W n c => Lib.run_eql_slice_nil W 26 36 A0 n c 0 0 Try.underlying26
    cases A0 with
    | none =>
      have hn : l0 = [] := by
        rcases l0 with _ | ⟨x, l⟩
        · rfl
        · obtain ⟨ad, e, _⟩ := HR0.out.2.2 (by simp)
          exact absurd e (by simp)
      subst hn
      have he' : ∀ (W : World) n c, (binOp .eql 26 (.slice none n c) (.slice none 0 0)).run Try.prog W = .ok (.bool true) W := fun W n c => he W n c
      clear he
      go_enter Try.func24, Try.ntmps24
      go_wp2
      go_ret
      exact ⟨_, rfl, Kd.R_nil _ _ _ _ _, Below.refl _ _⟩
    | some ad0 =>
      have he' : ∀ (W : World) n c, (binOp .eql 26 (.slice (some ad0) n c) (.slice none 0 0)).run Try.prog W = .ok (.bool false) W := fun W n c => he W n c
      clear he
      have HB := Aside0.mk (Below.refl w.heap.size w)
      go_enter Try.func24, Try.ntmps24
      go_wp2_with (first | ((with_reducible refine gate_dst (N := 5) rfl ?_); refine Kd.R_lit k36 _ 36 ?hg (N := 5) ?hd (xs := ([] : List S36)) (inner := []) (ok := fun _ => True) (okp := fun _ => True) ?hr ?hp (fun _ hk => hk) trivial (Below.refl _ _) (Nat.le_refl _) (by simp) ?_; (case hd => rfl); (case hg => rfl); (case hr => first | (go_simp; done) | (go_simp; rfl)); (case hp => exact (Reps.none _ _)); intro v5 w5 ho hb hg_ hnew_; clear hg_ hnew_; have HO := Aside0.mk ho; have HB5 := Aside0.mk hb; clear ho hb) | ((with_reducible refine gate_builtin (b := .append) (xs := #[.tmp 5, .tmp 6]) rfl ?_); at_builtin; refine Kd.R_append_rows k36 (w0 := w) w.heap.size rfl (.tmp 5) (.tmp 6) 26 36 (.agg #[(.int .i64 0), (.int .i64 0)]) 16 rfl Try.underlying26 info36 rfl (by decide) (by omega) v5 [] l0 _ _ _ (fun _ => True) (fun _ => False) rfl rfl ?aO ?aR (fun _ _ h => h) (fun _ h => h.elim) (fun _ _ => trivial) ?aB ?aS ?aL ?_; (case aR => exact (Kd.C_below HR0.out HB5.out)); (case aB => exact HB5.out); (case aO => exact HO.out); (case aS => exact below_size HB5.out); (case aL => have := HLT.out; simp only [List.length_nil]; omega); intro v6 w6 ho6 hb6 hg6 hat6; rw [List.nil_append] at ho6; clear hg6 hat6; have HO6 := Aside0.mk ho6; have HB6 := Aside0.mk hb6; clear ho6 hb6))
      go_ret
      exact ⟨_, rfl, HO6.out, HB6.out⟩
  · rw [if_neg hlt] at h
    exact absurd h (by simp)
end Go.Proofs.Ytckobmdklpalnaa.P04
