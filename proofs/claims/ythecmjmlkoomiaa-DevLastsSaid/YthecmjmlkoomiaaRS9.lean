/- What functions of the program compute: each is what its Lean function says. -/
import Derived.Test.YthecmjmlkoomiaaRM
namespace Go.AX
open Go.Proofs
set_option autoImplicit false
set_option linter.unusedVariables false
set_option maxRecDepth 100000
set_option maxHeartbeats 100000000
set_option linter.unusedSimpArgs false

set_option maxHeartbeats 2000000 in
theorem cw68 (b : Nat) (es : Array MapEntry) (clock : Nat) (w : World) (hb : w.heap[b]? = some (.map es clock)) :
    Calls Try.prog 68 #[.map (some b)] w fun e w' => e = .returned (.map (some w.heap.size)) ∧ w' = w.alloc (.map es clock) := by
  have hq := fun w => run_eql_mapnil (P := Try.prog) w 93 _ _ (some b) Try.underlying93
  go_enter Try.func68, Try.ntmps68
  go_wp2
  rw [run_callFunc_extern Try.func92 (by kernel_rfl) (by kernel_rfl) (by kernel_rfl) (e := Extern.MapsClone.clone) (by kernel_rfl), run_clone_map w 93 hb]
  simp only [Result.andThen]
  rw [Oper.upon_value]
  go_wp2
  rw [run_assert_map _ 93 20 _ _ _ Try.underlying93]
  simp only [Result.andThen]
  rw [Oper.upon_value]
  go_wp2
  go_ret
  exact ⟨rfl, rfl⟩
theorem s68 (ka va : Bool) (l : List (List D × List D)) : SpecM Try.prog 68 1 [(0, .mp ka va l)] [.map 0] ⟨.map 1, [(0, .mp ka va l), (1, .mp ka va l)], 1, True⟩ :=
  specM_clone ⟨_, Try.func68, rfl, rfl⟩ cw68 ka va l
end Go.AX
