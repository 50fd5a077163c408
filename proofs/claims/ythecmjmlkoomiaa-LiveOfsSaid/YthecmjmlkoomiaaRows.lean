/-
  No cell of these rows narrows 'for every input' (looked for: loops, veiled, ifaces, maps, wideKeys, modest, calm, conditions, laid).
  DERIVED. THE GIVEN ROWS OF THIS SEAT. 8 by the template 'for every input the law returns true; each argument reads behind the call as it read before'; 0 by the template 'total and deterministic' (their statements: YthecmjmlkoomiaaTotals.lean).
  GIVEN WITH THE SEED: the statements are not yours to turn. If you find one false, say at which input.
  Laid BY PROGRAM, IN A SANDBOX (cutbox-rows.mjs): the forced cells as the released guide's own fill.sh prints them over the translation 5ecb8df2e434d8a8… (all of the seat's roots in one cut). By AI agents, Wed Nov 11 2026. No macro, syntax, notation, axiom, sorry.
-/
import Derived.Test.YthecmjmlkoomiaaChecked
import GoSem.Claim
import GoSem.ClaimJoined
import GoSem.ClaimMapViews
import Derived.JoinedTies
import Derived.KernelRfl
namespace Go.Proofs.Ythecmjmlkoomiaa
/- THE CELL 'sum', in the pinned program and in every row, IS THE sha256 OF THE DUMP (.gsa) THAT YthecmjmlkoomiaaProg.lean LOADS. Nothing in Lean hashes anything: it is a label: what it is worth is what the hold of that sum in a sandbox is worth. -/
noncomputable def Try.pinned : Pinned := { name := "ythecmjmlkoomiaa", sum := "5ecb8df2e434d8a8a87d03b62772891d970ad9bdefe97979a23b8dc1a1056f48", checked := Try.checked }
namespace Rows
def none {H : Type} : Left H := { results := [], args := [] }

/-- 'windrowlaw05.DevFlushes': WHATEVER THE INPUT: true; the input reads as it did. -/
def devFlushesSpec : ChangeSpec := { name := "devFlushes", fn := fun _ => fun
  | [d1, d2, d3] => { results := [.lit (.bool true)], args := [d1, d2, d3] }
  | _ => none }
def devFlushesRow : OpenClaim := { program := "ythecmjmlkoomiaa", sum := "5ecb8df2e434d8a8a87d03b62772891d970ad9bdefe97979a23b8dc1a1056f48", func := "windrow/windrowlaw05.DevFlushes", spec := "devFlushes", inPlace := ["maps.clone"], unfollowed := true, recurses := true, plainKeys := false, apart := false }
def DevFlushesSaid : Prop := devFlushesRow.holds Try.pinned (OpenSpec.ofChange devFlushesSpec)

/-- ITS FALSE NEIGHBOUR: 'it returns false'. Refute it at one input. -/
def devFlushesWrong : ChangeSpec := { name := "devFlushes", fn := fun _ => fun
  | [d1, d2, d3] => { results := [.lit (.bool false)], args := [d1, d2, d3] }
  | _ => none }
def DevFlushesWrongFalsely : Prop := devFlushesRow.holds Try.pinned (OpenSpec.ofChange devFlushesWrong)

/-- 'windrowlaw05.DevLasts': WHATEVER THE INPUT: true; the input reads as it did. -/
def devLastsSpec : ChangeSpec := { name := "devLasts", fn := fun _ => fun
  | [d1, d2, d3, d4, d5] => { results := [.lit (.bool true)], args := [d1, d2, d3, d4, d5] }
  | _ => none }
def devLastsRow : OpenClaim := { program := "ythecmjmlkoomiaa", sum := "5ecb8df2e434d8a8a87d03b62772891d970ad9bdefe97979a23b8dc1a1056f48", func := "windrow/windrowlaw05.DevLasts", spec := "devLasts", inPlace := ["maps.clone"], unfollowed := true, recurses := true, plainKeys := false, apart := false }
def DevLastsSaid : Prop := devLastsRow.holds Try.pinned (OpenSpec.ofChange devLastsSpec)

/-- ITS FALSE NEIGHBOUR: 'it returns false'. Refute it at one input. -/
def devLastsWrong : ChangeSpec := { name := "devLasts", fn := fun _ => fun
  | [d1, d2, d3, d4, d5] => { results := [.lit (.bool false)], args := [d1, d2, d3, d4, d5] }
  | _ => none }
def DevLastsWrongFalsely : Prop := devLastsRow.holds Try.pinned (OpenSpec.ofChange devLastsWrong)

/-- 'windrowlaw10.LiveActs': WHATEVER THE INPUT: true; the input reads as it did. -/
def liveActsSpec : ChangeSpec := { name := "liveActs", fn := fun _ => fun
  | [d1, d2] => { results := [.lit (.bool true)], args := [d1, d2] }
  | _ => none }
def liveActsRow : OpenClaim := { program := "ythecmjmlkoomiaa", sum := "5ecb8df2e434d8a8a87d03b62772891d970ad9bdefe97979a23b8dc1a1056f48", func := "windrow/windrowlaw10.LiveActs", spec := "liveActs", unfollowed := true, recurses := true, plainKeys := false, apart := false }
def LiveActsSaid : Prop := liveActsRow.holds Try.pinned (OpenSpec.ofChange liveActsSpec)

/-- ITS FALSE NEIGHBOUR: 'it returns false'. Refute it at one input. -/
def liveActsWrong : ChangeSpec := { name := "liveActs", fn := fun _ => fun
  | [d1, d2] => { results := [.lit (.bool false)], args := [d1, d2] }
  | _ => none }
def LiveActsWrongFalsely : Prop := liveActsRow.holds Try.pinned (OpenSpec.ofChange liveActsWrong)

/-- 'windrowlaw10.LiveCounts': WHATEVER THE INPUT: true; the input reads as it did. -/
def liveCountsSpec : ChangeSpec := { name := "liveCounts", fn := fun _ => fun
  | [d1, d2] => { results := [.lit (.bool true)], args := [d1, d2] }
  | _ => none }
def liveCountsRow : OpenClaim := { program := "ythecmjmlkoomiaa", sum := "5ecb8df2e434d8a8a87d03b62772891d970ad9bdefe97979a23b8dc1a1056f48", func := "windrow/windrowlaw10.LiveCounts", spec := "liveCounts", unfollowed := true, recurses := true, plainKeys := false, apart := false }
def LiveCountsSaid : Prop := liveCountsRow.holds Try.pinned (OpenSpec.ofChange liveCountsSpec)

/-- ITS FALSE NEIGHBOUR: 'it returns false'. Refute it at one input. -/
def liveCountsWrong : ChangeSpec := { name := "liveCounts", fn := fun _ => fun
  | [d1, d2] => { results := [.lit (.bool false)], args := [d1, d2] }
  | _ => none }
def LiveCountsWrongFalsely : Prop := liveCountsRow.holds Try.pinned (OpenSpec.ofChange liveCountsWrong)

/-- 'windrowlaw10.LiveOfs': WHATEVER THE INPUT: true; the input reads as it did. -/
def liveOfsSpec : ChangeSpec := { name := "liveOfs", fn := fun _ => fun
  | [d1, d2] => { results := [.lit (.bool true)], args := [d1, d2] }
  | _ => none }
def liveOfsRow : OpenClaim := { program := "ythecmjmlkoomiaa", sum := "5ecb8df2e434d8a8a87d03b62772891d970ad9bdefe97979a23b8dc1a1056f48", func := "windrow/windrowlaw10.LiveOfs", spec := "liveOfs", unfollowed := true, recurses := true, plainKeys := false, apart := false }
def LiveOfsSaid : Prop := liveOfsRow.holds Try.pinned (OpenSpec.ofChange liveOfsSpec)

/-- ITS FALSE NEIGHBOUR: 'it returns false'. Refute it at one input. -/
def liveOfsWrong : ChangeSpec := { name := "liveOfs", fn := fun _ => fun
  | [d1, d2] => { results := [.lit (.bool false)], args := [d1, d2] }
  | _ => none }
def LiveOfsWrongFalsely : Prop := liveOfsRow.holds Try.pinned (OpenSpec.ofChange liveOfsWrong)

/-- 'windrowlaw10.LiveAgain': WHATEVER THE INPUT: true; the input reads as it did. -/
def liveAgainSpec : ChangeSpec := { name := "liveAgain", fn := fun _ => fun
  | [d1, d2, d3, d4] => { results := [.lit (.bool true)], args := [d1, d2, d3, d4] }
  | _ => none }
def liveAgainRow : OpenClaim := { program := "ythecmjmlkoomiaa", sum := "5ecb8df2e434d8a8a87d03b62772891d970ad9bdefe97979a23b8dc1a1056f48", func := "windrow/windrowlaw10.LiveAgain", spec := "liveAgain", unfollowed := true, recurses := true, plainKeys := false, apart := false }
def LiveAgainSaid : Prop := liveAgainRow.holds Try.pinned (OpenSpec.ofChange liveAgainSpec)

/-- ITS FALSE NEIGHBOUR: 'it returns false'. Refute it at one input. -/
def liveAgainWrong : ChangeSpec := { name := "liveAgain", fn := fun _ => fun
  | [d1, d2, d3, d4] => { results := [.lit (.bool false)], args := [d1, d2, d3, d4] }
  | _ => none }
def LiveAgainWrongFalsely : Prop := liveAgainRow.holds Try.pinned (OpenSpec.ofChange liveAgainWrong)

/-- 'windrowlaw10.LiveKeeps': WHATEVER THE INPUT: true; the input reads as it did. -/
def liveKeepsSpec : ChangeSpec := { name := "liveKeeps", fn := fun _ => fun
  | [d1, d2, d3] => { results := [.lit (.bool true)], args := [d1, d2, d3] }
  | _ => none }
def liveKeepsRow : OpenClaim := { program := "ythecmjmlkoomiaa", sum := "5ecb8df2e434d8a8a87d03b62772891d970ad9bdefe97979a23b8dc1a1056f48", func := "windrow/windrowlaw10.LiveKeeps", spec := "liveKeeps", unfollowed := true, recurses := true, plainKeys := false, apart := false }
def LiveKeepsSaid : Prop := liveKeepsRow.holds Try.pinned (OpenSpec.ofChange liveKeepsSpec)

/-- ITS FALSE NEIGHBOUR: 'it returns false'. Refute it at one input. -/
def liveKeepsWrong : ChangeSpec := { name := "liveKeeps", fn := fun _ => fun
  | [d1, d2, d3] => { results := [.lit (.bool false)], args := [d1, d2, d3] }
  | _ => none }
def LiveKeepsWrongFalsely : Prop := liveKeepsRow.holds Try.pinned (OpenSpec.ofChange liveKeepsWrong)

/-- 'windrowlaw10.LiveBlocks': WHATEVER THE INPUT: true; the input reads as it did. -/
def liveBlocksSpec : ChangeSpec := { name := "liveBlocks", fn := fun _ => fun
  | [d1, d2, d3] => { results := [.lit (.bool true)], args := [d1, d2, d3] }
  | _ => none }
def liveBlocksRow : OpenClaim := { program := "ythecmjmlkoomiaa", sum := "5ecb8df2e434d8a8a87d03b62772891d970ad9bdefe97979a23b8dc1a1056f48", func := "windrow/windrowlaw10.LiveBlocks", spec := "liveBlocks", unfollowed := true, recurses := true, plainKeys := false, apart := false }
def LiveBlocksSaid : Prop := liveBlocksRow.holds Try.pinned (OpenSpec.ofChange liveBlocksSpec)

/-- ITS FALSE NEIGHBOUR: 'it returns false'. Refute it at one input. -/
def liveBlocksWrong : ChangeSpec := { name := "liveBlocks", fn := fun _ => fun
  | [d1, d2, d3] => { results := [.lit (.bool false)], args := [d1, d2, d3] }
  | _ => none }
def LiveBlocksWrongFalsely : Prop := liveBlocksRow.holds Try.pinned (OpenSpec.ofChange liveBlocksWrong)

/- THE SECOND FORM. 'bulk': how many values and letters a reading holds, each counted each time it is reached (what is shared counts as often as it is met; a slice's spare places count too). A statement '..UptoSaid' is the law's where the arguments, and the package variables that the reading takes, are together of bulk at most 1048576: NARROWER than '..Said'. Prove '..Said' where nothing that the law and all that it calls make is longer than what came in: it says more and counts as full. Else prove '..UptoSaid'. A law counts once. -/
mutual
def uptoBulk {H : Type} : DataW H → Nat
  | .lit (.string bytes) => bytes.length + 1
  | .lit _ => 1
  | .nil => 1
  | .ptr d => uptoBulk d + 1
  | .slice elems spare => uptoBulkAll elems + uptoBulkAll spare + 1
  | .agg parts => uptoBulkAll parts + 1
  | .iface _ d => uptoBulk d + 1
  | .map entries => uptoBulkEntries entries + 1
  | .held _ => 1
def uptoBulkAll {H : Type} : List (DataW H) → Nat
  | [] => 0
  | d :: r => uptoBulk d + uptoBulkAll r
def uptoBulkEntries {H : Type} : List (Lit × DataW H) → Nat
  | [] => 0
  | x :: r => uptoBulkEntry x + uptoBulkEntries r
def uptoBulkEntry {H : Type} : Lit × DataW H → Nat
  | (.string bytes, d) => bytes.length + uptoBulk d + 1
  | (_, d) => uptoBulk d + 1
 end
def uptoSmall : (H : Type) → List (DataW H) → Bool := fun _ ds => decide (uptoBulkAll ds ≤ 1048576)
def OpenSpec.upto (s : _root_.Go.ChangeSpec) : _root_.Go.OpenSpec := { _root_.Go.OpenSpec.ofChange s with cond := some uptoSmall }

/-- 'windrowlaw05.DevFlushes', WHERE WHAT IT READS IS OF BULK AT MOST 1048576: true; the input reads as it did. -/
def devFlushesUptoRow : OpenClaim := { program := "ythecmjmlkoomiaa", sum := "5ecb8df2e434d8a8a87d03b62772891d970ad9bdefe97979a23b8dc1a1056f48", func := "windrow/windrowlaw05.DevFlushes", spec := "devFlushes", inPlace := ["maps.clone"], unfollowed := true, recurses := true, plainKeys := false, apart := false, narrowed := true }
def DevFlushesUptoSaid : Prop := devFlushesUptoRow.holds Try.pinned (OpenSpec.upto devFlushesSpec)

/-- 'windrowlaw05.DevLasts', WHERE WHAT IT READS IS OF BULK AT MOST 1048576: true; the input reads as it did. -/
def devLastsUptoRow : OpenClaim := { program := "ythecmjmlkoomiaa", sum := "5ecb8df2e434d8a8a87d03b62772891d970ad9bdefe97979a23b8dc1a1056f48", func := "windrow/windrowlaw05.DevLasts", spec := "devLasts", inPlace := ["maps.clone"], unfollowed := true, recurses := true, plainKeys := false, apart := false, narrowed := true }
def DevLastsUptoSaid : Prop := devLastsUptoRow.holds Try.pinned (OpenSpec.upto devLastsSpec)

/-- 'windrowlaw10.LiveActs', WHERE WHAT IT READS IS OF BULK AT MOST 1048576: true; the input reads as it did. -/
def liveActsUptoRow : OpenClaim := { program := "ythecmjmlkoomiaa", sum := "5ecb8df2e434d8a8a87d03b62772891d970ad9bdefe97979a23b8dc1a1056f48", func := "windrow/windrowlaw10.LiveActs", spec := "liveActs", unfollowed := true, recurses := true, plainKeys := false, apart := false, narrowed := true }
def LiveActsUptoSaid : Prop := liveActsUptoRow.holds Try.pinned (OpenSpec.upto liveActsSpec)

/-- 'windrowlaw10.LiveCounts', WHERE WHAT IT READS IS OF BULK AT MOST 1048576: true; the input reads as it did. -/
def liveCountsUptoRow : OpenClaim := { program := "ythecmjmlkoomiaa", sum := "5ecb8df2e434d8a8a87d03b62772891d970ad9bdefe97979a23b8dc1a1056f48", func := "windrow/windrowlaw10.LiveCounts", spec := "liveCounts", unfollowed := true, recurses := true, plainKeys := false, apart := false, narrowed := true }
def LiveCountsUptoSaid : Prop := liveCountsUptoRow.holds Try.pinned (OpenSpec.upto liveCountsSpec)

/-- 'windrowlaw10.LiveOfs', WHERE WHAT IT READS IS OF BULK AT MOST 1048576: true; the input reads as it did. -/
def liveOfsUptoRow : OpenClaim := { program := "ythecmjmlkoomiaa", sum := "5ecb8df2e434d8a8a87d03b62772891d970ad9bdefe97979a23b8dc1a1056f48", func := "windrow/windrowlaw10.LiveOfs", spec := "liveOfs", unfollowed := true, recurses := true, plainKeys := false, apart := false, narrowed := true }
def LiveOfsUptoSaid : Prop := liveOfsUptoRow.holds Try.pinned (OpenSpec.upto liveOfsSpec)

/-- 'windrowlaw10.LiveAgain', WHERE WHAT IT READS IS OF BULK AT MOST 1048576: true; the input reads as it did. -/
def liveAgainUptoRow : OpenClaim := { program := "ythecmjmlkoomiaa", sum := "5ecb8df2e434d8a8a87d03b62772891d970ad9bdefe97979a23b8dc1a1056f48", func := "windrow/windrowlaw10.LiveAgain", spec := "liveAgain", unfollowed := true, recurses := true, plainKeys := false, apart := false, narrowed := true }
def LiveAgainUptoSaid : Prop := liveAgainUptoRow.holds Try.pinned (OpenSpec.upto liveAgainSpec)

/-- 'windrowlaw10.LiveKeeps', WHERE WHAT IT READS IS OF BULK AT MOST 1048576: true; the input reads as it did. -/
def liveKeepsUptoRow : OpenClaim := { program := "ythecmjmlkoomiaa", sum := "5ecb8df2e434d8a8a87d03b62772891d970ad9bdefe97979a23b8dc1a1056f48", func := "windrow/windrowlaw10.LiveKeeps", spec := "liveKeeps", unfollowed := true, recurses := true, plainKeys := false, apart := false, narrowed := true }
def LiveKeepsUptoSaid : Prop := liveKeepsUptoRow.holds Try.pinned (OpenSpec.upto liveKeepsSpec)

/-- 'windrowlaw10.LiveBlocks', WHERE WHAT IT READS IS OF BULK AT MOST 1048576: true; the input reads as it did. -/
def liveBlocksUptoRow : OpenClaim := { program := "ythecmjmlkoomiaa", sum := "5ecb8df2e434d8a8a87d03b62772891d970ad9bdefe97979a23b8dc1a1056f48", func := "windrow/windrowlaw10.LiveBlocks", spec := "liveBlocks", unfollowed := true, recurses := true, plainKeys := false, apart := false, narrowed := true }
def LiveBlocksUptoSaid : Prop := liveBlocksUptoRow.holds Try.pinned (OpenSpec.upto liveBlocksSpec)

end Rows
end Go.Proofs.Ythecmjmlkoomiaa
