/-
  No cell of these rows narrows 'for every input' (looked for: loops, veiled, ifaces, maps, wideKeys, modest, calm, conditions, laid).
  DERIVED. THE GIVEN ROWS OF THIS SEAT. 4 by the template 'for every input the law returns true; each argument reads behind the call as it read before'; 0 by the template 'total and deterministic' (their statements: YtgphlcbjgcogkaaTotals.lean).
  GIVEN WITH THE SEED: the statements are not yours to turn. If you find one false, say at which input.
  Laid BY PROGRAM, IN A SANDBOX (cutbox-rows.mjs): the forced cells as the released guide's own fill.sh prints them over the translation 432a1bdb3205b179… (all of the seat's roots in one cut). By AI agents, Wed Nov 11 2026. No macro, syntax, notation, axiom, sorry.
-/
import Derived.Test.YtgphlcbjgcogkaaChecked
import GoSem.Claim
import GoSem.ClaimJoined
import GoSem.ClaimMapViews
import Derived.JoinedTies
import Derived.KernelRfl
namespace Go.Proofs.Ytgphlcbjgcogkaa
/- THE CELL 'sum', in the pinned program and in every row, IS THE sha256 OF THE DUMP (.gsa) THAT YtgphlcbjgcogkaaProg.lean LOADS. Nothing in Lean hashes anything: it is a label: what it is worth is what the hold of that sum in a sandbox is worth. -/
noncomputable def Try.pinned : Pinned := { name := "ytgphlcbjgcogkaa", sum := "432a1bdb3205b179385bf1d943a265315abaa3d27b7276fead7a5b04e2827d2c", checked := Try.checked }
namespace Rows
def none {H : Type} : Left H := { results := [], args := [] }

/-- 'windrowlaw14.ScanChains': WHATEVER THE INPUT: true; the input reads as it did. -/
def scanChainsSpec : ChangeSpec := { name := "scanChains", fn := fun _ => fun
  | [d1, d2] => { results := [.lit (.bool true)], args := [d1, d2] }
  | _ => none }
def scanChainsRow : OpenClaim := { program := "ytgphlcbjgcogkaa", sum := "432a1bdb3205b179385bf1d943a265315abaa3d27b7276fead7a5b04e2827d2c", func := "windrow/windrowlaw14.ScanChains", spec := "scanChains", unfollowed := true, recurses := true, plainKeys := false, apart := false }
def ScanChainsSaid : Prop := scanChainsRow.holds Try.pinned (OpenSpec.ofChange scanChainsSpec)

/-- ITS FALSE NEIGHBOUR: 'it returns false'. Refute it at one input. -/
def scanChainsWrong : ChangeSpec := { name := "scanChains", fn := fun _ => fun
  | [d1, d2] => { results := [.lit (.bool false)], args := [d1, d2] }
  | _ => none }
def ScanChainsWrongFalsely : Prop := scanChainsRow.holds Try.pinned (OpenSpec.ofChange scanChainsWrong)

/-- 'windrowlaw14.ScanTwice': WHATEVER THE INPUT: true; the input reads as it did. -/
def scanTwiceSpec : ChangeSpec := { name := "scanTwice", fn := fun _ => fun
  | [d1, d2] => { results := [.lit (.bool true)], args := [d1, d2] }
  | _ => none }
def scanTwiceRow : OpenClaim := { program := "ytgphlcbjgcogkaa", sum := "432a1bdb3205b179385bf1d943a265315abaa3d27b7276fead7a5b04e2827d2c", func := "windrow/windrowlaw14.ScanTwice", spec := "scanTwice", unfollowed := true, recurses := true, plainKeys := false, apart := false }
def ScanTwiceSaid : Prop := scanTwiceRow.holds Try.pinned (OpenSpec.ofChange scanTwiceSpec)

/-- ITS FALSE NEIGHBOUR: 'it returns false'. Refute it at one input. -/
def scanTwiceWrong : ChangeSpec := { name := "scanTwice", fn := fun _ => fun
  | [d1, d2] => { results := [.lit (.bool false)], args := [d1, d2] }
  | _ => none }
def ScanTwiceWrongFalsely : Prop := scanTwiceRow.holds Try.pinned (OpenSpec.ofChange scanTwiceWrong)

/-- 'windrowlaw14.ScanAlls': WHATEVER THE INPUT: true; the input reads as it did. -/
def scanAllsSpec : ChangeSpec := { name := "scanAlls", fn := fun _ => fun
  | [d1, d2, d3, d4] => { results := [.lit (.bool true)], args := [d1, d2, d3, d4] }
  | _ => none }
def scanAllsRow : OpenClaim := { program := "ytgphlcbjgcogkaa", sum := "432a1bdb3205b179385bf1d943a265315abaa3d27b7276fead7a5b04e2827d2c", func := "windrow/windrowlaw14.ScanAlls", spec := "scanAlls", unfollowed := true, recurses := true, plainKeys := false, apart := false }
def ScanAllsSaid : Prop := scanAllsRow.holds Try.pinned (OpenSpec.ofChange scanAllsSpec)

/-- ITS FALSE NEIGHBOUR: 'it returns false'. Refute it at one input. -/
def scanAllsWrong : ChangeSpec := { name := "scanAlls", fn := fun _ => fun
  | [d1, d2, d3, d4] => { results := [.lit (.bool false)], args := [d1, d2, d3, d4] }
  | _ => none }
def ScanAllsWrongFalsely : Prop := scanAllsRow.holds Try.pinned (OpenSpec.ofChange scanAllsWrong)

/-- 'windrowlaw14.ScanPrefix': WHATEVER THE INPUT: true; the input reads as it did. -/
def scanPrefixSpec : ChangeSpec := { name := "scanPrefix", fn := fun _ => fun
  | [d1, d2, d3, d4] => { results := [.lit (.bool true)], args := [d1, d2, d3, d4] }
  | _ => none }
def scanPrefixRow : OpenClaim := { program := "ytgphlcbjgcogkaa", sum := "432a1bdb3205b179385bf1d943a265315abaa3d27b7276fead7a5b04e2827d2c", func := "windrow/windrowlaw14.ScanPrefix", spec := "scanPrefix", inPlace := ["maps.clone"], unfollowed := true, recurses := true, plainKeys := false, apart := false }
def ScanPrefixSaid : Prop := scanPrefixRow.holds Try.pinned (OpenSpec.ofChange scanPrefixSpec)

/-- ITS FALSE NEIGHBOUR: 'it returns false'. Refute it at one input. -/
def scanPrefixWrong : ChangeSpec := { name := "scanPrefix", fn := fun _ => fun
  | [d1, d2, d3, d4] => { results := [.lit (.bool false)], args := [d1, d2, d3, d4] }
  | _ => none }
def ScanPrefixWrongFalsely : Prop := scanPrefixRow.holds Try.pinned (OpenSpec.ofChange scanPrefixWrong)

/- THE SECOND FORM. 'bulk': how many values and letters a reading holds, each counted each time it is reached (what is shared counts as often as it is met; a slice's spare places count too). A statement '..UptoSaid' is the law's where the arguments, and the package variables that the reading takes, are together of bulk at most 1048576: NARROWER than '..Said'. Prove '..Said' where nothing that the law and all that it calls make is longer than what came in: it says more and counts as full. Else prove '..UptoSaid'. A law counts once. -/
mutual
def uptoBulk {H : Type} : DataW H → Nat
  | .lit (.string bytes) => bytes.length + 1
  | .lit _ => 1
  | .nil => 1
  | .ptr d => uptoBulk d + 1
  | .slice elems spare => uptoBulkAll elems + uptoBulkAll spare + 1
  | .agg parts => uptoBulkAll parts + 1
  | .iface _ d => uptoBulk d + 1
  | .map entries => uptoBulkEntries entries + 1
  | .held _ => 1
def uptoBulkAll {H : Type} : List (DataW H) → Nat
  | [] => 0
  | d :: r => uptoBulk d + uptoBulkAll r
def uptoBulkEntries {H : Type} : List (Lit × DataW H) → Nat
  | [] => 0
  | x :: r => uptoBulkEntry x + uptoBulkEntries r
def uptoBulkEntry {H : Type} : Lit × DataW H → Nat
  | (.string bytes, d) => bytes.length + uptoBulk d + 1
  | (_, d) => uptoBulk d + 1
 end
def uptoSmall : (H : Type) → List (DataW H) → Bool := fun _ ds => decide (uptoBulkAll ds ≤ 1048576)
def OpenSpec.upto (s : _root_.Go.ChangeSpec) : _root_.Go.OpenSpec := { _root_.Go.OpenSpec.ofChange s with cond := some uptoSmall }

/-- 'windrowlaw14.ScanChains', WHERE WHAT IT READS IS OF BULK AT MOST 1048576: true; the input reads as it did. -/
def scanChainsUptoRow : OpenClaim := { program := "ytgphlcbjgcogkaa", sum := "432a1bdb3205b179385bf1d943a265315abaa3d27b7276fead7a5b04e2827d2c", func := "windrow/windrowlaw14.ScanChains", spec := "scanChains", unfollowed := true, recurses := true, plainKeys := false, apart := false, narrowed := true }
def ScanChainsUptoSaid : Prop := scanChainsUptoRow.holds Try.pinned (OpenSpec.upto scanChainsSpec)

/-- 'windrowlaw14.ScanTwice', WHERE WHAT IT READS IS OF BULK AT MOST 1048576: true; the input reads as it did. -/
def scanTwiceUptoRow : OpenClaim := { program := "ytgphlcbjgcogkaa", sum := "432a1bdb3205b179385bf1d943a265315abaa3d27b7276fead7a5b04e2827d2c", func := "windrow/windrowlaw14.ScanTwice", spec := "scanTwice", unfollowed := true, recurses := true, plainKeys := false, apart := false, narrowed := true }
def ScanTwiceUptoSaid : Prop := scanTwiceUptoRow.holds Try.pinned (OpenSpec.upto scanTwiceSpec)

/-- 'windrowlaw14.ScanAlls', WHERE WHAT IT READS IS OF BULK AT MOST 1048576: true; the input reads as it did. -/
def scanAllsUptoRow : OpenClaim := { program := "ytgphlcbjgcogkaa", sum := "432a1bdb3205b179385bf1d943a265315abaa3d27b7276fead7a5b04e2827d2c", func := "windrow/windrowlaw14.ScanAlls", spec := "scanAlls", unfollowed := true, recurses := true, plainKeys := false, apart := false, narrowed := true }
def ScanAllsUptoSaid : Prop := scanAllsUptoRow.holds Try.pinned (OpenSpec.upto scanAllsSpec)

/-- 'windrowlaw14.ScanPrefix', WHERE WHAT IT READS IS OF BULK AT MOST 1048576: true; the input reads as it did. -/
def scanPrefixUptoRow : OpenClaim := { program := "ytgphlcbjgcogkaa", sum := "432a1bdb3205b179385bf1d943a265315abaa3d27b7276fead7a5b04e2827d2c", func := "windrow/windrowlaw14.ScanPrefix", spec := "scanPrefix", inPlace := ["maps.clone"], unfollowed := true, recurses := true, plainKeys := false, apart := false, narrowed := true }
def ScanPrefixUptoSaid : Prop := scanPrefixUptoRow.holds Try.pinned (OpenSpec.upto scanPrefixSpec)

end Rows
end Go.Proofs.Ytgphlcbjgcogkaa
