/-
  No cell of these rows narrows 'for every input' (looked for: loops, veiled, ifaces, maps, wideKeys, modest, calm, conditions, laid).
  DERIVED. THE GIVEN ROWS OF THIS SEAT. 11 by the template 'for every input the law returns true; each argument reads behind the call as it read before'; 0 by the template 'total and deterministic' (their statements: YtjpajfgdbmeiiaaTotals.lean).
  GIVEN WITH THE SEED: the statements are not yours to turn. If you find one false, say at which input.
  Laid BY PROGRAM, IN A SANDBOX (cutbox-rows.mjs): the forced cells as the released guide's own fill.sh prints them over the translation bdfd301eeeae3753… (all of the seat's roots in one cut). By AI agents, Wed Nov 11 2026. No macro, syntax, notation, axiom, sorry.
-/
import Derived.Test.YtjpajfgdbmeiiaaChecked
import GoSem.Claim
import GoSem.ClaimJoined
import GoSem.ClaimMapViews
import Derived.JoinedTies
import Derived.KernelRfl
namespace Go.Proofs.Ytjpajfgdbmeiiaa
/- THE CELL 'sum', in the pinned program and in every row, IS THE sha256 OF THE DUMP (.gsa) THAT YtjpajfgdbmeiiaaProg.lean LOADS. Nothing in Lean hashes anything: it is a label: what it is worth is what the hold of that sum in a sandbox is worth. -/
noncomputable def Try.pinned : Pinned := { name := "ytjpajfgdbmeiiaa", sum := "bdfd301eeeae37533842e61090d4427aa84fad9693d253ecf2bbd6caf531af52", checked := Try.checked }
namespace Rows
def none {H : Type} : Left H := { results := [], args := [] }

/-- 'windrowlaw11.PoolAll': WHATEVER THE INPUT: true; the input reads as it did. -/
def poolAllSpec : ChangeSpec := { name := "poolAll", fn := fun _ => fun
  | [d1, d2, d3] => { results := [.lit (.bool true)], args := [d1, d2, d3] }
  | _ => none }
def poolAllRow : OpenClaim := { program := "ytjpajfgdbmeiiaa", sum := "bdfd301eeeae37533842e61090d4427aa84fad9693d253ecf2bbd6caf531af52", func := "windrow/windrowlaw11.PoolAll", spec := "poolAll", apart := false }
def PoolAllSaid : Prop := poolAllRow.holds Try.pinned (OpenSpec.ofChange poolAllSpec)

/-- ITS FALSE NEIGHBOUR: 'it returns false'. Refute it at one input. -/
def poolAllWrong : ChangeSpec := { name := "poolAll", fn := fun _ => fun
  | [d1, d2, d3] => { results := [.lit (.bool false)], args := [d1, d2, d3] }
  | _ => none }
def PoolAllWrongFalsely : Prop := poolAllRow.holds Try.pinned (OpenSpec.ofChange poolAllWrong)

/-- 'windrowlaw11.PoolKeeps': WHATEVER THE INPUT: true; the input reads as it did. -/
def poolKeepsSpec : ChangeSpec := { name := "poolKeeps", fn := fun _ => fun
  | [d1, d2, d3, d4] => { results := [.lit (.bool true)], args := [d1, d2, d3, d4] }
  | _ => none }
def poolKeepsRow : OpenClaim := { program := "ytjpajfgdbmeiiaa", sum := "bdfd301eeeae37533842e61090d4427aa84fad9693d253ecf2bbd6caf531af52", func := "windrow/windrowlaw11.PoolKeeps", spec := "poolKeeps", apart := false }
def PoolKeepsSaid : Prop := poolKeepsRow.holds Try.pinned (OpenSpec.ofChange poolKeepsSpec)

/-- ITS FALSE NEIGHBOUR: 'it returns false'. Refute it at one input. -/
def poolKeepsWrong : ChangeSpec := { name := "poolKeeps", fn := fun _ => fun
  | [d1, d2, d3, d4] => { results := [.lit (.bool false)], args := [d1, d2, d3, d4] }
  | _ => none }
def PoolKeepsWrongFalsely : Prop := poolKeepsRow.holds Try.pinned (OpenSpec.ofChange poolKeepsWrong)

/-- 'windrowlaw11.PoolOpens': WHATEVER THE INPUT: true; the input reads as it did. -/
def poolOpensSpec : ChangeSpec := { name := "poolOpens", fn := fun _ => fun
  | [d1, d2] => { results := [.lit (.bool true)], args := [d1, d2] }
  | _ => none }
def poolOpensRow : OpenClaim := { program := "ytjpajfgdbmeiiaa", sum := "bdfd301eeeae37533842e61090d4427aa84fad9693d253ecf2bbd6caf531af52", func := "windrow/windrowlaw11.PoolOpens", spec := "poolOpens", apart := false }
def PoolOpensSaid : Prop := poolOpensRow.holds Try.pinned (OpenSpec.ofChange poolOpensSpec)

/-- ITS FALSE NEIGHBOUR: 'it returns false'. Refute it at one input. -/
def poolOpensWrong : ChangeSpec := { name := "poolOpens", fn := fun _ => fun
  | [d1, d2] => { results := [.lit (.bool false)], args := [d1, d2] }
  | _ => none }
def PoolOpensWrongFalsely : Prop := poolOpensRow.holds Try.pinned (OpenSpec.ofChange poolOpensWrong)

/-- 'windrowlaw11.PoolActs': WHATEVER THE INPUT: true; the input reads as it did. -/
def poolActsSpec : ChangeSpec := { name := "poolActs", fn := fun _ => fun
  | [d1, d2, d3, d4] => { results := [.lit (.bool true)], args := [d1, d2, d3, d4] }
  | _ => none }
def poolActsRow : OpenClaim := { program := "ytjpajfgdbmeiiaa", sum := "bdfd301eeeae37533842e61090d4427aa84fad9693d253ecf2bbd6caf531af52", func := "windrow/windrowlaw11.PoolActs", spec := "poolActs", apart := false }
def PoolActsSaid : Prop := poolActsRow.holds Try.pinned (OpenSpec.ofChange poolActsSpec)

/-- ITS FALSE NEIGHBOUR: 'it returns false'. Refute it at one input. -/
def poolActsWrong : ChangeSpec := { name := "poolActs", fn := fun _ => fun
  | [d1, d2, d3, d4] => { results := [.lit (.bool false)], args := [d1, d2, d3, d4] }
  | _ => none }
def PoolActsWrongFalsely : Prop := poolActsRow.holds Try.pinned (OpenSpec.ofChange poolActsWrong)

/-- 'windrowlaw11.PoolOne': WHATEVER THE INPUT: true; the input reads as it did. -/
def poolOneSpec : ChangeSpec := { name := "poolOne", fn := fun _ => fun
  | [d1, d2] => { results := [.lit (.bool true)], args := [d1, d2] }
  | _ => none }
def poolOneRow : OpenClaim := { program := "ytjpajfgdbmeiiaa", sum := "bdfd301eeeae37533842e61090d4427aa84fad9693d253ecf2bbd6caf531af52", func := "windrow/windrowlaw11.PoolOne", spec := "poolOne", apart := false }
def PoolOneSaid : Prop := poolOneRow.holds Try.pinned (OpenSpec.ofChange poolOneSpec)

/-- ITS FALSE NEIGHBOUR: 'it returns false'. Refute it at one input. -/
def poolOneWrong : ChangeSpec := { name := "poolOne", fn := fun _ => fun
  | [d1, d2] => { results := [.lit (.bool false)], args := [d1, d2] }
  | _ => none }
def PoolOneWrongFalsely : Prop := poolOneRow.holds Try.pinned (OpenSpec.ofChange poolOneWrong)

/-- 'windrowlaw12.LanePlans': WHATEVER THE INPUT: true; the input reads as it did. -/
def lanePlansSpec : ChangeSpec := { name := "lanePlans", fn := fun _ => fun
  | [d1, d2, d3, d4, d5] => { results := [.lit (.bool true)], args := [d1, d2, d3, d4, d5] }
  | _ => none }
def lanePlansRow : OpenClaim := { program := "ytjpajfgdbmeiiaa", sum := "bdfd301eeeae37533842e61090d4427aa84fad9693d253ecf2bbd6caf531af52", func := "windrow/windrowlaw12.LanePlans", spec := "lanePlans", apart := false }
def LanePlansSaid : Prop := lanePlansRow.holds Try.pinned (OpenSpec.ofChange lanePlansSpec)

/-- ITS FALSE NEIGHBOUR: 'it returns false'. Refute it at one input. -/
def lanePlansWrong : ChangeSpec := { name := "lanePlans", fn := fun _ => fun
  | [d1, d2, d3, d4, d5] => { results := [.lit (.bool false)], args := [d1, d2, d3, d4, d5] }
  | _ => none }
def LanePlansWrongFalsely : Prop := lanePlansRow.holds Try.pinned (OpenSpec.ofChange lanePlansWrong)

/-- 'windrowlaw12.LaneFits': WHATEVER THE INPUT: true; the input reads as it did. -/
def laneFitsSpec : ChangeSpec := { name := "laneFits", fn := fun _ => fun
  | [d1, d2, d3, d4, d5] => { results := [.lit (.bool true)], args := [d1, d2, d3, d4, d5] }
  | _ => none }
def laneFitsRow : OpenClaim := { program := "ytjpajfgdbmeiiaa", sum := "bdfd301eeeae37533842e61090d4427aa84fad9693d253ecf2bbd6caf531af52", func := "windrow/windrowlaw12.LaneFits", spec := "laneFits", apart := false }
def LaneFitsSaid : Prop := laneFitsRow.holds Try.pinned (OpenSpec.ofChange laneFitsSpec)

/-- ITS FALSE NEIGHBOUR: 'it returns false'. Refute it at one input. -/
def laneFitsWrong : ChangeSpec := { name := "laneFits", fn := fun _ => fun
  | [d1, d2, d3, d4, d5] => { results := [.lit (.bool false)], args := [d1, d2, d3, d4, d5] }
  | _ => none }
def LaneFitsWrongFalsely : Prop := laneFitsRow.holds Try.pinned (OpenSpec.ofChange laneFitsWrong)

/-- 'windrowlaw12.LaneReserve': WHATEVER THE INPUT: true; the input reads as it did. -/
def laneReserveSpec : ChangeSpec := { name := "laneReserve", fn := fun _ => fun
  | [d1, d2, d3, d4, d5] => { results := [.lit (.bool true)], args := [d1, d2, d3, d4, d5] }
  | _ => none }
def laneReserveRow : OpenClaim := { program := "ytjpajfgdbmeiiaa", sum := "bdfd301eeeae37533842e61090d4427aa84fad9693d253ecf2bbd6caf531af52", func := "windrow/windrowlaw12.LaneReserve", spec := "laneReserve", apart := false }
def LaneReserveSaid : Prop := laneReserveRow.holds Try.pinned (OpenSpec.ofChange laneReserveSpec)

/-- ITS FALSE NEIGHBOUR: 'it returns false'. Refute it at one input. -/
def laneReserveWrong : ChangeSpec := { name := "laneReserve", fn := fun _ => fun
  | [d1, d2, d3, d4, d5] => { results := [.lit (.bool false)], args := [d1, d2, d3, d4, d5] }
  | _ => none }
def LaneReserveWrongFalsely : Prop := laneReserveRow.holds Try.pinned (OpenSpec.ofChange laneReserveWrong)

/-- 'windrowlaw12.LaneLess': WHATEVER THE INPUT: true; the input reads as it did. -/
def laneLessSpec : ChangeSpec := { name := "laneLess", fn := fun _ => fun
  | [d1, d2, d3, d4, d5] => { results := [.lit (.bool true)], args := [d1, d2, d3, d4, d5] }
  | _ => none }
def laneLessRow : OpenClaim := { program := "ytjpajfgdbmeiiaa", sum := "bdfd301eeeae37533842e61090d4427aa84fad9693d253ecf2bbd6caf531af52", func := "windrow/windrowlaw12.LaneLess", spec := "laneLess", apart := false }
def LaneLessSaid : Prop := laneLessRow.holds Try.pinned (OpenSpec.ofChange laneLessSpec)

/-- ITS FALSE NEIGHBOUR: 'it returns false'. Refute it at one input. -/
def laneLessWrong : ChangeSpec := { name := "laneLess", fn := fun _ => fun
  | [d1, d2, d3, d4, d5] => { results := [.lit (.bool false)], args := [d1, d2, d3, d4, d5] }
  | _ => none }
def LaneLessWrongFalsely : Prop := laneLessRow.holds Try.pinned (OpenSpec.ofChange laneLessWrong)

/-- 'windrowlaw12.LaneKeeps': WHATEVER THE INPUT: true; the input reads as it did. -/
def laneKeepsSpec : ChangeSpec := { name := "laneKeeps", fn := fun _ => fun
  | [d1, d2, d3] => { results := [.lit (.bool true)], args := [d1, d2, d3] }
  | _ => none }
def laneKeepsRow : OpenClaim := { program := "ytjpajfgdbmeiiaa", sum := "bdfd301eeeae37533842e61090d4427aa84fad9693d253ecf2bbd6caf531af52", func := "windrow/windrowlaw12.LaneKeeps", spec := "laneKeeps", apart := false }
def LaneKeepsSaid : Prop := laneKeepsRow.holds Try.pinned (OpenSpec.ofChange laneKeepsSpec)

/-- ITS FALSE NEIGHBOUR: 'it returns false'. Refute it at one input. -/
def laneKeepsWrong : ChangeSpec := { name := "laneKeeps", fn := fun _ => fun
  | [d1, d2, d3] => { results := [.lit (.bool false)], args := [d1, d2, d3] }
  | _ => none }
def LaneKeepsWrongFalsely : Prop := laneKeepsRow.holds Try.pinned (OpenSpec.ofChange laneKeepsWrong)

/-- 'windrowlaw12.LaneZones': WHATEVER THE INPUT: true; the input reads as it did. -/
def laneZonesSpec : ChangeSpec := { name := "laneZones", fn := fun _ => fun
  | [d1, d2, d3, d4] => { results := [.lit (.bool true)], args := [d1, d2, d3, d4] }
  | _ => none }
def laneZonesRow : OpenClaim := { program := "ytjpajfgdbmeiiaa", sum := "bdfd301eeeae37533842e61090d4427aa84fad9693d253ecf2bbd6caf531af52", func := "windrow/windrowlaw12.LaneZones", spec := "laneZones", apart := false }
def LaneZonesSaid : Prop := laneZonesRow.holds Try.pinned (OpenSpec.ofChange laneZonesSpec)

/-- ITS FALSE NEIGHBOUR: 'it returns false'. Refute it at one input. -/
def laneZonesWrong : ChangeSpec := { name := "laneZones", fn := fun _ => fun
  | [d1, d2, d3, d4] => { results := [.lit (.bool false)], args := [d1, d2, d3, d4] }
  | _ => none }
def LaneZonesWrongFalsely : Prop := laneZonesRow.holds Try.pinned (OpenSpec.ofChange laneZonesWrong)

/- THE SECOND FORM. 'bulk': how many values and letters a reading holds, each counted each time it is reached (what is shared counts as often as it is met; a slice's spare places count too). A statement '..UptoSaid' is the law's where the arguments, and the package variables that the reading takes, are together of bulk at most 1048576: NARROWER than '..Said'. Prove '..Said' where nothing that the law and all that it calls make is longer than what came in: it says more and counts as full. Else prove '..UptoSaid'. A law counts once. -/
mutual
def uptoBulk {H : Type} : DataW H → Nat
  | .lit (.string bytes) => bytes.length + 1
  | .lit _ => 1
  | .nil => 1
  | .ptr d => uptoBulk d + 1
  | .slice elems spare => uptoBulkAll elems + uptoBulkAll spare + 1
  | .agg parts => uptoBulkAll parts + 1
  | .iface _ d => uptoBulk d + 1
  | .map entries => uptoBulkEntries entries + 1
  | .held _ => 1
def uptoBulkAll {H : Type} : List (DataW H) → Nat
  | [] => 0
  | d :: r => uptoBulk d + uptoBulkAll r
def uptoBulkEntries {H : Type} : List (Lit × DataW H) → Nat
  | [] => 0
  | x :: r => uptoBulkEntry x + uptoBulkEntries r
def uptoBulkEntry {H : Type} : Lit × DataW H → Nat
  | (.string bytes, d) => bytes.length + uptoBulk d + 1
  | (_, d) => uptoBulk d + 1
 end
def uptoSmall : (H : Type) → List (DataW H) → Bool := fun _ ds => decide (uptoBulkAll ds ≤ 1048576)
def OpenSpec.upto (s : _root_.Go.ChangeSpec) : _root_.Go.OpenSpec := { _root_.Go.OpenSpec.ofChange s with cond := some uptoSmall }

/-- 'windrowlaw11.PoolAll', WHERE WHAT IT READS IS OF BULK AT MOST 1048576: true; the input reads as it did. -/
def poolAllUptoRow : OpenClaim := { program := "ytjpajfgdbmeiiaa", sum := "bdfd301eeeae37533842e61090d4427aa84fad9693d253ecf2bbd6caf531af52", func := "windrow/windrowlaw11.PoolAll", spec := "poolAll", apart := false, narrowed := true }
def PoolAllUptoSaid : Prop := poolAllUptoRow.holds Try.pinned (OpenSpec.upto poolAllSpec)

/-- 'windrowlaw11.PoolKeeps', WHERE WHAT IT READS IS OF BULK AT MOST 1048576: true; the input reads as it did. -/
def poolKeepsUptoRow : OpenClaim := { program := "ytjpajfgdbmeiiaa", sum := "bdfd301eeeae37533842e61090d4427aa84fad9693d253ecf2bbd6caf531af52", func := "windrow/windrowlaw11.PoolKeeps", spec := "poolKeeps", apart := false, narrowed := true }
def PoolKeepsUptoSaid : Prop := poolKeepsUptoRow.holds Try.pinned (OpenSpec.upto poolKeepsSpec)

/-- 'windrowlaw11.PoolOpens', WHERE WHAT IT READS IS OF BULK AT MOST 1048576: true; the input reads as it did. -/
def poolOpensUptoRow : OpenClaim := { program := "ytjpajfgdbmeiiaa", sum := "bdfd301eeeae37533842e61090d4427aa84fad9693d253ecf2bbd6caf531af52", func := "windrow/windrowlaw11.PoolOpens", spec := "poolOpens", apart := false, narrowed := true }
def PoolOpensUptoSaid : Prop := poolOpensUptoRow.holds Try.pinned (OpenSpec.upto poolOpensSpec)

/-- 'windrowlaw11.PoolActs', WHERE WHAT IT READS IS OF BULK AT MOST 1048576: true; the input reads as it did. -/
def poolActsUptoRow : OpenClaim := { program := "ytjpajfgdbmeiiaa", sum := "bdfd301eeeae37533842e61090d4427aa84fad9693d253ecf2bbd6caf531af52", func := "windrow/windrowlaw11.PoolActs", spec := "poolActs", apart := false, narrowed := true }
def PoolActsUptoSaid : Prop := poolActsUptoRow.holds Try.pinned (OpenSpec.upto poolActsSpec)

/-- 'windrowlaw11.PoolOne', WHERE WHAT IT READS IS OF BULK AT MOST 1048576: true; the input reads as it did. -/
def poolOneUptoRow : OpenClaim := { program := "ytjpajfgdbmeiiaa", sum := "bdfd301eeeae37533842e61090d4427aa84fad9693d253ecf2bbd6caf531af52", func := "windrow/windrowlaw11.PoolOne", spec := "poolOne", apart := false, narrowed := true }
def PoolOneUptoSaid : Prop := poolOneUptoRow.holds Try.pinned (OpenSpec.upto poolOneSpec)

/-- 'windrowlaw12.LanePlans', WHERE WHAT IT READS IS OF BULK AT MOST 1048576: true; the input reads as it did. -/
def lanePlansUptoRow : OpenClaim := { program := "ytjpajfgdbmeiiaa", sum := "bdfd301eeeae37533842e61090d4427aa84fad9693d253ecf2bbd6caf531af52", func := "windrow/windrowlaw12.LanePlans", spec := "lanePlans", apart := false, narrowed := true }
def LanePlansUptoSaid : Prop := lanePlansUptoRow.holds Try.pinned (OpenSpec.upto lanePlansSpec)

/-- 'windrowlaw12.LaneFits', WHERE WHAT IT READS IS OF BULK AT MOST 1048576: true; the input reads as it did. -/
def laneFitsUptoRow : OpenClaim := { program := "ytjpajfgdbmeiiaa", sum := "bdfd301eeeae37533842e61090d4427aa84fad9693d253ecf2bbd6caf531af52", func := "windrow/windrowlaw12.LaneFits", spec := "laneFits", apart := false, narrowed := true }
def LaneFitsUptoSaid : Prop := laneFitsUptoRow.holds Try.pinned (OpenSpec.upto laneFitsSpec)

/-- 'windrowlaw12.LaneReserve', WHERE WHAT IT READS IS OF BULK AT MOST 1048576: true; the input reads as it did. -/
def laneReserveUptoRow : OpenClaim := { program := "ytjpajfgdbmeiiaa", sum := "bdfd301eeeae37533842e61090d4427aa84fad9693d253ecf2bbd6caf531af52", func := "windrow/windrowlaw12.LaneReserve", spec := "laneReserve", apart := false, narrowed := true }
def LaneReserveUptoSaid : Prop := laneReserveUptoRow.holds Try.pinned (OpenSpec.upto laneReserveSpec)

/-- 'windrowlaw12.LaneLess', WHERE WHAT IT READS IS OF BULK AT MOST 1048576: true; the input reads as it did. -/
def laneLessUptoRow : OpenClaim := { program := "ytjpajfgdbmeiiaa", sum := "bdfd301eeeae37533842e61090d4427aa84fad9693d253ecf2bbd6caf531af52", func := "windrow/windrowlaw12.LaneLess", spec := "laneLess", apart := false, narrowed := true }
def LaneLessUptoSaid : Prop := laneLessUptoRow.holds Try.pinned (OpenSpec.upto laneLessSpec)

/-- 'windrowlaw12.LaneKeeps', WHERE WHAT IT READS IS OF BULK AT MOST 1048576: true; the input reads as it did. -/
def laneKeepsUptoRow : OpenClaim := { program := "ytjpajfgdbmeiiaa", sum := "bdfd301eeeae37533842e61090d4427aa84fad9693d253ecf2bbd6caf531af52", func := "windrow/windrowlaw12.LaneKeeps", spec := "laneKeeps", apart := false, narrowed := true }
def LaneKeepsUptoSaid : Prop := laneKeepsUptoRow.holds Try.pinned (OpenSpec.upto laneKeepsSpec)

/-- 'windrowlaw12.LaneZones', WHERE WHAT IT READS IS OF BULK AT MOST 1048576: true; the input reads as it did. -/
def laneZonesUptoRow : OpenClaim := { program := "ytjpajfgdbmeiiaa", sum := "bdfd301eeeae37533842e61090d4427aa84fad9693d253ecf2bbd6caf531af52", func := "windrow/windrowlaw12.LaneZones", spec := "laneZones", apart := false, narrowed := true }
def LaneZonesUptoSaid : Prop := laneZonesUptoRow.holds Try.pinned (OpenSpec.upto laneZonesSpec)

end Rows
end Go.Proofs.Ytjpajfgdbmeiiaa
