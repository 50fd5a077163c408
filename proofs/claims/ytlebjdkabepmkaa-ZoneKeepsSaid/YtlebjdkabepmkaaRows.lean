/-
  No cell of these rows narrows 'for every input' (looked for: loops, veiled, ifaces, maps, wideKeys, modest, calm, conditions, laid).
  DERIVED. THE GIVEN ROWS OF THIS SEAT. 5 by the template 'for every input the law returns true; each argument reads behind the call as it read before'; 0 by the template 'total and deterministic' (their statements: YtlebjdkabepmkaaTotals.lean).
  GIVEN WITH THE SEED: the statements are not yours to turn. If you find one false, say at which input.
  Laid BY PROGRAM, IN A SANDBOX (cutbox-rows.mjs): the forced cells as the released guide's own fill.sh prints them over the translation a0e312616c6972df… (all of the seat's roots in one cut). By AI agents, Wed Nov 11 2026. No macro, syntax, notation, axiom, sorry.
-/
import Derived.Test.YtlebjdkabepmkaaChecked
import GoSem.Claim
import GoSem.ClaimJoined
import GoSem.ClaimMapViews
import Derived.JoinedTies
import Derived.KernelRfl
namespace Go.Proofs.Ytlebjdkabepmkaa
/- THE CELL 'sum', in the pinned program and in every row, IS THE sha256 OF THE DUMP (.gsa) THAT YtlebjdkabepmkaaProg.lean LOADS. Nothing in Lean hashes anything: it is a label: what it is worth is what the hold of that sum in a sandbox is worth. -/
noncomputable def Try.pinned : Pinned := { name := "ytlebjdkabepmkaa", sum := "a0e312616c6972df36c733a6be331149792a61529c0ccb543fd53a105835ceda", checked := Try.checked }
namespace Rows
def none {H : Type} : Left H := { results := [], args := [] }

/-- 'windrowlaw04.ZoneFills': WHATEVER THE INPUT: true; the input reads as it did. -/
def zoneFillsSpec : ChangeSpec := { name := "zoneFills", fn := fun _ => fun
  | [d1, d2] => { results := [.lit (.bool true)], args := [d1, d2] }
  | _ => none }
def zoneFillsRow : OpenClaim := { program := "ytlebjdkabepmkaa", sum := "a0e312616c6972df36c733a6be331149792a61529c0ccb543fd53a105835ceda", func := "windrow/windrowlaw04.ZoneFills", spec := "zoneFills", apart := false }
def ZoneFillsSaid : Prop := zoneFillsRow.holds Try.pinned (OpenSpec.ofChange zoneFillsSpec)

/-- ITS FALSE NEIGHBOUR: 'it returns false'. Refute it at one input. -/
def zoneFillsWrong : ChangeSpec := { name := "zoneFills", fn := fun _ => fun
  | [d1, d2] => { results := [.lit (.bool false)], args := [d1, d2] }
  | _ => none }
def ZoneFillsWrongFalsely : Prop := zoneFillsRow.holds Try.pinned (OpenSpec.ofChange zoneFillsWrong)

/-- 'windrowlaw04.ZoneActs': WHATEVER THE INPUT: true; the input reads as it did. -/
def zoneActsSpec : ChangeSpec := { name := "zoneActs", fn := fun _ => fun
  | [d1, d2, d3, d4] => { results := [.lit (.bool true)], args := [d1, d2, d3, d4] }
  | _ => none }
def zoneActsRow : OpenClaim := { program := "ytlebjdkabepmkaa", sum := "a0e312616c6972df36c733a6be331149792a61529c0ccb543fd53a105835ceda", func := "windrow/windrowlaw04.ZoneActs", spec := "zoneActs", apart := false }
def ZoneActsSaid : Prop := zoneActsRow.holds Try.pinned (OpenSpec.ofChange zoneActsSpec)

/-- ITS FALSE NEIGHBOUR: 'it returns false'. Refute it at one input. -/
def zoneActsWrong : ChangeSpec := { name := "zoneActs", fn := fun _ => fun
  | [d1, d2, d3, d4] => { results := [.lit (.bool false)], args := [d1, d2, d3, d4] }
  | _ => none }
def ZoneActsWrongFalsely : Prop := zoneActsRow.holds Try.pinned (OpenSpec.ofChange zoneActsWrong)

/-- 'windrowlaw04.ZoneLegal': WHATEVER THE INPUT: true; the input reads as it did. -/
def zoneLegalSpec : ChangeSpec := { name := "zoneLegal", fn := fun _ => fun
  | [d1, d2] => { results := [.lit (.bool true)], args := [d1, d2] }
  | _ => none }
def zoneLegalRow : OpenClaim := { program := "ytlebjdkabepmkaa", sum := "a0e312616c6972df36c733a6be331149792a61529c0ccb543fd53a105835ceda", func := "windrow/windrowlaw04.ZoneLegal", spec := "zoneLegal", apart := false }
def ZoneLegalSaid : Prop := zoneLegalRow.holds Try.pinned (OpenSpec.ofChange zoneLegalSpec)

/-- ITS FALSE NEIGHBOUR: 'it returns false'. Refute it at one input. -/
def zoneLegalWrong : ChangeSpec := { name := "zoneLegal", fn := fun _ => fun
  | [d1, d2] => { results := [.lit (.bool false)], args := [d1, d2] }
  | _ => none }
def ZoneLegalWrongFalsely : Prop := zoneLegalRow.holds Try.pinned (OpenSpec.ofChange zoneLegalWrong)

/-- 'windrowlaw04.ZoneKeeps': WHATEVER THE INPUT: true; the input reads as it did. -/
def zoneKeepsSpec : ChangeSpec := { name := "zoneKeeps", fn := fun _ => fun
  | [d1, d2, d3, d4] => { results := [.lit (.bool true)], args := [d1, d2, d3, d4] }
  | _ => none }
def zoneKeepsRow : OpenClaim := { program := "ytlebjdkabepmkaa", sum := "a0e312616c6972df36c733a6be331149792a61529c0ccb543fd53a105835ceda", func := "windrow/windrowlaw04.ZoneKeeps", spec := "zoneKeeps", apart := false }
def ZoneKeepsSaid : Prop := zoneKeepsRow.holds Try.pinned (OpenSpec.ofChange zoneKeepsSpec)

/-- ITS FALSE NEIGHBOUR: 'it returns false'. Refute it at one input. -/
def zoneKeepsWrong : ChangeSpec := { name := "zoneKeeps", fn := fun _ => fun
  | [d1, d2, d3, d4] => { results := [.lit (.bool false)], args := [d1, d2, d3, d4] }
  | _ => none }
def ZoneKeepsWrongFalsely : Prop := zoneKeepsRow.holds Try.pinned (OpenSpec.ofChange zoneKeepsWrong)

/-- 'windrowlaw04.ZoneOthers': WHATEVER THE INPUT: true; the input reads as it did. -/
def zoneOthersSpec : ChangeSpec := { name := "zoneOthers", fn := fun _ => fun
  | [d1, d2, d3, d4] => { results := [.lit (.bool true)], args := [d1, d2, d3, d4] }
  | _ => none }
def zoneOthersRow : OpenClaim := { program := "ytlebjdkabepmkaa", sum := "a0e312616c6972df36c733a6be331149792a61529c0ccb543fd53a105835ceda", func := "windrow/windrowlaw04.ZoneOthers", spec := "zoneOthers", apart := false }
def ZoneOthersSaid : Prop := zoneOthersRow.holds Try.pinned (OpenSpec.ofChange zoneOthersSpec)

/-- ITS FALSE NEIGHBOUR: 'it returns false'. Refute it at one input. -/
def zoneOthersWrong : ChangeSpec := { name := "zoneOthers", fn := fun _ => fun
  | [d1, d2, d3, d4] => { results := [.lit (.bool false)], args := [d1, d2, d3, d4] }
  | _ => none }
def ZoneOthersWrongFalsely : Prop := zoneOthersRow.holds Try.pinned (OpenSpec.ofChange zoneOthersWrong)

/- THE SECOND FORM. 'bulk': how many values and letters a reading holds, each counted each time it is reached (what is shared counts as often as it is met; a slice's spare places count too). A statement '..UptoSaid' is the law's where the arguments, and the package variables that the reading takes, are together of bulk at most 1048576: NARROWER than '..Said'. Prove '..Said' where nothing that the law and all that it calls make is longer than what came in: it says more and counts as full. Else prove '..UptoSaid'. A law counts once. -/
mutual
def uptoBulk {H : Type} : DataW H → Nat
  | .lit (.string bytes) => bytes.length + 1
  | .lit _ => 1
  | .nil => 1
  | .ptr d => uptoBulk d + 1
  | .slice elems spare => uptoBulkAll elems + uptoBulkAll spare + 1
  | .agg parts => uptoBulkAll parts + 1
  | .iface _ d => uptoBulk d + 1
  | .map entries => uptoBulkEntries entries + 1
  | .held _ => 1
def uptoBulkAll {H : Type} : List (DataW H) → Nat
  | [] => 0
  | d :: r => uptoBulk d + uptoBulkAll r
def uptoBulkEntries {H : Type} : List (Lit × DataW H) → Nat
  | [] => 0
  | x :: r => uptoBulkEntry x + uptoBulkEntries r
def uptoBulkEntry {H : Type} : Lit × DataW H → Nat
  | (.string bytes, d) => bytes.length + uptoBulk d + 1
  | (_, d) => uptoBulk d + 1
 end
def uptoSmall : (H : Type) → List (DataW H) → Bool := fun _ ds => decide (uptoBulkAll ds ≤ 1048576)
def OpenSpec.upto (s : _root_.Go.ChangeSpec) : _root_.Go.OpenSpec := { _root_.Go.OpenSpec.ofChange s with cond := some uptoSmall }

/-- 'windrowlaw04.ZoneFills', WHERE WHAT IT READS IS OF BULK AT MOST 1048576: true; the input reads as it did. -/
def zoneFillsUptoRow : OpenClaim := { program := "ytlebjdkabepmkaa", sum := "a0e312616c6972df36c733a6be331149792a61529c0ccb543fd53a105835ceda", func := "windrow/windrowlaw04.ZoneFills", spec := "zoneFills", apart := false, narrowed := true }
def ZoneFillsUptoSaid : Prop := zoneFillsUptoRow.holds Try.pinned (OpenSpec.upto zoneFillsSpec)

/-- 'windrowlaw04.ZoneActs', WHERE WHAT IT READS IS OF BULK AT MOST 1048576: true; the input reads as it did. -/
def zoneActsUptoRow : OpenClaim := { program := "ytlebjdkabepmkaa", sum := "a0e312616c6972df36c733a6be331149792a61529c0ccb543fd53a105835ceda", func := "windrow/windrowlaw04.ZoneActs", spec := "zoneActs", apart := false, narrowed := true }
def ZoneActsUptoSaid : Prop := zoneActsUptoRow.holds Try.pinned (OpenSpec.upto zoneActsSpec)

/-- 'windrowlaw04.ZoneLegal', WHERE WHAT IT READS IS OF BULK AT MOST 1048576: true; the input reads as it did. -/
def zoneLegalUptoRow : OpenClaim := { program := "ytlebjdkabepmkaa", sum := "a0e312616c6972df36c733a6be331149792a61529c0ccb543fd53a105835ceda", func := "windrow/windrowlaw04.ZoneLegal", spec := "zoneLegal", apart := false, narrowed := true }
def ZoneLegalUptoSaid : Prop := zoneLegalUptoRow.holds Try.pinned (OpenSpec.upto zoneLegalSpec)

/-- 'windrowlaw04.ZoneKeeps', WHERE WHAT IT READS IS OF BULK AT MOST 1048576: true; the input reads as it did. -/
def zoneKeepsUptoRow : OpenClaim := { program := "ytlebjdkabepmkaa", sum := "a0e312616c6972df36c733a6be331149792a61529c0ccb543fd53a105835ceda", func := "windrow/windrowlaw04.ZoneKeeps", spec := "zoneKeeps", apart := false, narrowed := true }
def ZoneKeepsUptoSaid : Prop := zoneKeepsUptoRow.holds Try.pinned (OpenSpec.upto zoneKeepsSpec)

/-- 'windrowlaw04.ZoneOthers', WHERE WHAT IT READS IS OF BULK AT MOST 1048576: true; the input reads as it did. -/
def zoneOthersUptoRow : OpenClaim := { program := "ytlebjdkabepmkaa", sum := "a0e312616c6972df36c733a6be331149792a61529c0ccb543fd53a105835ceda", func := "windrow/windrowlaw04.ZoneOthers", spec := "zoneOthers", apart := false, narrowed := true }
def ZoneOthersUptoSaid : Prop := zoneOthersUptoRow.holds Try.pinned (OpenSpec.upto zoneOthersSpec)

end Rows
end Go.Proofs.Ytlebjdkabepmkaa
