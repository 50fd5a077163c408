/-
  No cell of these rows narrows 'for every input' (looked for: loops, veiled, ifaces, maps, wideKeys, modest, calm, conditions, laid).
  DERIVED. THE GIVEN ROWS OF THIS SEAT. 6 by the template 'for every input the law returns true; each argument reads behind the call as it read before'; 0 by the template 'total and deterministic' (their statements: YtegcfbmleimcfaaTotals.lean).
  GIVEN WITH THE SEED: the statements are not yours to turn. If you find one false, say at which input.
  Laid BY PROGRAM, IN A SANDBOX (cutbox-rows.mjs): the forced cells as the released guide's own fill.sh prints them over the translation f752c34d149ef5ed… (all of the seat's roots in one cut). By AI agents, Wed Nov 11 2026. No macro, syntax, notation, axiom, sorry.
-/
import Derived.Test.YtegcfbmleimcfaaChecked
import GoSem.Claim
import GoSem.ClaimJoined
import GoSem.ClaimMapViews
import Derived.JoinedTies
import Derived.KernelRfl
namespace Go.Proofs.Ytegcfbmleimcfaa
/- THE CELL 'sum', in the pinned program and in every row, IS THE sha256 OF THE DUMP (.gsa) THAT YtegcfbmleimcfaaProg.lean LOADS. Nothing in Lean hashes anything: it is a label: what it is worth is what the hold of that sum in a sandbox is worth. -/
noncomputable def Try.pinned : Pinned := { name := "ytegcfbmleimcfaa", sum := "f752c34d149ef5eda93f23236ccaa7af9f0dc5c070c1e814c6944bfafc58445c", checked := Try.checked }
namespace Rows
def none {H : Type} : Left H := { results := [], args := [] }

/-- 'windrowlaw18.TransWrites': WHATEVER THE INPUT: true; the input reads as it did. -/
def transWritesSpec : ChangeSpec := { name := "transWrites", fn := fun _ => fun
  | [d1, d2, d3] => { results := [.lit (.bool true)], args := [d1, d2, d3] }
  | _ => none }
def transWritesRow : OpenClaim := { program := "ytegcfbmleimcfaa", sum := "f752c34d149ef5eda93f23236ccaa7af9f0dc5c070c1e814c6944bfafc58445c", func := "windrow/windrowlaw18.TransWrites", spec := "transWrites", inPlace := ["slices.overlaps[windrow/api.Write]"], unfollowed := true, recurses := true, apart := false }
def TransWritesSaid : Prop := transWritesRow.holds Try.pinned (OpenSpec.ofChange transWritesSpec)

/-- ITS FALSE NEIGHBOUR: 'it returns false'. Refute it at one input. -/
def transWritesWrong : ChangeSpec := { name := "transWrites", fn := fun _ => fun
  | [d1, d2, d3] => { results := [.lit (.bool false)], args := [d1, d2, d3] }
  | _ => none }
def TransWritesWrongFalsely : Prop := transWritesRow.holds Try.pinned (OpenSpec.ofChange transWritesWrong)

/-- 'windrowlaw18.TransLedgers': WHATEVER THE INPUT: true; the input reads as it did. -/
def transLedgersSpec : ChangeSpec := { name := "transLedgers", fn := fun _ => fun
  | [d1, d2, d3, d4] => { results := [.lit (.bool true)], args := [d1, d2, d3, d4] }
  | _ => none }
def transLedgersRow : OpenClaim := { program := "ytegcfbmleimcfaa", sum := "f752c34d149ef5eda93f23236ccaa7af9f0dc5c070c1e814c6944bfafc58445c", func := "windrow/windrowlaw18.TransLedgers", spec := "transLedgers", inPlace := ["slices.overlaps[windrow/api.Write]"], unfollowed := true, recurses := true, apart := false }
def TransLedgersSaid : Prop := transLedgersRow.holds Try.pinned (OpenSpec.ofChange transLedgersSpec)

/-- ITS FALSE NEIGHBOUR: 'it returns false'. Refute it at one input. -/
def transLedgersWrong : ChangeSpec := { name := "transLedgers", fn := fun _ => fun
  | [d1, d2, d3, d4] => { results := [.lit (.bool false)], args := [d1, d2, d3, d4] }
  | _ => none }
def TransLedgersWrongFalsely : Prop := transLedgersRow.holds Try.pinned (OpenSpec.ofChange transLedgersWrong)

/-- 'windrowlaw18.TransOverlay': WHATEVER THE INPUT: true; the input reads as it did. -/
def transOverlaySpec : ChangeSpec := { name := "transOverlay", fn := fun _ => fun
  | [d1, d2] => { results := [.lit (.bool true)], args := [d1, d2] }
  | _ => none }
def transOverlayRow : OpenClaim := { program := "ytegcfbmleimcfaa", sum := "f752c34d149ef5eda93f23236ccaa7af9f0dc5c070c1e814c6944bfafc58445c", func := "windrow/windrowlaw18.TransOverlay", spec := "transOverlay", inPlace := ["slices.overlaps[windrow/api.Write]"], unfollowed := true, recurses := true, apart := false }
def TransOverlaySaid : Prop := transOverlayRow.holds Try.pinned (OpenSpec.ofChange transOverlaySpec)

/-- ITS FALSE NEIGHBOUR: 'it returns false'. Refute it at one input. -/
def transOverlayWrong : ChangeSpec := { name := "transOverlay", fn := fun _ => fun
  | [d1, d2] => { results := [.lit (.bool false)], args := [d1, d2] }
  | _ => none }
def TransOverlayWrongFalsely : Prop := transOverlayRow.holds Try.pinned (OpenSpec.ofChange transOverlayWrong)

/-- 'windrowlaw18.TransHandles': WHATEVER THE INPUT: true; the input reads as it did. -/
def transHandlesSpec : ChangeSpec := { name := "transHandles", fn := fun _ => fun
  | [d] => { results := [.lit (.bool true)], args := [d] }
  | _ => none }
def transHandlesRow : OpenClaim := { program := "ytegcfbmleimcfaa", sum := "f752c34d149ef5eda93f23236ccaa7af9f0dc5c070c1e814c6944bfafc58445c", func := "windrow/windrowlaw18.TransHandles", spec := "transHandles", inPlace := ["slices.overlaps[windrow/api.Write]"], unfollowed := true, recurses := true, apart := false }
def TransHandlesSaid : Prop := transHandlesRow.holds Try.pinned (OpenSpec.ofChange transHandlesSpec)

/-- ITS FALSE NEIGHBOUR: 'it returns false'. Refute it at one input. -/
def transHandlesWrong : ChangeSpec := { name := "transHandles", fn := fun _ => fun
  | [d] => { results := [.lit (.bool false)], args := [d] }
  | _ => none }
def TransHandlesWrongFalsely : Prop := transHandlesRow.holds Try.pinned (OpenSpec.ofChange transHandlesWrong)

/-- 'windrowlaw18.TransKeeps': WHATEVER THE INPUT: true; the input reads as it did. -/
def transKeepsSpec : ChangeSpec := { name := "transKeeps", fn := fun _ => fun
  | [d1, d2] => { results := [.lit (.bool true)], args := [d1, d2] }
  | _ => none }
def transKeepsRow : OpenClaim := { program := "ytegcfbmleimcfaa", sum := "f752c34d149ef5eda93f23236ccaa7af9f0dc5c070c1e814c6944bfafc58445c", func := "windrow/windrowlaw18.TransKeeps", spec := "transKeeps", inPlace := ["slices.overlaps[windrow/api.Write]"], unfollowed := true, recurses := true, apart := false }
def TransKeepsSaid : Prop := transKeepsRow.holds Try.pinned (OpenSpec.ofChange transKeepsSpec)

/-- ITS FALSE NEIGHBOUR: 'it returns false'. Refute it at one input. -/
def transKeepsWrong : ChangeSpec := { name := "transKeeps", fn := fun _ => fun
  | [d1, d2] => { results := [.lit (.bool false)], args := [d1, d2] }
  | _ => none }
def TransKeepsWrongFalsely : Prop := transKeepsRow.holds Try.pinned (OpenSpec.ofChange transKeepsWrong)

/-- 'windrowlaw18.TransAlone': WHATEVER THE INPUT: true; the input reads as it did. -/
def transAloneSpec : ChangeSpec := { name := "transAlone", fn := fun _ => fun
  | [d1, d2, d3] => { results := [.lit (.bool true)], args := [d1, d2, d3] }
  | _ => none }
def transAloneRow : OpenClaim := { program := "ytegcfbmleimcfaa", sum := "f752c34d149ef5eda93f23236ccaa7af9f0dc5c070c1e814c6944bfafc58445c", func := "windrow/windrowlaw18.TransAlone", spec := "transAlone", inPlace := ["slices.overlaps[windrow/api.Write]"], unfollowed := true, recurses := true, apart := false }
def TransAloneSaid : Prop := transAloneRow.holds Try.pinned (OpenSpec.ofChange transAloneSpec)

/-- ITS FALSE NEIGHBOUR: 'it returns false'. Refute it at one input. -/
def transAloneWrong : ChangeSpec := { name := "transAlone", fn := fun _ => fun
  | [d1, d2, d3] => { results := [.lit (.bool false)], args := [d1, d2, d3] }
  | _ => none }
def TransAloneWrongFalsely : Prop := transAloneRow.holds Try.pinned (OpenSpec.ofChange transAloneWrong)

/- THE SECOND FORM. 'bulk': how many values and letters a reading holds, each counted each time it is reached (what is shared counts as often as it is met; a slice's spare places count too). A statement '..UptoSaid' is the law's where the arguments, and the package variables that the reading takes, are together of bulk at most 1048576: NARROWER than '..Said'. Prove '..Said' where nothing that the law and all that it calls make is longer than what came in: it says more and counts as full. Else prove '..UptoSaid'. A law counts once. -/
mutual
def uptoBulk {H : Type} : DataW H → Nat
  | .lit (.string bytes) => bytes.length + 1
  | .lit _ => 1
  | .nil => 1
  | .ptr d => uptoBulk d + 1
  | .slice elems spare => uptoBulkAll elems + uptoBulkAll spare + 1
  | .agg parts => uptoBulkAll parts + 1
  | .iface _ d => uptoBulk d + 1
  | .map entries => uptoBulkEntries entries + 1
  | .held _ => 1
def uptoBulkAll {H : Type} : List (DataW H) → Nat
  | [] => 0
  | d :: r => uptoBulk d + uptoBulkAll r
def uptoBulkEntries {H : Type} : List (Lit × DataW H) → Nat
  | [] => 0
  | x :: r => uptoBulkEntry x + uptoBulkEntries r
def uptoBulkEntry {H : Type} : Lit × DataW H → Nat
  | (.string bytes, d) => bytes.length + uptoBulk d + 1
  | (_, d) => uptoBulk d + 1
 end
def uptoSmall : (H : Type) → List (DataW H) → Bool := fun _ ds => decide (uptoBulkAll ds ≤ 1048576)
def OpenSpec.upto (s : _root_.Go.ChangeSpec) : _root_.Go.OpenSpec := { _root_.Go.OpenSpec.ofChange s with cond := some uptoSmall }

/-- 'windrowlaw18.TransWrites', WHERE WHAT IT READS IS OF BULK AT MOST 1048576: true; the input reads as it did. -/
def transWritesUptoRow : OpenClaim := { program := "ytegcfbmleimcfaa", sum := "f752c34d149ef5eda93f23236ccaa7af9f0dc5c070c1e814c6944bfafc58445c", func := "windrow/windrowlaw18.TransWrites", spec := "transWrites", inPlace := ["slices.overlaps[windrow/api.Write]"], unfollowed := true, recurses := true, apart := false, narrowed := true }
def TransWritesUptoSaid : Prop := transWritesUptoRow.holds Try.pinned (OpenSpec.upto transWritesSpec)

/-- 'windrowlaw18.TransLedgers', WHERE WHAT IT READS IS OF BULK AT MOST 1048576: true; the input reads as it did. -/
def transLedgersUptoRow : OpenClaim := { program := "ytegcfbmleimcfaa", sum := "f752c34d149ef5eda93f23236ccaa7af9f0dc5c070c1e814c6944bfafc58445c", func := "windrow/windrowlaw18.TransLedgers", spec := "transLedgers", inPlace := ["slices.overlaps[windrow/api.Write]"], unfollowed := true, recurses := true, apart := false, narrowed := true }
def TransLedgersUptoSaid : Prop := transLedgersUptoRow.holds Try.pinned (OpenSpec.upto transLedgersSpec)

/-- 'windrowlaw18.TransOverlay', WHERE WHAT IT READS IS OF BULK AT MOST 1048576: true; the input reads as it did. -/
def transOverlayUptoRow : OpenClaim := { program := "ytegcfbmleimcfaa", sum := "f752c34d149ef5eda93f23236ccaa7af9f0dc5c070c1e814c6944bfafc58445c", func := "windrow/windrowlaw18.TransOverlay", spec := "transOverlay", inPlace := ["slices.overlaps[windrow/api.Write]"], unfollowed := true, recurses := true, apart := false, narrowed := true }
def TransOverlayUptoSaid : Prop := transOverlayUptoRow.holds Try.pinned (OpenSpec.upto transOverlaySpec)

/-- 'windrowlaw18.TransHandles', WHERE WHAT IT READS IS OF BULK AT MOST 1048576: true; the input reads as it did. -/
def transHandlesUptoRow : OpenClaim := { program := "ytegcfbmleimcfaa", sum := "f752c34d149ef5eda93f23236ccaa7af9f0dc5c070c1e814c6944bfafc58445c", func := "windrow/windrowlaw18.TransHandles", spec := "transHandles", inPlace := ["slices.overlaps[windrow/api.Write]"], unfollowed := true, recurses := true, apart := false, narrowed := true }
def TransHandlesUptoSaid : Prop := transHandlesUptoRow.holds Try.pinned (OpenSpec.upto transHandlesSpec)

/-- 'windrowlaw18.TransKeeps', WHERE WHAT IT READS IS OF BULK AT MOST 1048576: true; the input reads as it did. -/
def transKeepsUptoRow : OpenClaim := { program := "ytegcfbmleimcfaa", sum := "f752c34d149ef5eda93f23236ccaa7af9f0dc5c070c1e814c6944bfafc58445c", func := "windrow/windrowlaw18.TransKeeps", spec := "transKeeps", inPlace := ["slices.overlaps[windrow/api.Write]"], unfollowed := true, recurses := true, apart := false, narrowed := true }
def TransKeepsUptoSaid : Prop := transKeepsUptoRow.holds Try.pinned (OpenSpec.upto transKeepsSpec)

/-- 'windrowlaw18.TransAlone', WHERE WHAT IT READS IS OF BULK AT MOST 1048576: true; the input reads as it did. -/
def transAloneUptoRow : OpenClaim := { program := "ytegcfbmleimcfaa", sum := "f752c34d149ef5eda93f23236ccaa7af9f0dc5c070c1e814c6944bfafc58445c", func := "windrow/windrowlaw18.TransAlone", spec := "transAlone", inPlace := ["slices.overlaps[windrow/api.Write]"], unfollowed := true, recurses := true, apart := false, narrowed := true }
def TransAloneUptoSaid : Prop := transAloneUptoRow.holds Try.pinned (OpenSpec.upto transAloneSpec)

end Rows
end Go.Proofs.Ytegcfbmleimcfaa
