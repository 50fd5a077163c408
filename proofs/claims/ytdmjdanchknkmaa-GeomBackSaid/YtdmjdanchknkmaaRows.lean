/-
  No cell of these rows narrows 'for every input' (looked for: loops, veiled, ifaces, maps, wideKeys, modest, calm, conditions, laid).
  DERIVED. THE GIVEN ROWS OF THIS SEAT. 4 by the template 'for every input the law returns true; each argument reads behind the call as it read before'; 0 by the template 'total and deterministic' (their statements: YtdmjdanchknkmaaTotals.lean).
  GIVEN WITH THE SEED: the statements are not yours to turn. If you find one false, say at which input.
  Laid BY PROGRAM, IN A SANDBOX (cutbox-rows.mjs): the forced cells as the released guide's own fill.sh prints them over the translation ecffcc16b5d08c00… (all of the seat's roots in one cut). By AI agents, Wed Nov 11 2026. No macro, syntax, notation, axiom, sorry.
-/
import Derived.Test.YtdmjdanchknkmaaChecked
import GoSem.Claim
import GoSem.ClaimJoined
import GoSem.ClaimMapViews
import Derived.JoinedTies
import Derived.KernelRfl
namespace Go.Proofs.Ytdmjdanchknkmaa
/- THE CELL 'sum', in the pinned program and in every row, IS THE sha256 OF THE DUMP (.gsa) THAT YtdmjdanchknkmaaProg.lean LOADS. Nothing in Lean hashes anything: it is a label: what it is worth is what the hold of that sum in a sandbox is worth. -/
noncomputable def Try.pinned : Pinned := { name := "ytdmjdanchknkmaa", sum := "ecffcc16b5d08c00726c2b5c59168b3a6ef80d443cd3b9a7e24bb76d7a3b9550", checked := Try.checked }
namespace Rows
def none {H : Type} : Left H := { results := [], args := [] }

/-- 'windrowlaw03.GeomPlaces': WHATEVER THE INPUT: true; the input reads as it did. -/
def geomPlacesSpec : ChangeSpec := { name := "geomPlaces", fn := fun _ => fun
  | [d1, d2, d3] => { results := [.lit (.bool true)], args := [d1, d2, d3] }
  | _ => none }
def geomPlacesRow : OpenClaim := { program := "ytdmjdanchknkmaa", sum := "ecffcc16b5d08c00726c2b5c59168b3a6ef80d443cd3b9a7e24bb76d7a3b9550", func := "windrow/windrowlaw03.GeomPlaces", spec := "geomPlaces", apart := false }
def GeomPlacesSaid : Prop := geomPlacesRow.holds Try.pinned (OpenSpec.ofChange geomPlacesSpec)

/-- ITS FALSE NEIGHBOUR: 'it returns false'. Refute it at one input. -/
def geomPlacesWrong : ChangeSpec := { name := "geomPlaces", fn := fun _ => fun
  | [d1, d2, d3] => { results := [.lit (.bool false)], args := [d1, d2, d3] }
  | _ => none }
def GeomPlacesWrongFalsely : Prop := geomPlacesRow.holds Try.pinned (OpenSpec.ofChange geomPlacesWrong)

/-- 'windrowlaw03.GeomRooms': WHATEVER THE INPUT: true; the input reads as it did. -/
def geomRoomsSpec : ChangeSpec := { name := "geomRooms", fn := fun _ => fun
  | [d] => { results := [.lit (.bool true)], args := [d] }
  | _ => none }
def geomRoomsRow : OpenClaim := { program := "ytdmjdanchknkmaa", sum := "ecffcc16b5d08c00726c2b5c59168b3a6ef80d443cd3b9a7e24bb76d7a3b9550", func := "windrow/windrowlaw03.GeomRooms", spec := "geomRooms", apart := false }
def GeomRoomsSaid : Prop := geomRoomsRow.holds Try.pinned (OpenSpec.ofChange geomRoomsSpec)

/-- ITS FALSE NEIGHBOUR: 'it returns false'. Refute it at one input. -/
def geomRoomsWrong : ChangeSpec := { name := "geomRooms", fn := fun _ => fun
  | [d] => { results := [.lit (.bool false)], args := [d] }
  | _ => none }
def GeomRoomsWrongFalsely : Prop := geomRoomsRow.holds Try.pinned (OpenSpec.ofChange geomRoomsWrong)

/-- 'windrowlaw03.GeomRights': WHATEVER THE INPUT: true; the input reads as it did. -/
def geomRightsSpec : ChangeSpec := { name := "geomRights", fn := fun _ => fun
  | [d1, d2] => { results := [.lit (.bool true)], args := [d1, d2] }
  | _ => none }
def geomRightsRow : OpenClaim := { program := "ytdmjdanchknkmaa", sum := "ecffcc16b5d08c00726c2b5c59168b3a6ef80d443cd3b9a7e24bb76d7a3b9550", func := "windrow/windrowlaw03.GeomRights", spec := "geomRights", apart := false }
def GeomRightsSaid : Prop := geomRightsRow.holds Try.pinned (OpenSpec.ofChange geomRightsSpec)

/-- ITS FALSE NEIGHBOUR: 'it returns false'. Refute it at one input. -/
def geomRightsWrong : ChangeSpec := { name := "geomRights", fn := fun _ => fun
  | [d1, d2] => { results := [.lit (.bool false)], args := [d1, d2] }
  | _ => none }
def GeomRightsWrongFalsely : Prop := geomRightsRow.holds Try.pinned (OpenSpec.ofChange geomRightsWrong)

/-- 'windrowlaw03.GeomBack': WHATEVER THE INPUT: true; the input reads as it did. -/
def geomBackSpec : ChangeSpec := { name := "geomBack", fn := fun _ => fun
  | [d1, d2, d3] => { results := [.lit (.bool true)], args := [d1, d2, d3] }
  | _ => none }
def geomBackRow : OpenClaim := { program := "ytdmjdanchknkmaa", sum := "ecffcc16b5d08c00726c2b5c59168b3a6ef80d443cd3b9a7e24bb76d7a3b9550", func := "windrow/windrowlaw03.GeomBack", spec := "geomBack", apart := false }
def GeomBackSaid : Prop := geomBackRow.holds Try.pinned (OpenSpec.ofChange geomBackSpec)

/-- ITS FALSE NEIGHBOUR: 'it returns false'. Refute it at one input. -/
def geomBackWrong : ChangeSpec := { name := "geomBack", fn := fun _ => fun
  | [d1, d2, d3] => { results := [.lit (.bool false)], args := [d1, d2, d3] }
  | _ => none }
def GeomBackWrongFalsely : Prop := geomBackRow.holds Try.pinned (OpenSpec.ofChange geomBackWrong)

/- THE SECOND FORM. 'bulk': how many values and letters a reading holds, each counted each time it is reached (what is shared counts as often as it is met; a slice's spare places count too). A statement '..UptoSaid' is the law's where the arguments, and the package variables that the reading takes, are together of bulk at most 1048576: NARROWER than '..Said'. Prove '..Said' where nothing that the law and all that it calls make is longer than what came in: it says more and counts as full. Else prove '..UptoSaid'. A law counts once. -/
mutual
def uptoBulk {H : Type} : DataW H → Nat
  | .lit (.string bytes) => bytes.length + 1
  | .lit _ => 1
  | .nil => 1
  | .ptr d => uptoBulk d + 1
  | .slice elems spare => uptoBulkAll elems + uptoBulkAll spare + 1
  | .agg parts => uptoBulkAll parts + 1
  | .iface _ d => uptoBulk d + 1
  | .map entries => uptoBulkEntries entries + 1
  | .held _ => 1
def uptoBulkAll {H : Type} : List (DataW H) → Nat
  | [] => 0
  | d :: r => uptoBulk d + uptoBulkAll r
def uptoBulkEntries {H : Type} : List (Lit × DataW H) → Nat
  | [] => 0
  | x :: r => uptoBulkEntry x + uptoBulkEntries r
def uptoBulkEntry {H : Type} : Lit × DataW H → Nat
  | (.string bytes, d) => bytes.length + uptoBulk d + 1
  | (_, d) => uptoBulk d + 1
 end
def uptoSmall : (H : Type) → List (DataW H) → Bool := fun _ ds => decide (uptoBulkAll ds ≤ 1048576)
def OpenSpec.upto (s : _root_.Go.ChangeSpec) : _root_.Go.OpenSpec := { _root_.Go.OpenSpec.ofChange s with cond := some uptoSmall }

/-- 'windrowlaw03.GeomPlaces', WHERE WHAT IT READS IS OF BULK AT MOST 1048576: true; the input reads as it did. -/
def geomPlacesUptoRow : OpenClaim := { program := "ytdmjdanchknkmaa", sum := "ecffcc16b5d08c00726c2b5c59168b3a6ef80d443cd3b9a7e24bb76d7a3b9550", func := "windrow/windrowlaw03.GeomPlaces", spec := "geomPlaces", apart := false, narrowed := true }
def GeomPlacesUptoSaid : Prop := geomPlacesUptoRow.holds Try.pinned (OpenSpec.upto geomPlacesSpec)

/-- 'windrowlaw03.GeomRooms', WHERE WHAT IT READS IS OF BULK AT MOST 1048576: true; the input reads as it did. -/
def geomRoomsUptoRow : OpenClaim := { program := "ytdmjdanchknkmaa", sum := "ecffcc16b5d08c00726c2b5c59168b3a6ef80d443cd3b9a7e24bb76d7a3b9550", func := "windrow/windrowlaw03.GeomRooms", spec := "geomRooms", apart := false, narrowed := true }
def GeomRoomsUptoSaid : Prop := geomRoomsUptoRow.holds Try.pinned (OpenSpec.upto geomRoomsSpec)

/-- 'windrowlaw03.GeomRights', WHERE WHAT IT READS IS OF BULK AT MOST 1048576: true; the input reads as it did. -/
def geomRightsUptoRow : OpenClaim := { program := "ytdmjdanchknkmaa", sum := "ecffcc16b5d08c00726c2b5c59168b3a6ef80d443cd3b9a7e24bb76d7a3b9550", func := "windrow/windrowlaw03.GeomRights", spec := "geomRights", apart := false, narrowed := true }
def GeomRightsUptoSaid : Prop := geomRightsUptoRow.holds Try.pinned (OpenSpec.upto geomRightsSpec)

/-- 'windrowlaw03.GeomBack', WHERE WHAT IT READS IS OF BULK AT MOST 1048576: true; the input reads as it did. -/
def geomBackUptoRow : OpenClaim := { program := "ytdmjdanchknkmaa", sum := "ecffcc16b5d08c00726c2b5c59168b3a6ef80d443cd3b9a7e24bb76d7a3b9550", func := "windrow/windrowlaw03.GeomBack", spec := "geomBack", apart := false, narrowed := true }
def GeomBackUptoSaid : Prop := geomBackUptoRow.holds Try.pinned (OpenSpec.upto geomBackSpec)

end Rows
end Go.Proofs.Ytdmjdanchknkmaa
