/- Words for this seat's walks: those of the kit's print that its texts use, laid by a program. -/
import Derived.Test.YtckobmdklpalnaaWTab
namespace Go.Proofs.YtckobmdklpalnaaW.PrintLast
def up (b : Nat → Bool) (i : Nat) : Nat → Bool := fun j => if j = i then true else b j
section
variable {P : Program} {ops : Array Oper} {Q : Exit → Act → World → Prop} {md : Region.Mode} {T : Bool × List (List Nat × List Nat)} {B : List Nat} {O : List Nat} {b : Nat → Bool} {i j n : Nat}
end
end Go.Proofs.YtckobmdklpalnaaW.PrintLast
