/- Words for this seat's walks: those of the kit's print that its texts use, laid by a program. -/
import Derived.Test.YtckobmdklpalnaaWTab
namespace Go.Proofs.YtckobmdklpalnaaW.PrintLast
section
variable {P : Program} {ops : Array Oper} {Q : Exit → Act → World → Prop} {md : Region.Mode} {S : World → Prop} {ds : List Nat} {T : Bool × List (List Nat × List Nat)}
end
end Go.Proofs.YtckobmdklpalnaaW.PrintLast
