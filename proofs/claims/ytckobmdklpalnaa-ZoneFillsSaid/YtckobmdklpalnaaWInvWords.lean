/- Words for this seat's walks: those of the kit's print that its texts use, laid by a program. -/
import Derived.Test.YtckobmdklpalnaaWInv
import Derived.Test.YtckobmdklpalnaaWFootNe
namespace Go.Proofs.YtckobmdklpalnaaW.PrintWords
open Go.RowKit
end Go.Proofs.YtckobmdklpalnaaW.PrintWords
namespace Go.Proofs.YtckobmdklpalnaaW.PrintLast
section
variable {ops : Array Oper} {a : Act} {o og : Oper} {g : Nat} {t : Tmp} {u : Bool}
end
end Go.Proofs.YtckobmdklpalnaaW.PrintLast
