/- Words for this seat's walks: those of the kit's print that its texts use, laid by a program. -/
import Derived.Test.YtckobmdklpalnaaWN
namespace Go.Proofs.YtckobmdklpalnaaW.PrintWords
open Go.RowKit
namespace Kd
section
variable {α : Type} {d : Kd α} {W : World} {g n : Nat} {S ok : Nat → Prop} {A : Option Addr} {ad : Addr} {xs : List α}
end
end Kd
end Go.Proofs.YtckobmdklpalnaaW.PrintWords
