/- Words for the printed walks: what the kit's printer wrote for this claim, less what is not used. Conditions: each theorem's own. -/
import Derived.Test.YteebkkdbkkibmaaWN
namespace Go.Proofs.YteebkkdbkkibmaaW.PrintWords
open Go.RowKit
namespace Kd
section
variable {α : Type} {d : Kd α} {W : World} {g n : Nat} {S ok : Nat → Prop} {A : Option Addr} {ad : Addr} {xs : List α}
end
end Kd
end Go.Proofs.YteebkkdbkkibmaaW.PrintWords
