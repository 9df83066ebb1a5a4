/- Words for the printed walks: what the kit's printer wrote for this claim, less what is not used. Conditions: each theorem's own. -/
import Derived.Test.YteebkkdbkkibmaaWInv
import Derived.Test.YteebkkdbkkibmaaWFootNe
namespace Go.Proofs.YteebkkdbkkibmaaW.PrintWords
open Go.RowKit
end Go.Proofs.YteebkkdbkkibmaaW.PrintWords
namespace Go.Proofs.YteebkkdbkkibmaaW.PrintLast
section
variable {ops : Array Oper} {a : Act} {o og : Oper} {g : Nat} {t : Tmp} {u : Bool}
end
end Go.Proofs.YteebkkdbkkibmaaW.PrintLast
