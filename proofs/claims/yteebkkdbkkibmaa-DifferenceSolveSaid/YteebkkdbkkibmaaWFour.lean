/- Words for the printed walks: what the kit's printer wrote for this claim, less what is not used. Conditions: each theorem's own. -/
import Derived.Test.YteebkkdbkkibmaaWTab
namespace Go.Proofs.YteebkkdbkkibmaaW.PrintLast
section
variable {P : Program} {ops : Array Oper} {Q : Exit → Act → World → Prop} {md : Region.Mode} {S : World → Prop} {ds : List Nat} {T : Bool × List (List Nat × List Nat)}
end
end Go.Proofs.YteebkkdbkkibmaaW.PrintLast
