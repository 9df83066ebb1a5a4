/- Words for the printed walks: what the kit's printer wrote for this claim, less what is not used. Conditions: each theorem's own. -/
import Derived.Test.YteebkkdbkkibmaaWWords
import Derived.Test.YteebkkdbkkibmaaWLast
namespace Go.Proofs.YteebkkdbkkibmaaW.PrintWords
open Go.RowKit
namespace Kd
section
variable {α : Type} {d : Kd α} {e base g o n cap : Nat} {ok okp : Nat → Prop} {w W : World} {v : Value} {xs : List α}
end
section
variable {α : Type} {enc : α → Value} {h1 : ∀ x, (enc x).oneCell' = true} {e base g o n cap : Nat} {ok : Nat → Prop} {W : World} {xs : List α}
end
end Kd
end Go.Proofs.YteebkkdbkkibmaaW.PrintWords
