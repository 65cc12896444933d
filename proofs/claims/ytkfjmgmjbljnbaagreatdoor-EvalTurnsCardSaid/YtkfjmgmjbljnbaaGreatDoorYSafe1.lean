/-
 bind's risky, any, Safe. Conditions: right expressions.
-/
import Derived.Test.YtkfjmgmjbljnbaaGreatDoorYGE
import Derived.Test.YtkfjmgmjbljnbaaGreatDoorYGC
namespace Go.Proofs.YtkfjmgmjbljnbaaGreatDoor
open Go.RowKit
end Go.Proofs.YtkfjmgmjbljnbaaGreatDoor
