/- Words of the printed walks, those that the law PlaneLaws needs. -/
import Derived.Test.YtdkbfcogmlghfaaCPlaneLawsVTab
namespace Go.Proofs.YtdkbfcogmlghfaaW.PrintLast
section
variable {P : Program} {ops : Array Oper} {Q : Exit → Act → World → Prop} {md : Region.Mode} {T : Bool × List (List Nat × List Nat)} {B : List Nat} {O : List Nat} {b : Nat → Bool} {i j n : Nat}
end
end Go.Proofs.YtdkbfcogmlghfaaW.PrintLast
