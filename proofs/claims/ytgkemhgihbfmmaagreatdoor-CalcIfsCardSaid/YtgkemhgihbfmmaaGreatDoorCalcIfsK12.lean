/- Part 13 of the proof for CalcIfs: functions of the program as plain Lean functions, their calls, and what they come to. -/
import Derived.Test.YtgkemhgihbfmmaaGreatDoorCalcIfsK4
namespace Go.Proofs.YtgkemhgihbfmmaaGreatDoorW.PrintLast
def up (b : Nat → Bool) (i : Nat) : Nat → Bool := fun j => if j = i then true else b j
section
variable {P : Program} {ops : Array Oper} {Q : Exit → Act → World → Prop} {md : Region.Mode} {T : Bool × List (List Nat × List Nat)} {B : List Nat} {O : List Nat} {b : Nat → Bool} {i j n : Nat}
end
end Go.Proofs.YtgkemhgihbfmmaaGreatDoorW.PrintLast
