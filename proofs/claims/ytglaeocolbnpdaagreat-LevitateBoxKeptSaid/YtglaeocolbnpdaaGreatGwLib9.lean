/- Slices of an array in a box, copying into one. No condition. -/
import Derived.Test.YtglaeocolbnpdaaGreatGwLib8
import Derived.Laws.CopyRow
namespace Go.Gw
open Go
section
variable {P : Program} {n : Nat} {ρ : Env} {w : World}
variable {d : Option Nat} {t T U : TypeId} {p : String} {af : Array Edge} {gu : Option (Nat × Bool)} {x y z : Operand}

def cpy (l : List Int) : List Int → List Int
  | [] => []
  | x :: xs => match l with
    | [] => x :: xs
    | y :: l => y :: cpy l xs
def cutA (xs : List Int) (hi mx : Int) : Option (List Int) := if 0 < mx ∧ mx ≤ xs.length ∧ 0 ≤ hi ∧ hi ≤ mx then some (xs.take hi.toNat) else none
end
end Go.Gw
namespace Go.Gw
end Go.Gw
