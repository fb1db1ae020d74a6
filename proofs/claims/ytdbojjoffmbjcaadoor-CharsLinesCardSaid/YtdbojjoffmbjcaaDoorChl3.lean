/- The walks of this seat's functions, and what is known of what they reckon (Chl3). Conditions: those that each theorem names. -/
import Derived.Test.YtdbojjoffmbjcaaDoorChl1
section
set_option linter.unusedSimpArgs false
set_option linter.unusedVariables false
set_option linter.unusedSectionVars false
open Go Go.Av Go.Proofs
namespace Go.Av.Chl
variable [ML]
def off (n : Nat) : Int := if n = 2 then 192 else if n = 3 then 224 else if n = 4 then 240 else 0
def rv (l : List (BitVec 8)) (n : Nat) : Nat → Int
  | 0 => bt l 0 - off n
  | k + 1 => rv l n k * 64 + bt l (k + 1) - 128
end Go.Av.Chl
end
