/- The plain laws of places. -/
import Derived.Test.YtdifekkamjoepaaFnsPlace
import Derived.Test.YtdifekkamjoepaaLaw
namespace Go.Proofs.Ytdifekkamjoepaa.Vm.Rp
open Go Go.Proofs.Ytdifekkamjoepaa.Vm
set_option linter.unusedVariables false

def st (s : List UInt8) (k : Nat) : Nat := if k = 0 then 0 else ln s k
def cut : List UInt8 → Nat → Nat
  | [], _ => 0
  | c :: t, n => if isF c = true then 1 + cut t n else if n = 0 then 0 else 1 + cut t (n - 1)
end Go.Proofs.Ytdifekkamjoepaa.Vm.Rp
namespace Go.Proofs.Ytdifekkamjoepaa.Vm.Rp
open Go Go.Proofs.Ytdifekkamjoepaa.Vm
set_option linter.unusedVariables false
section
variable {s : List UInt8} {o : Option N0}

end
end Go.Proofs.Ytdifekkamjoepaa.Vm.Rp
