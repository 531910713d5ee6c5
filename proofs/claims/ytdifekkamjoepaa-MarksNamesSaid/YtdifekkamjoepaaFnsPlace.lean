/- What the functions of places compute, as plain functions; that they do. -/
import Derived.Test.YtdifekkamjoepaaFns
namespace Go.Proofs.Ytdifekkamjoepaa.Vm.Rp
open Go Go.Proofs.Ytdifekkamjoepaa.Vm Go.Proofs
set_option linter.unusedVariables false
set_option maxRecDepth 100000
noncomputable section
end
end Go.Proofs.Ytdifekkamjoepaa.Vm.Rp
