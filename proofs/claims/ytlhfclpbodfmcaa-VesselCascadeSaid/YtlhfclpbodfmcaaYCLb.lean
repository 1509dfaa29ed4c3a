/- A part of the proof: Lb. -/
import Derived.Test.YtlhfclpbodfmcaaZLb
import Derived.Test.YtlhfclpbodfmcaaYCKq
import Derived.Test.YtlhfclpbodfmcaaYCTp
namespace Go.Proofs.Ytlhfclpbodfmcaa.Pr
open Go.Proofs.Ytlhfclpbodfmcaa.Vm
set_option linter.unusedVariables false
def vT (l : List S79) (x : Rat) : Rat := conv (hsO l) (vsO l) x
def uT (l : List S79) (x : Rat) : Rat := conv (dsO l) (vsO l) x
def mV (l : List S79) (x : Rat) : Rat := conv (vsO l) (dsO l) x
section
variable {l : List S79}
end
end Go.Proofs.Ytlhfclpbodfmcaa.Pr
