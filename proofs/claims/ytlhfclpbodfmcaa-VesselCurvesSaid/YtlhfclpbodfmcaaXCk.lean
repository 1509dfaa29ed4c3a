/- A part of the proof: Ck. -/
import Derived.Test.YtlhfclpbodfmcaaXVx
import Derived.Test.YtlhfclpbodfmcaaXPr5
namespace Go.Proofs.Ytlhfclpbodfmcaa.Pr
theorem vCheck (l : List S79) : vessel_Check.f 30 l = some (checkF l) := rfl
end Go.Proofs.Ytlhfclpbodfmcaa.Pr
