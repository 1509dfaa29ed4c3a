/- A part of the proof: Kq. -/
import Derived.Test.YtlhfclpbodfmcaaZKq
namespace Go.Proofs.Ytlhfclpbodfmcaa.Pr
open Go.RowKit Go.Proofs.YtlhfclpbodfmcaaW.PrintWords Go.Proofs.YtlhfclpbodfmcaaW.PrintLast Go.Proofs.YtlhfclpbodfmcaaW.PrintMore
set_option linter.unusedVariables false
section
variable {P : Program} {ops : Array Oper} {Q : Exit → Act → World → Prop} {md : Region.Mode} {S : World → Prop} {ds : List Nat}
end
theorem fb_ {n : Nat} {w W X : World} (HB : Aside0 (Below n w W)) (h : Below W.heap.size W X := by repeat (first | exact Below.refl _ _ | apply below_alloc | apply pw_below_drewN | apply below_drew1)) (hn : n ≤ W.heap.size := by first | exact HB.out.size | exact Nat.le_refl _) : Below n w X := HB.out.trans (h.mono hn)
section
variable {P : Program} {ops : Array Oper} {Q : Exit → Act → World → Prop}
end
end Go.Proofs.Ytlhfclpbodfmcaa.Pr
