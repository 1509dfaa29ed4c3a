/- A part of the proof: Tp. -/
import Derived.Test.YtlhfclpbodfmcaaZTp
import Derived.Test.YtlhfclpbodfmcaaYCKq
namespace Go.Proofs.Ytlhfclpbodfmcaa.Pr
open Go.RowKit Go.Proofs.YtlhfclpbodfmcaaW.PrintWords Go.Proofs.YtlhfclpbodfmcaaW.PrintLast Go.Proofs.YtlhfclpbodfmcaaW.PrintMore
open Go.Proofs.Ytlhfclpbodfmcaa.Vm
theorem above_lt {a : Ex} (ha : a.ok) {n : Int} (h : aboveF a n = true) : (n : Rat) < a.v := by
  unfold aboveF at h
  rw [decide_eq_true_iff] at h
  have d1 : (1 : Int) ≤ a.d := by have := ha.1; have := ha.2; omega
  have hw := w_le_v ha
  rcases h with h | ⟨h, h2⟩
  · have h3 := castLt h
    grind
  · unfold Ex.v
    rw [h]
    have := Rat.mul_pos (castLt h2) (inv_nn (one_le d1))
    rw [Rat.div_def]
    grind
end Go.Proofs.Ytlhfclpbodfmcaa.Pr
