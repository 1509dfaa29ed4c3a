/- A part of the proof: Vm. -/
import Derived.Test.YtlhfclpbodfmcaaXVm
namespace Go.Proofs.Ytlhfclpbodfmcaa.Vm
theorem le_div {x y z : Rat} (hy : 1 ≤ y) (h : z * y ≤ x) : z ≤ x / y := by
  rw [Rat.div_def]
  have h1 := Rat.mul_le_mul_of_nonneg_right h (Rat.le_of_lt (inv_nn hy))
  have h2 : z * y * y⁻¹ = z := by grind
  grind
theorem floor_div (n d : Int) (hd : 1 ≤ d) : ((n : Rat) / (d : Rat)).floor = n / d := by
  have pd := one_le hd
  refine floor_uniq ?_ ?_
  · refine le_div pd ?_
    have := castLe (Int.ediv_mul_le n (b := d) (by omega))
    rwa [Rat.intCast_mul] at this
  · have h := castLt (Int.lt_ediv_add_one_mul_self n (b := d) (by omega))
    rw [Rat.intCast_mul, Rat.intCast_add] at h
    rw [Rat.div_def]
    have h1 := Rat.mul_lt_mul_of_pos_right h (inv_nn pd)
    have h2 : ((n / d : Int) + (1 : Int) : Rat) * (d : Rat) * (d : Rat)⁻¹ = (n / d : Int) + (1 : Int) := by grind
    grind
theorem ceil_div (n d : Int) (hd : 1 ≤ d) : ((n : Rat) / (d : Rat)).ceil = (n + d - 1) / d := by
  have pd := one_le hd
  have e1 : ((n + d - 1) / d) * d ≤ n + d - 1 := Int.ediv_mul_le _ (by omega)
  have e2 : n + d - 1 < ((n + d - 1) / d + 1) * d := Int.lt_ediv_add_one_mul_self _ (by omega)
  have e1' := castLe (show ((n + d - 1) / d - 1) * d ≤ n - 1 by rw [Int.sub_mul]; omega)
  have e2' := castLe (show n ≤ ((n + d - 1) / d) * d by rw [Int.add_mul] at e2; omega)
  generalize (n + d - 1) / d = q at *
  rw [Rat.intCast_mul, Rat.intCast_sub] at e1'
  rw [Rat.intCast_mul] at e2'
  rw [Rat.intCast_sub] at e1'
  refine ceil_uniq ?_ ?_
  · rw [Rat.div_def]
    have h1 := Rat.mul_le_mul_of_nonneg_right e1' (Rat.le_of_lt (inv_nn pd))
    have h2 : ((q : Rat) - (1 : Int)) * (d : Rat) * (d : Rat)⁻¹ = (q : Rat) - (1 : Int) := by grind
    have h3 := inv_nn pd
    grind
  · exact div_le pd e2'
end Go.Proofs.Ytlhfclpbodfmcaa.Vm
