/- A part of the proof: Vm. -/
import Derived.Test.YtlhfclpbodfmcaaZVm
namespace Go.Proofs.Ytlhfclpbodfmcaa.Vm
/-- All sizes k times as great. -/
theorem sm_map (k : Int) : ∀ l : List Int, sm (l.map (· * k)) = sm l * k
  | [] => by simp [sm]
  | a :: l => by simp only [List.map_cons, sm, sm_map k l]; rw [Int.add_mul]
theorem conv_scale_left (k : Int) (hk : 1 ≤ k) : ∀ {as bs : List Int} {x : Rat}, Pos as → conv (as.map (· * k)) bs (x * (k : Rat)) = conv as bs x
  | [], _, _, _ => by simp [conv]
  | _ :: _, [], _, _ => by simp [conv]
  | a :: as, b :: bs, x, ha => by
    have pk := one_le hk
    have pa := one_le ha.head
    have ec : ((a * k : Int) : Rat) = (a : Rat) * (k : Rat) := Rat.intCast_mul a k
    by_cases hx : x ≤ (a : Rat)
    · have := Rat.mul_le_mul_of_nonneg_right hx (c := (k : Rat)) (by grind)
      rw [List.map_cons, conv_low (by rw [ec]; exact this), conv_low hx, ec]
      have : (a : Rat) * (k : Rat) ≠ 0 := by
        have := Rat.mul_pos (a := (a : Rat)) (b := (k : Rat)) (by grind) (by grind)
        grind
      grind
    · have h2 : ¬ x * (k : Rat) ≤ (a : Rat) * (k : Rat) := by
        intro h
        have := Rat.le_of_mul_le_mul_right h (by grind)
        grind
      rw [List.map_cons, conv_high (by rw [ec]; exact h2), conv_high hx, ec]
      have e : x * (k : Rat) - (a : Rat) * (k : Rat) = (x - a) * (k : Rat) := by grind
      rw [e, conv_scale_left k hk ha.tail]
theorem conv_scale_right (k : Int) : ∀ {as bs : List Int} {x : Rat}, conv as (bs.map (· * k)) x = conv as bs x * (k : Rat)
  | [], _, _ => by simp [conv]
  | _ :: _, [], _ => by simp [conv]
  | a :: as, b :: bs, x => by
    have ec : ((b * k : Int) : Rat) = (b : Rat) * (k : Rat) := Rat.intCast_mul b k
    by_cases hx : x ≤ (a : Rat)
    · rw [List.map_cons, conv_low hx, conv_low hx, ec]; grind
    · rw [List.map_cons, conv_high hx, conv_high hx, ec, conv_scale_right k]; grind
end Go.Proofs.Ytlhfclpbodfmcaa.Vm
