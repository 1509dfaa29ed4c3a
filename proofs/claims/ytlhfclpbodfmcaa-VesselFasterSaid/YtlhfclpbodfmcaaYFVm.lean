/- A part of the proof: Vm. -/
import Derived.Test.YtlhfclpbodfmcaaZVm
namespace Go.Proofs.Ytlhfclpbodfmcaa.Vm
theorem le_div {x y z : Rat} (hy : 1 ≤ y) (h : z * y ≤ x) : z ≤ x / y := by
  rw [Rat.div_def]
  have h1 := Rat.mul_le_mul_of_nonneg_right h (Rat.le_of_lt (inv_nn hy))
  have h2 : z * y * y⁻¹ = z := by grind
  grind
/-- Every ring rises at least by s for each part. -/
def Steep (s : Rat) : List Int → List Int → Prop
  | a :: as, b :: bs => s * (a : Rat) ≤ (b : Rat) ∧ Steep s as bs
  | _, _ => True
/-- Each ring rises at least as steeply as all below it. -/
def Bent : List Int → List Int → Prop
  | a :: as, b :: bs => Steep ((b : Rat) / (a : Rat)) as bs ∧ Bent as bs
  | _, _ => True
theorem steep_le {s : Rat} : ∀ {as bs : List Int} {x y : Rat}, as.length = bs.length → Pos as → Pos bs → Steep s as bs → 0 ≤ x → x ≤ y → y ≤ (sm as : Rat) →
    s * (y - x) ≤ conv as bs y - conv as bs x
  | [], [], x, y, _, _, _, _, h0, h1, h2 => by
    simp [sm] at h2
    have e : y = x := by grind
    subst e; simp [conv]; grind
  | a :: as, b :: bs, x, y, hl, ha, hb, ⟨hs, ht⟩, h0, h1, h2 => by
    have pa := one_le ha.head
    have hl' : as.length = bs.length := by simpa using hl
    rw [sm_cast] at h2
    have key : ∀ {z : Rat}, 0 ≤ z → s * z ≤ z * (b : Rat) / (a : Rat) := by
      intro z hz
      refine le_div pa ?_
      have := Rat.mul_le_mul_of_nonneg_right hs hz
      grind
    by_cases hx : x ≤ (a : Rat)
    · rw [conv_low hx]
      by_cases hy : y ≤ (a : Rat)
      · rw [conv_low hy]
        have := key (z := y - x) (by grind)
        grind
      · rw [conv_high hy]
        have k1 := key (z := a - x) (by grind)
        have k2 := steep_le (x := 0) (y := y - a) hl' ha.tail hb.tail ht (by grind) (by grind) (by grind)
        rw [conv_zero ha.tail] at k2
        have e : (a - x) * (b : Rat) / (a : Rat) = (b : Rat) - x * (b : Rat) / (a : Rat) := by grind
        grind
    · rw [conv_high hx, conv_high (by grind)]
      have k2 := steep_le (x := x - a) (y := y - a) hl' ha.tail hb.tail ht (by grind) (by grind) (by grind)
      grind
/-- What is added counts the more, the higher it is added. -/
theorem bent_le : ∀ {as bs : List Int} {x y h : Rat}, as.length = bs.length → Pos as → Pos bs → Bent as bs → 0 ≤ x → x ≤ y → 0 ≤ h → y + h ≤ (sm as : Rat) →
    conv as bs (x + h) - conv as bs x ≤ conv as bs (y + h) - conv as bs y
  | [], [], x, y, h, _, _, _, _, h0, h1, h2, h3 => by simp [conv]
  | a :: as, b :: bs, x, y, h, hl, ha, hb, ⟨hs, ht⟩, h0, h1, h2, h3 => by
    have pa := one_le ha.head
    have hl' : as.length = bs.length := by simpa using hl
    have all : Steep ((b : Rat) / (a : Rat)) (a :: as) (b :: bs) := ⟨(by rw [show (b : Rat) / (a : Rat) * (a : Rat) = (b : Rat) by grind]; exact Rat.le_refl), hs⟩
    have h3' := h3
    rw [sm_cast] at h3
    by_cases hx : x ≤ (a : Rat)
    · by_cases hh : x + h ≤ (a : Rat)
      · have k := steep_le hl ha hb all (x := y) (y := y + h) (by grind) (by grind) h3'
        rw [conv_low hx, conv_low hh]
        grind
      · have k1 := steep_le hl ha hb all (x := y) (y := y + (a - x)) (by grind) (by grind) (by rw [sm_cast]; grind)
        have k2 := bent_le (x := 0) (y := y + (a - x) - a) (h := h - (a - x)) hl' ha.tail hb.tail ht (by grind) (by grind) (by grind) (by grind)
        rw [conv_zero ha.tail] at k2
        have ct : ∀ {z : Rat}, (a : Rat) ≤ z → conv (a :: as) (b :: bs) z = (b : Rat) + conv as bs (z - a) := by
          intro z hz
          by_cases e : z ≤ (a : Rat)
          · have e2 : z = (a : Rat) := by grind
            rw [conv_low e, e2]
            have : (a : Rat) - a = 0 := by grind
            rw [this, conv_zero ha.tail]; grind
          · exact conv_high e
        rw [conv_low hx]
        rw [ct (z := x + h) (by grind), ct (z := y + h) (by grind)]
        rw [ct (z := y + (a - x)) (by grind)] at k1
        have e1 : (0 : Rat) + (h - (a - x)) = x + h - a := by grind
        have e2 : y + (a - x) - a + (h - (a - x)) = y + h - a := by grind
        rw [e1, e2] at k2
        have e3 : (b : Rat) / (a : Rat) * (y + (a - x) - y) = (b : Rat) - x * b / a := by grind
        grind
    · rw [conv_high hx, conv_high (by grind), conv_high (by grind), conv_high (by grind)]
      have k := bent_le (x := x - a) (y := y - a) (h := h) hl' ha.tail hb.tail ht (by grind) (by grind) h2 (by grind)
      have e1 : x + h - a = x - a + h := by grind
      have e2 : y + h - a = y - a + h := by grind
      rw [e1, e2]
      grind
end Go.Proofs.Ytlhfclpbodfmcaa.Vm
