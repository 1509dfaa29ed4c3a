/- A part of the proof: Le. -/
import Derived.Test.YtlhfclpbodfmcaaYFVm
import Derived.Test.YtlhfclpbodfmcaaYFKq
import Derived.Test.YtlhfclpbodfmcaaZLb
import Derived.Test.YtlhfclpbodfmcaaYFLb
import Derived.Test.YtlhfclpbodfmcaaYFLc
import Derived.Test.YtlhfclpbodfmcaaZRt
namespace Go.Proofs.Ytlhfclpbodfmcaa.Pr
open Go.Proofs.Ytlhfclpbodfmcaa.Vm
set_option linter.unusedVariables false
theorem rightP {l0 : List S79} {l1 l2 : List Int} (h : rightB l0 l1 l2 = true) : validB l0 = true ∧ (∀ n ∈ l2, 0 ≤ n ∧ n ≤ sm (hsO l0)) ∧ (∀ n ∈ l1, 0 ≤ n ∧ n ≤ 8388608) ∧ l0.length ≤ 40 := by
  unfold rightB fewB lvlB at h
  simp only [Bool.and_eq_true, decide_eq_true_eq, List.all_eq_true] at h
  exact ⟨h.2.1, h.2.2.1, h.2.2.2, h.1⟩
def FastS (l : List S79) (a b m : Int) : Prop :=
  ∃ xl xh yl yh zl zh : Int, RunF l a m = (xl, xh, 0) ∧ RunF l a (2 * m) = (yl, yh, 0) ∧ RunF l b m = (zl, zh, 0) ∧ xl ≤ yl ∧ yl ≤ 2 * xh ∧ zl ≤ xl ∧ zh ≤ xh ∧ 0 ≤ m ∧ m ≤ 8388608 ∧ 0 ≤ xh ∧ xh ≤ 2400000
theorem fast_says {l : List S79} {a b m : Int} (hR : rightB l [m] [a, b] = true) (hab : b ≤ a) : FastS l a b m := by
  obtain ⟨hv, hl, hn, _⟩ := rightP hR
  have va : VL l a := ⟨hv, (hl a (by simp)).1, (hl a (by simp)).2⟩
  have vb : VL l b := ⟨hv, (hl b (by simp)).1, (hl b (by simp)).2⟩
  obtain ⟨m0, m1⟩ := hn m (by simp)
  have h1 := run_more va m0 (show m ≤ 2 * m by omega)
  have h2 := run_twice va m0
  have h3 := run_lower va vb hab m0
  have h4 := run_bd va m0
  have h5 := castLe va.gv.sums.2.1
  refine ⟨_, _, _, _, _, _, run_val' va m0 (by omega), run_val' va (by omega) (by omega), run_val' vb m0 (by omega), fl_mono h1, ?_, fl_mono h3, ce_mono h3, m0, m1, ce_nn h4.1, ce_le (by grind)⟩
  refine fl_le ?_
  have := Rat.le_ceil (x := runX l a m)
  rw [Rat.intCast_mul]
  have e : ((2 : Int) : Rat) = 2 := rfl
  grind
end Go.Proofs.Ytlhfclpbodfmcaa.Pr
