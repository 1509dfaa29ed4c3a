/- A part of the proof: Lb. -/
import Derived.Test.YtlhfclpbodfmcaaZLb
import Derived.Test.YtlhfclpbodfmcaaYFVm
import Derived.Test.YtlhfclpbodfmcaaYFKq
namespace Go.Proofs.Ytlhfclpbodfmcaa.Pr
open Go.Proofs.Ytlhfclpbodfmcaa.Vm
set_option linter.unusedVariables false
def vT (l : List S79) (x : Rat) : Rat := conv (hsO l) (vsO l) x
def uT (l : List S79) (x : Rat) : Rat := conv (dsO l) (vsO l) x
theorem run_val {l : List S79} {lv m : Int} (h : VL l lv) (m0 : 0 ≤ m) (m1 : m ≤ 16777216) : RunF l lv m = rnd (vT l (lv : Rat) - uT l (leftM l lv m)) := by
  obtain ⟨r1, r2, _⟩ := runF_spec h.gv h.h0 h.h1 m0
  unfold RunF asks
  rw [if_pos h.v, h.lv, manyB_iff.2 ⟨m0, m1⟩]
  simp only [Bool.and_self, if_true]
  rw [okS_span r2, r1]
  rfl
section
variable {l : List S79}
end
end Go.Proofs.Ytlhfclpbodfmcaa.Pr
