/- A part of the proof: Le. -/
import Derived.Test.YtlhfclpbodfmcaaYOKq
import Derived.Test.YtlhfclpbodfmcaaYOTp
import Derived.Test.YtlhfclpbodfmcaaZLb
import Derived.Test.YtlhfclpbodfmcaaYOLc
import Derived.Test.YtlhfclpbodfmcaaZRt
namespace Go.Proofs.Ytlhfclpbodfmcaa.Pr
open Go.Proofs.Ytlhfclpbodfmcaa.Vm
set_option linter.unusedVariables false
theorem rightP {l0 : List S79} {l1 l2 : List Int} (h : rightB l0 l1 l2 = true) : validB l0 = true ∧ (∀ n ∈ l2, 0 ≤ n ∧ n ≤ sm (hsO l0)) ∧ (∀ n ∈ l1, 0 ≤ n ∧ n ≤ 8388608) ∧ l0.length ≤ 40 := by
  unfold rightB fewB lvlB at h
  simp only [Bool.and_eq_true, decide_eq_true_eq, List.all_eq_true] at h
  exact ⟨h.2.1, h.2.2.1, h.2.2.2, h.1⟩
theorem sink_bd {l : List S79} {a b : Int} (ha : VL l a) (hb : VL l b) (h : b ≤ a) : 0 ≤ (mT l (a : Rat) - mT l (b : Rat)).floor ∧ (mT l (a : Rat) - mT l (b : Rat)).ceil ≤ 480000 := by
  have h1 := ha.gv.sums.2.2
  have h2 := mT_bd ha ha.c0 ha.c1
  have h3 := mT_bd ha hb.c0 hb.c1
  have h5 := (mT_le ha hb.c0 hb.c1 ha.c0 ha.c1).2 (castLe h)
  have h6 := castLe h1
  exact ⟨fl_nn (by grind), ce_le (by grind)⟩
theorem fl_ce (x : Rat) : x.floor ≤ x.ceil := (rnd_bd x).1
def OneS (l : List S79) (a b c m n : Int) : Prop :=
  ∃ xl xh yl yh pl ph ql qh : Int, AfterF l a m = (xl, xh, 0) ∧ AfterF l a (m + n) = (yl, yh, 0) ∧ AfterF l xl n = (pl, ph, 0) ∧ AfterF l xh n = (ql, qh, 0) ∧ pl ≤ yl ∧ yh ≤ qh ∧
    (BeforeF l a m = (0, 0, 4) ∨ ∃ zl zh rl rh sl sh : Int, BeforeF l a m = (zl, zh, 0) ∧ AfterF l zl m = (rl, rh, 0) ∧ AfterF l zh m = (sl, sh, 0) ∧ rl ≤ a ∧ a ≤ sh) ∧
    (a < b ∨ b ≤ a ∧ (b < c ∨ c ≤ b ∧ ∃ il ih jl jh kl kh : Int, SinkingF l a b = (il, ih, 0) ∧ SinkingF l b c = (jl, jh, 0) ∧ SinkingF l a c = (kl, kh, 0) ∧ il + jl ≤ kl ∧ kh ≤ ih + jh ∧ 0 ≤ il ∧ il ≤ 480000 ∧ 0 ≤ jl ∧ jl ≤ 480000 ∧ 0 ≤ ih ∧ ih ≤ 480000 ∧ 0 ≤ jh ∧ jh ≤ 480000)) ∧ 0 ≤ m ∧ m ≤ 8388608 ∧ 0 ≤ n ∧ n ≤ 8388608
theorem one_says {l : List S79} {a b c m n : Int} (hR : rightB l [m, n] [a, b, c] = true) : OneS l a b c m n := by
  obtain ⟨hv, hl, hn, _⟩ := rightP hR
  have va : VL l a := ⟨hv, (hl a (by simp)).1, (hl a (by simp)).2⟩
  have vb : VL l b := ⟨hv, (hl b (by simp)).1, (hl b (by simp)).2⟩
  have vc : VL l c := ⟨hv, (hl c (by simp)).1, (hl c (by simp)).2⟩
  obtain ⟨m0, m1⟩ := hn m (by simp)
  obtain ⟨n0, n1⟩ := hn n (by simp)
  have hx := after_bd va m0
  have vf := va.fl hx.1 hx.2
  have vg := va.ce hx.1 hx.2
  refine ⟨_, _, _, _, _, _, _, _, after_val va m0 (by omega), after_val va (by omega) (by omega), after_val vf n0 (by omega), after_val vg n0 (by omega), fl_mono (later_le va vf m0 n0 (Rat.floor_le _)), ce_mono (le_later va vg m0 n0 Rat.le_ceil), ?_, ?_, m0, m1, n0, n1⟩
  · have hb := before_val va m0 (by omega)
    by_cases hz : (sm (dsO l) : Rat) < mT l (a : Rat) + (m : Rat)
    · left; rw [hb, if_pos hz]; rfl
    · right
      rw [if_neg hz] at hb
      have hz1 : mT l (a : Rat) + (m : Rat) ≤ (sm (dsO l) : Rat) := by grind
      have mm : (0 : Rat) ≤ (m : Rat) := by have := castLe m0; simpa using this
      have ma := mT_bd va va.c0 va.c1
      have hh := hT_bd va (x := mT l (a : Rat) + (m : Rat)) (by grind) hz1
      have vz := va.fl hh.1 hh.2
      have vy := va.ce hh.1 hh.2
      exact ⟨_, _, _, _, _, _, hb, after_val vz m0 (by omega), after_val vy m0 (by omega), fl_le (back_le va vz m0 hz1 (Rat.floor_le _)), le_ce (le_back va vy m0 hz1 Rat.le_ceil)⟩
  · by_cases h1 : a < b
    · exact .inl h1
    · refine .inr ⟨by omega, ?_⟩
      by_cases h2 : b < c
      · exact .inl h2
      · have s1 := sink_bd va vb (by omega)
        have s2 := sink_bd vb vc (by omega)
        have f1 := fl_ce (mT l (a : Rat) - mT l (b : Rat))
        have f2 := fl_ce (mT l (b : Rat) - mT l (c : Rat))
        have e : mT l (a : Rat) - mT l (c : Rat) = (mT l (a : Rat) - mT l (b : Rat)) + (mT l (b : Rat) - mT l (c : Rat)) := by grind
        refine .inr ⟨by omega, _, _, _, _, _, _, sink_val va vb (by omega), sink_val vb vc (by omega), sink_val va vc (by omega), ?_, ?_, s1.1, by omega, s2.1, by omega, by omega, s1.2, by omega, s2.2⟩
        · rw [e]; exact fl_add _ _
        · rw [e]; exact ce_add _ _
end Go.Proofs.Ytlhfclpbodfmcaa.Pr
