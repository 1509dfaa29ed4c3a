/- A part of the proof: Le. -/
import Derived.Test.YtlhfclpbodfmcaaYCKq
import Derived.Test.YtlhfclpbodfmcaaYCTp
import Derived.Test.YtlhfclpbodfmcaaZLb
import Derived.Test.YtlhfclpbodfmcaaYCLb
import Derived.Test.YtlhfclpbodfmcaaYCLc
import Derived.Test.YtlhfclpbodfmcaaZRt
namespace Go.Proofs.Ytlhfclpbodfmcaa.Pr
open Go.Proofs.Ytlhfclpbodfmcaa.Vm
set_option linter.unusedVariables false
theorem rightP {l0 : List S79} {l1 l2 : List Int} (h : rightB l0 l1 l2 = true) : validB l0 = true ∧ (∀ n ∈ l2, 0 ≤ n ∧ n ≤ sm (hsO l0)) ∧ (∀ n ∈ l1, 0 ≤ n ∧ n ≤ 8388608) ∧ l0.length ≤ 40 := by
  unfold rightB fewB lvlB at h
  simp only [Bool.and_eq_true, decide_eq_true_eq, List.all_eq_true] at h
  exact ⟨h.2.1, h.2.2.1, h.2.2.2, h.1⟩
def CascS (v u : List S79) (a m x n : Int) : Prop :=
  ∃ r1 r2 e1 s1 s2 e2 t1 t2 e3 : Int, CascadeF v u a m = (r1, r2, e1) ∧ ReceivedF v u a x = (s1, s2, e2) ∧ CascadeF v u a (m + n) = (t1, t2, e3) ∧
    ((e1 = 0 ∧ (e2 = 4 ∧ r1 < x ∨ e2 = 0 ∧ decide (x ≤ r1) = decide (s2 ≤ m)) ∧ (e3 = 4 ∨ e3 = 0 ∧ r1 ≤ t1 ∧ r2 ≤ t2)) ∨ (e1 = 4 ∧ (e2 = 4 ∨ e2 = 0) ∧ e3 = 4)) ∧ 0 ≤ m ∧ m ≤ 8388608 ∧ 0 ≤ n ∧ n ≤ 8388608
theorem casc_says {v u : List S79} {a m x n : Int} (hR : rightB v [m, n] [a] = true) (hU : rightB u [] [x] = true) : CascS v u a m x n := by
  obtain ⟨hv, hl, hn, _⟩ := rightP hR
  obtain ⟨hu, hl2, _, _⟩ := rightP hU
  have va : VL v a := ⟨hv, (hl a (by simp)).1, (hl a (by simp)).2⟩
  have ux : VL u x := ⟨hu, (hl2 x (by simp)).1, (hl2 x (by simp)).2⟩
  obtain ⟨m0, m1⟩ := hn m (by simp)
  obtain ⟨n0, n1⟩ := hn n (by simp)
  have c1 := cascade_val va hu m0 (by omega)
  have c2 := received_val va ux
  have c3 := cascade_val va hu (show 0 ≤ m + n by omega) (by omega)
  have hm := run_more va m0 (show m ≤ m + n by omega)
  have b1 := run_bd va m0
  have b2 := run_bd va (show 0 ≤ m + n by omega)
  have bx := vT_bd ux ux.c0 ux.c1
  by_cases h1 : (sm (vsO u) : Rat) < runX v a m
  · rw [if_pos h1] at c1
    rw [if_pos (by grind)] at c3
    by_cases h2 : vT v (a : Rat) < vT u (x : Rat)
    · rw [if_pos h2] at c2
      exact ⟨_, _, _, _, _, _, _, _, _, c1, c2, c3, .inr ⟨rfl, .inl rfl, rfl⟩, m0, m1, n0, n1⟩
    · rw [if_neg h2] at c2
      exact ⟨_, _, _, _, _, _, _, _, _, c1, c2, c3, .inr ⟨rfl, .inr rfl, rfl⟩, m0, m1, n0, n1⟩
  · rw [if_neg h1] at c1
    have r1 : runX v a m ≤ (sm (vsO u) : Rat) := by grind
    have lv := level_iff ux b1.1 r1
    have third : ∃ t1 t2 e3, CascadeF v u a (m + n) = (t1, t2, e3) ∧ (e3 = 4 ∨ e3 = 0 ∧ (hV u (runX v a m)).floor ≤ t1 ∧ (hV u (runX v a m)).ceil ≤ t2) := by
      by_cases h3 : (sm (vsO u) : Rat) < runX v a (m + n)
      · rw [if_pos h3] at c3; exact ⟨_, _, _, c3, .inl rfl⟩
      · rw [if_neg h3] at c3
        have r3 : runX v a (m + n) ≤ (sm (vsO u) : Rat) := by grind
        have mono := (hV_le ux b1.1 r1 b2.1 r3).2 hm
        exact ⟨_, _, _, c3, .inr ⟨rfl, fl_mono mono, ce_mono mono⟩⟩
    obtain ⟨t1, t2, e3, c3', ht⟩ := third
    by_cases h2 : vT v (a : Rat) < vT u (x : Rat)
    · rw [if_pos h2] at c2
      refine ⟨_, _, _, _, _, _, _, _, _, c1, c2, c3', .inl ⟨rfl, .inl ⟨rfl, ?_⟩, ht⟩, m0, m1, n0, n1⟩
      have : ¬ vT u (x : Rat) ≤ runX v a m := by grind
      exact Int.not_le.1 (fun h => this (lv.1 h))
    · rw [if_neg h2] at c2
      refine ⟨_, _, _, _, _, _, _, _, _, c1, c2, c3', .inl ⟨rfl, .inr ⟨rfl, ?_⟩, ht⟩, m0, m1, n0, n1⟩
      rw [decide_eq_decide, lv]
      exact received_iff va m0 bx.1 (by grind)
end Go.Proofs.Ytlhfclpbodfmcaa.Pr
