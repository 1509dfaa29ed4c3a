/- A part of the proof: Cj. -/
import Derived.Test.YtlhfclpbodfmcaaXVx
import Derived.Test.YtlhfclpbodfmcaaXPr4
namespace Go.Proofs.Ytlhfclpbodfmcaa.Pr
open Go.RowKit Go.Proofs.YtlhfclpbodfmcaaW.PrintWords Go.Proofs.YtlhfclpbodfmcaaW.PrintLast Go.Proofs.YtlhfclpbodfmcaaW.PrintMore
open Go.Proofs.Ytlhfclpbodfmcaa.Vm
theorem wr {n : Int} (h0 : -9223372036854775808 ≤ n) (h1 : n ≤ 9223372036854775807) : wrap64 n = n := by unfold wrap64; omega
def ringB (r : S79) : Bool := decide (1 ≤ r.f0 ∧ r.f0 ≤ 1000 ∧ 1 ≤ r.f1 ∧ r.f1 ≤ 100000 ∧ 1 ≤ r.f2 ∧ r.f2 ≤ 20000)
def chainB : List S79 → Bool
  | [] => true
  | [r] => ringB r
  | a :: b :: l => ringB a && decide (a.f1 * b.f2 ≤ b.f1 * a.f2) && chainB (b :: l)
def validB (l : List S79) : Bool := decide (1 ≤ l.length ∧ l.length ≤ 24) && chainB l
def checkF (l : List S79) : Int := if validB l then 0 else 20
theorem isRing_eq (r : S79) : vessel_isRing.f r.f0 r.f1 r.f2 = some (ringB r) := by
  have key : ∀ (a b c d e f : Prop) [Decidable a] [Decidable b] [Decidable c] [Decidable d] [Decidable e] [Decidable f],
      (if a then (if b then (if c then (if d then (if e then (some (decide f)) else some false) else some false) else some false) else some false) else some false) = some (decide (a ∧ b ∧ c ∧ d ∧ e ∧ f)) := by
    intro a b c d e f _ _ _ _ _ _
    by_cases a <;> by_cases b <;> by_cases c <;> by_cases d <;> by_cases e <;> simp_all
  unfold vessel_isRing.f ringB
  exact key _ _ _ _ _ _
theorem ringB_iff {r : S79} : ringB r = true ↔ 1 ≤ r.f0 ∧ r.f0 ≤ 1000 ∧ 1 ≤ r.f1 ∧ r.f1 ≤ 100000 ∧ 1 ≤ r.f2 ∧ r.f2 ≤ 20000 := by unfold ringB; exact decide_eq_true_iff
theorem chain_ring : ∀ {l : List S79}, chainB l = true → ∀ r, r ∈ l → ringB r = true
  | [], _, r, hr => by simp at hr
  | [a], h, r, hr => by simp at hr; subst hr; exact h
  | a :: b :: l, h, r, hr => by
    simp only [chainB, Bool.and_eq_true] at h
    rcases List.mem_cons.1 hr with rfl | hr
    · exact h.1.1
    · exact chain_ring h.2 r hr
theorem mul_b {a b A B : Int} (h0 : 1 ≤ a) (h1 : a ≤ A) (h2 : 1 ≤ b) (h3 : b ≤ B) : 0 ≤ a * b ∧ a * b ≤ A * B :=
  ⟨Int.mul_nonneg (by omega) (by omega), Int.mul_le_mul h1 h3 (by omega) (by omega)⟩
/-- The chain from ring i on, the ring below it known. -/
theorem chain_step (l : List S79) (i : Nat) (hi : i + 1 < l.length) : chainB (l.drop i) = (ringB (rd_T79 l (i : Int)) && decide ((rd_T79 l (i : Int)).f1 * (rd_T79 l ((i + 1 : Nat) : Int)).f2 ≤ (rd_T79 l ((i + 1 : Nat) : Int)).f1 * (rd_T79 l (i : Int)).f2) && chainB (l.drop (i + 1))) := by
  have e1 : l.drop i = rd_T79 l (i : Int) :: rd_T79 l ((i + 1 : Nat) : Int) :: l.drop (i + 2) := by
    rw [List.drop_eq_getElem_cons (by omega), List.drop_eq_getElem_cons (by omega)]
    simp [rd_T79, List.getD_eq_getElem?_getD, List.getElem?_eq_getElem hi, List.getElem?_eq_getElem (show i < l.length by omega)]
  have e2 : l.drop (i + 1) = rd_T79 l ((i + 1 : Nat) : Int) :: l.drop (i + 2) := by
    rw [List.drop_eq_getElem_cons (by omega)]
    simp [rd_T79, List.getD_eq_getElem?_getD, List.getElem?_eq_getElem hi]
  rw [e1, e2]; rfl
theorem chain_last (l : List S79) (i : Nat) (hi : i + 1 = l.length) : chainB (l.drop i) = ringB (rd_T79 l (i : Int)) := by
  have e1 : l.drop i = [rd_T79 l (i : Int)] := by
    rw [List.drop_eq_getElem_cons (by omega), List.drop_of_length_le (by omega)]
    simp [rd_T79, List.getD_eq_getElem?_getD, List.getElem?_eq_getElem (show i < l.length by omega)]
  rw [e1]; rfl
/-- A step of the test, in plain words: ring i behind ring i - 1, which is one. -/
theorem test_step (l : List S79) (i : Nat) (hi : i < l.length) (h0 : 1 ≤ i) (hp : ringB (rd_T79 l ((i - 1 : Nat) : Int)) = true) :
    chainB (l.drop (i - 1)) = (ringB (rd_T79 l (i : Int)) && decide ((rd_T79 l ((i - 1 : Nat) : Int)).f1 * (rd_T79 l (i : Int)).f2 ≤ (rd_T79 l (i : Int)).f1 * (rd_T79 l ((i - 1 : Nat) : Int)).f2) && chainB (l.drop i)) := by
  have := chain_step l (i - 1) (by omega)
  rw [show i - 1 + 1 = i by omega, hp, Bool.true_and] at this
  rw [this]
  cases hr : ringB (rd_T79 l (i : Int)) with
  | true => simp
  | false =>
    have : chainB (l.drop i) = false := by
      by_cases he : i + 1 = l.length
      · rw [chain_last l i he, hr]
      · rw [chain_step l i (by omega), hr]; simp
    simp [this]
/-- A valid vessel's scales. -/
theorem valid_GV {l : List S79} (h : validB l = true) : GV (l.map (·.f0)) (l.map (·.f1)) (l.map (·.f2)) := by
  unfold validB at h
  rw [Bool.and_eq_true, decide_eq_true_iff] at h
  have hr : ∀ r, r ∈ l → _ := fun r hr => ringB_iff.1 (chain_ring h.2 r hr)
  refine ⟨⟨?_, ?_, by simpa using h.1.1, by simpa using h.1.2⟩, ⟨?_, ?_, by simpa using h.1.1, by simpa using h.1.2⟩, ⟨?_, ?_, by simpa using h.1.1, by simpa using h.1.2⟩, by simp, by simp⟩ <;>
  · intro a ha
    obtain ⟨r, h1, rfl⟩ := List.mem_map.1 ha
    have := hr r h1
    omega
end Go.Proofs.Ytlhfclpbodfmcaa.Pr
