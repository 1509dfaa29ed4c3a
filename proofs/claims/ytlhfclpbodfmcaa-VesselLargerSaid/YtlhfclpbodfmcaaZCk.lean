/- A part of the proof: Ck. -/
import Derived.Test.YtlhfclpbodfmcaaZVx
import Derived.Test.YtlhfclpbodfmcaaZPr5
namespace Go.Proofs.Ytlhfclpbodfmcaa.Pr
open Go.RowKit Go.Proofs.YtlhfclpbodfmcaaW.PrintWords Go.Proofs.YtlhfclpbodfmcaaW.PrintLast Go.Proofs.YtlhfclpbodfmcaaW.PrintMore
open Go.Proofs.Ytlhfclpbodfmcaa.Vm
theorem wr {n : Int} (h0 : -9223372036854775808 ≤ n) (h1 : n ≤ 9223372036854775807) : wrap64 n = n := by unfold wrap64; omega
def ringB (r : S79) : Bool := decide (1 ≤ r.f0 ∧ r.f0 ≤ 1000 ∧ 1 ≤ r.f1 ∧ r.f1 ≤ 100000 ∧ 1 ≤ r.f2 ∧ r.f2 ≤ 20000)
def chainB : List S79 → Bool
  | [] => true
  | [r] => ringB r
  | a :: b :: l => ringB a && decide (a.f1 * b.f2 ≤ b.f1 * a.f2) && chainB (b :: l)
def validB (l : List S79) : Bool := decide (1 ≤ l.length ∧ l.length ≤ 24) && chainB l
def checkF (l : List S79) : Int := if validB l then 0 else 20
theorem isRing_eq (r : S79) : vessel_isRing.f r.f0 r.f1 r.f2 = some (ringB r) := by
  have key : ∀ (a b c d e f : Prop) [Decidable a] [Decidable b] [Decidable c] [Decidable d] [Decidable e] [Decidable f],
      (if a then (if b then (if c then (if d then (if e then (some (decide f)) else some false) else some false) else some false) else some false) else some false) = some (decide (a ∧ b ∧ c ∧ d ∧ e ∧ f)) := by
    intro a b c d e f _ _ _ _ _ _
    by_cases a <;> by_cases b <;> by_cases c <;> by_cases d <;> by_cases e <;> simp_all
  unfold vessel_isRing.f ringB
  exact key _ _ _ _ _ _
theorem ringB_iff {r : S79} : ringB r = true ↔ 1 ≤ r.f0 ∧ r.f0 ≤ 1000 ∧ 1 ≤ r.f1 ∧ r.f1 ≤ 100000 ∧ 1 ≤ r.f2 ∧ r.f2 ≤ 20000 := by unfold ringB; exact decide_eq_true_iff
theorem chain_ring : ∀ {l : List S79}, chainB l = true → ∀ r, r ∈ l → ringB r = true
  | [], _, r, hr => by simp at hr
  | [a], h, r, hr => by simp at hr; subst hr; exact h
  | a :: b :: l, h, r, hr => by
    simp only [chainB, Bool.and_eq_true] at h
    rcases List.mem_cons.1 hr with rfl | hr
    · exact h.1.1
    · exact chain_ring h.2 r hr
theorem mul_b {a b A B : Int} (h0 : 1 ≤ a) (h1 : a ≤ A) (h2 : 1 ≤ b) (h3 : b ≤ B) : 0 ≤ a * b ∧ a * b ≤ A * B :=
  ⟨Int.mul_nonneg (by omega) (by omega), Int.mul_le_mul h1 h3 (by omega) (by omega)⟩
/-- The chain from ring i on, the ring below it known. -/
theorem chain_step (l : List S79) (i : Nat) (hi : i + 1 < l.length) : chainB (l.drop i) = (ringB (rd_T79 l (i : Int)) && decide ((rd_T79 l (i : Int)).f1 * (rd_T79 l ((i + 1 : Nat) : Int)).f2 ≤ (rd_T79 l ((i + 1 : Nat) : Int)).f1 * (rd_T79 l (i : Int)).f2) && chainB (l.drop (i + 1))) := by
  have e1 : l.drop i = rd_T79 l (i : Int) :: rd_T79 l ((i + 1 : Nat) : Int) :: l.drop (i + 2) := by
    rw [List.drop_eq_getElem_cons (by omega), List.drop_eq_getElem_cons (by omega)]
    simp [rd_T79, List.getD_eq_getElem?_getD, List.getElem?_eq_getElem hi, List.getElem?_eq_getElem (show i < l.length by omega)]
  have e2 : l.drop (i + 1) = rd_T79 l ((i + 1 : Nat) : Int) :: l.drop (i + 2) := by
    rw [List.drop_eq_getElem_cons (by omega)]
    simp [rd_T79, List.getD_eq_getElem?_getD, List.getElem?_eq_getElem hi]
  rw [e1, e2]; rfl
theorem chain_last (l : List S79) (i : Nat) (hi : i + 1 = l.length) : chainB (l.drop i) = ringB (rd_T79 l (i : Int)) := by
  have e1 : l.drop i = [rd_T79 l (i : Int)] := by
    rw [List.drop_eq_getElem_cons (by omega), List.drop_of_length_le (by omega)]
    simp [rd_T79, List.getD_eq_getElem?_getD, List.getElem?_eq_getElem (show i < l.length by omega)]
  rw [e1]; rfl
/-- A step of the test, in plain words: ring i behind ring i - 1, which is one. -/
theorem test_step (l : List S79) (i : Nat) (hi : i < l.length) (h0 : 1 ≤ i) (hp : ringB (rd_T79 l ((i - 1 : Nat) : Int)) = true) :
    chainB (l.drop (i - 1)) = (ringB (rd_T79 l (i : Int)) && decide ((rd_T79 l ((i - 1 : Nat) : Int)).f1 * (rd_T79 l (i : Int)).f2 ≤ (rd_T79 l (i : Int)).f1 * (rd_T79 l ((i - 1 : Nat) : Int)).f2) && chainB (l.drop i)) := by
  have := chain_step l (i - 1) (by omega)
  rw [show i - 1 + 1 = i by omega, hp, Bool.true_and] at this
  rw [this]
  cases hr : ringB (rd_T79 l (i : Int)) with
  | true => simp
  | false =>
    have : chainB (l.drop i) = false := by
      by_cases he : i + 1 = l.length
      · rw [chain_last l i he, hr]
      · rw [chain_step l i (by omega), hr]; simp
    simp [this]
theorem vCheck_loop (l : List S79) (hl : l.length ≤ 1000) : ∀ (m i k : Nat), m + i = l.length → m < k → (i = 0 ∨ ringB (rd_T79 l ((i - 1 : Nat) : Int)) = true) →
    vessel_Check.l0 k l l (l.length : Int) (i : Int) = some (if chainB (l.drop (i - 1)) then 0 else 20) := by
  intro m
  induction m with
  | zero =>
    intro i k hm hk hp
    obtain ⟨k, rfl⟩ : ∃ z, k = z + 1 := ⟨k - 1, by omega⟩
    simp only [vessel_Check.l0]
    rw [if_neg (by omega)]
    rcases Nat.eq_zero_or_pos i with h0 | h0
    · subst h0
      have : l = [] := List.eq_nil_of_length_eq_zero (by omega)
      subst this; rfl
    · rw [chain_last l (i - 1) (by omega)]
      rcases hp with hp | hp
      · omega
      · rw [hp]; rfl
  | succ m ih =>
    intro i k hm hk hp
    obtain ⟨k, rfl⟩ : ∃ z, k = z + 1 := ⟨k - 1, by omega⟩
    have hi : i < l.length := by omega
    simp only [vessel_Check.l0]
    rw [if_pos (by omega), if_pos (by omega), if_pos (by omega), isRing_eq, Option.bind_some]
    have hw : wrap64 ((i : Int) + 1) = ((i + 1 : Nat) : Int) := by rw [wr (by omega) (by omega)]; omega
    cases hr : ringB (rd_T79 l (i : Int)) with
    | false =>
      rw [if_neg (by simp)]
      have : chainB (l.drop (i - 1)) = false := by
        rcases Nat.eq_zero_or_pos i with h0 | h0
        · subst h0
          by_cases he : 1 = l.length
          · rw [show 0 - 1 = 0 from rfl, chain_last l 0 (by omega)]; exact hr
          · rw [show 0 - 1 = 0 from rfl, chain_step l 0 (by omega)]; simp [show ringB (rd_T79 l 0) = false from hr]
        · rcases hp with hp | hp
          · omega
          · rw [test_step l i hi h0 hp, hr]; simp
      rw [this]; rfl
    | true =>
      rw [if_pos rfl]
      rcases Nat.eq_zero_or_pos i with h0 | h0
      · subst h0
        rw [if_neg (by omega), hw, ih 1 k (by omega) (by omega) (.inr hr)]
      · rcases hp with hp | hp
        · omega
        rw [if_pos (by omega)]
        have hw2 : wrap64 ((i : Int) - 1) = ((i - 1 : Nat) : Int) := by rw [wr (by omega) (by omega)]; omega
        rw [hw2, if_pos (by omega), if_pos (by omega)]
        have r1 := ringB_iff.1 hr
        have r2 := ringB_iff.1 hp
        have m1 := mul_b r1.2.2.1 r1.2.2.2.1 r2.2.2.2.2.1 r2.2.2.2.2.2
        have m2 := mul_b r2.2.2.1 r2.2.2.2.1 r1.2.2.2.2.1 r1.2.2.2.2.2
        rw [wr (by omega) (by omega), wr (by omega) (by omega), test_step l i hi h0 hp, hr, Bool.true_and]
        by_cases hc : (rd_T79 l (i : Int)).f1 * (rd_T79 l ((i - 1 : Nat) : Int)).f2 < (rd_T79 l ((i - 1 : Nat) : Int)).f1 * (rd_T79 l (i : Int)).f2
        · rw [if_pos hc, decide_eq_false (by omega)]; rfl
        · rw [if_neg hc, decide_eq_true (by omega), Bool.true_and, hw, ih (i + 1) k (by omega) (by omega) (.inr hr)]
          rfl
theorem vCheck (l : List S79) : vessel_Check.f 30 l = some (checkF l) := by
  unfold vessel_Check.f checkF validB
  by_cases h1 : (l.length : Int) < 1
  · rw [if_pos h1]
    have : decide (1 ≤ l.length ∧ l.length ≤ 24) = false := decide_eq_false (by omega)
    rw [this]; rfl
  · rw [if_neg h1]
    by_cases h2 : (l.length : Int) > 24
    · have : decide (1 ≤ l.length ∧ l.length ≤ 24) = false := decide_eq_false (by omega)
      rw [this, decide_eq_true h2]; rfl
    · have : decide (1 ≤ l.length ∧ l.length ≤ 24) = true := decide_eq_true (by omega)
      rw [this, decide_eq_false h2]
      simp only [vessel_Check.j0]
      rw [if_neg (by decide), Bool.true_and]
      exact vCheck_loop l (by omega) l.length 0 29 (by omega) (by omega) (.inl rfl)
/-- A valid vessel's scales. -/
theorem valid_GV {l : List S79} (h : validB l = true) : GV (l.map (·.f0)) (l.map (·.f1)) (l.map (·.f2)) := by
  unfold validB at h
  rw [Bool.and_eq_true, decide_eq_true_iff] at h
  have hr : ∀ r, r ∈ l → _ := fun r hr => ringB_iff.1 (chain_ring h.2 r hr)
  refine ⟨⟨?_, ?_, by simpa using h.1.1, by simpa using h.1.2⟩, ⟨?_, ?_, by simpa using h.1.1, by simpa using h.1.2⟩, ⟨?_, ?_, by simpa using h.1.1, by simpa using h.1.2⟩, by simp, by simp⟩ <;>
  · intro a ha
    obtain ⟨r, h1, rfl⟩ := List.mem_map.1 ha
    have := hr r h1
    omega
end Go.Proofs.Ytlhfclpbodfmcaa.Pr
