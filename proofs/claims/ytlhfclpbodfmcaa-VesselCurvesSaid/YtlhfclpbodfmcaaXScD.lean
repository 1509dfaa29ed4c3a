/- A part of the proof: ScD. -/
import Derived.Test.YtlhfclpbodfmcaaXKq
import Derived.Test.YtlhfclpbodfmcaaXPr6
import Derived.Test.YtlhfclpbodfmcaaXVm
import Derived.Outline
namespace Go.Proofs.Ytlhfclpbodfmcaa.Pr
open Go.RowKit Go.Proofs.YtlhfclpbodfmcaaW.PrintWords Go.Proofs.YtlhfclpbodfmcaaW.PrintLast Go.Proofs.YtlhfclpbodfmcaaW.PrintMore
open Go.Proofs.Ytlhfclpbodfmcaa.Vm
set_option linter.unusedVariables false
set_option linter.unusedSimpArgs false
set_option maxHeartbeats 1600000 in
set_option maxRecDepth 100000 in
theorem height_all.calls2 (g : Nat) (xs bs : List Int) (w : World) (hs : Sc w g xs bs) (hl : xs.length < bs.length) :
    Calls Try.prog 118 #[.pointer (some ⟨g, 0, none⟩)] w fun e w' => e = .returned (.int .i64 (rd bs (xs.length : Int))) ∧ Below w.heap.size w w' := by
  have HB := Aside0.mk (Below.refl w.heap.size w)
  obtain ⟨a1, a2, c1, c2, e1, e2, d1, d2, l1, l2⟩ := hs
  have h0 : (0 : Int) ≤ (xs.length : Int) := by omega
  have h2 : (xs.length : Int) < (bs.length : Int) := by omega
  obtain ⟨ad2, q2, x8⟩ := Kd.at_int d2 (xs.length : Int) h0 h2
  subst q2
  clear d1 d2 l1 l2
  simp only [Int.toNat_natCast] at x8
  replace h0 := eq_true h0
  replace h2 := eq_true h2
  go_enter Try.func118, Try.ntmps118
  go_wp2
  repeat (go_quiet (fail); try go_wp2)
  go_ret
  exact ⟨rfl, by repeat (first | (with_reducible first | exact HB.out | apply below_alloc | apply pw_below_drewN | apply below_drew1) | exact HB.out)⟩
set_option maxHeartbeats 1600000 in
set_option maxRecDepth 100000 in
theorem minute_all.calls2 (g : Nat) (xs bs : List Int) (w : World) (hs : Sc w g xs bs) (hl : xs.length < bs.length) :
    Calls Try.prog 89 #[.pointer (some ⟨g, 0, none⟩)] w fun e w' => e = .returned (.int .i64 (rd bs (xs.length : Int))) ∧ Below w.heap.size w w' := by
  have HB := Aside0.mk (Below.refl w.heap.size w)
  obtain ⟨a1, a2, c1, c2, e1, e2, d1, d2, l1, l2⟩ := hs
  have h0 : (0 : Int) ≤ (xs.length : Int) := by omega
  have h2 : (xs.length : Int) < (bs.length : Int) := by omega
  obtain ⟨ad2, q2, x8⟩ := Kd.at_int d2 (xs.length : Int) h0 h2
  subst q2
  clear d1 d2 l1 l2
  simp only [Int.toNat_natCast] at x8
  replace h0 := eq_true h0
  replace h2 := eq_true h2
  go_enter Try.func89, Try.ntmps89
  go_wp2
  repeat (go_quiet (fail); try go_wp2)
  go_ret
  exact ⟨rfl, by repeat (first | (with_reducible first | exact HB.out | apply below_alloc | apply pw_below_drewN | apply below_drew1) | exact HB.out)⟩
set_option maxHeartbeats 1600000 in
set_option maxRecDepth 100000 in
theorem volume_all.calls2 (g : Nat) (xs bs : List Int) (w : World) (hs : Sc w g xs bs) (hl : xs.length < bs.length) :
    Calls Try.prog 99 #[.pointer (some ⟨g, 0, none⟩)] w fun e w' => e = .returned (.int .i64 (rd bs (xs.length : Int))) ∧ Below w.heap.size w w' := by
  have HB := Aside0.mk (Below.refl w.heap.size w)
  obtain ⟨a1, a2, c1, c2, e1, e2, d1, d2, l1, l2⟩ := hs
  have h0 : (0 : Int) ≤ (xs.length : Int) := by omega
  have h2 : (xs.length : Int) < (bs.length : Int) := by omega
  obtain ⟨ad2, q2, x8⟩ := Kd.at_int d2 (xs.length : Int) h0 h2
  subst q2
  clear d1 d2 l1 l2
  simp only [Int.toNat_natCast] at x8
  replace h0 := eq_true h0
  replace h2 := eq_true h2
  go_enter Try.func99, Try.ntmps99
  go_wp2
  repeat (go_quiet (fail); try go_wp2)
  go_ret
  exact ⟨rfl, by repeat (first | (with_reducible first | exact HB.out | apply below_alloc | apply pw_below_drewN | apply below_drew1) | exact HB.out)⟩
end Go.Proofs.Ytlhfclpbodfmcaa.Pr
