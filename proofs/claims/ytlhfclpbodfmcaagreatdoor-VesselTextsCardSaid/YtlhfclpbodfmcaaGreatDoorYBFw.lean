/- A part of the proof: Fw. -/
import Derived.Test.YtlhfclpbodfmcaaGreatDoorYBCvA
namespace Go.Proofs.YtlhfclpbodfmcaaGreatDoor.Pr
open Go.RowKit Go.Proofs.YtlhfclpbodfmcaaGreatDoorW.PrintWords Go.Proofs.YtlhfclpbodfmcaaGreatDoorW.PrintLast Go.Proofs.YtlhfclpbodfmcaaGreatDoorW.PrintMore
open Go.Proofs.YtlhfclpbodfmcaaGreatDoor.Vm
set_option linter.unusedVariables false
set_option linter.unusedSimpArgs false
def fewB (l : List S79) : Bool := decide (l.length ≤ 40)
set_option maxHeartbeats 1600000 in
set_option maxRecDepth 100000 in
theorem few_1.calls (A0 : Option Addr) (l : List S79) (c0 : Nat) (w : World) :
    Calls Tryz.prog 28 #[.slice A0 l.length c0] w fun e w' => e = .returned (.bool (!(fewB l))) ∧ Below w.heap.size w w' := by
  have HB := Aside0.mk (Below.refl w.heap.size w)
  unfold fewB
  cases hd : decide ((40 : Int) < (l.length : Int)) with
  | true =>
    have h1 : ¬ l.length ≤ 40 := by have := of_decide_eq_true hd; omega
    go_enter Tryz.func28, Tryz.ntmps28
    go_wp2
    go_ret
    exact ⟨by simp; omega, HB.out⟩
  | false =>
    have h1 : l.length ≤ 40 := by have := of_decide_eq_false hd; omega
    go_enter Tryz.func28, Tryz.ntmps28
    go_wp2
    go_ret
    exact ⟨by simp; omega, HB.out⟩
set_option maxHeartbeats 1600000 in
set_option maxRecDepth 100000 in
theorem few_index.calls (A0 : Option Addr) (c0 : Nat) (l0 : List (List S79)) (r : Nat) (w : World) (hr0 : Kd.C (Kd.slice 35 k79) w A0 l0.length l0) (hn : l0.length ≤ 1000) (hr : r ≤ l0.length) (hlt : ∀ i : Nat, i < r → fewB (rd_L2 l0 (i : Int)) = true) (hge : r < l0.length → fewB (rd_L2 l0 (r : Int)) = false) :
    Calls Tryz.prog 60 #[.slice A0 l0.length c0, .func (.func 28) #[] #[]] w fun e w' => e = .returned (.int .i64 (if r < l0.length then (r : Int) else -1)) ∧ Below w.heap.size w w' := by
  have HB := Aside0.mk (Below.refl w.heap.size w)
  have HR0 := Aside0.mk hr0
  have HLT := Aside0.mk hlt
  have HGE := Aside0.mk hge
  have hmx := Kd.C_max hr0
  clear hr0 hlt hge
  go_enter Tryz.func60, Tryz.ntmps60
  go_wp2
  go_loopg [8] l0.length (fun kq v8 w' => ∃ i : Nat, v8 = .int .i64 (i : Int) ∧ Aside0 (i ≤ r ∧ i + kq = l0.length) ∧ Aside0 (Below w.heap.size w w'))
  case atStart => exact ⟨0, rfl, ⟨by omega, by omega⟩, HB⟩
  case round =>
    clear HB
    obtain ⟨i, rfl, HI, HB⟩ := hrel
    obtain ⟨h1, h2⟩ := HI.out
    by_cases hij : i < l0.length
    · have hd : decide ((i : Int) < (l0.length : Int)) = true := decide_eq_true (by omega)
      have hd2 : decide (i < l0.length) = true := decide_eq_true hij
      obtain ⟨ad, ax, cx, q1, x0, lx, x1⟩ := at_L2 HR0.out (i : Int) (by omega) (by omega)
      subst q1
      replace x0 := pw_cell_below HB.out x0
      simp only [Int.toNat_natCast] at x0
      have C1 : ∀ W, Calls Tryz.prog 28 #[.slice ax (rd_L2 l0 (i : Int)).length cx] W fun e w' => e = .returned (.bool (!(fewB (rd_L2 l0 (i : Int))))) ∧ Below W.heap.size W w' := fun W => few_1.calls _ _ _ W
      have p1 : (0 : Int) ≤ (i : Int) := by omega
      have q1 : (i : Int) < (l0.length : Int) := by omega
      by_cases hir : i < r
      · rw [HLT.out _ hir] at C1
        go_wp2_with fail
        refine (C1 _).mono ?_
        rintro e w3 ⟨rfl, hb⟩
        have n0_ := Aside0.mk (below_step (by repeat (first | (with_reducible first | exact HB.out | apply below_alloc | apply pw_below_drewN | apply below_drew1) | exact HB.out)) hb)
        clear HB
        have HB := n0_
        clear n0_
        clear hb
        clear x0
        go_wp2
        go_roundg (gk - 1)
        case measure => omega
        case rel => exact ⟨i + 1, by go_num, ⟨by omega, by omega⟩, HB⟩
      · obtain rfl : i = r := by omega
        rw [HGE.out hij] at C1
        go_wp2_with fail
        refine (C1 _).mono ?_
        rintro e w3 ⟨rfl, hb⟩
        have n0_ := Aside0.mk (below_step (by repeat (first | (with_reducible first | exact HB.out | apply below_alloc | apply pw_below_drewN | apply below_drew1) | exact HB.out)) hb)
        clear HB
        have HB := n0_
        clear n0_
        clear hb
        clear x0
        go_wp2
        go_ret
        exact ⟨by first | rfl | (simp [hij]), HB.out⟩
    · have hd : decide ((i : Int) < (l0.length : Int)) = false := decide_eq_false (by omega)
      have hd2 : decide (i < l0.length) = false := decide_eq_false hij
      go_wp2
      go_ret
      exact ⟨by first | rfl | (rw [if_neg (by omega)]) | (simp; omega), HB.out⟩
set_option maxHeartbeats 1600000 in
set_option maxRecDepth 100000 in
theorem few_contains.calls (A0 : Option Addr) (c0 : Nat) (l0 : List (List S79)) (w : World) (hr0 : Kd.C (Kd.slice 35 k79) w A0 l0.length l0) (hn : l0.length ≤ 1000) :
    Calls Tryz.prog 27 #[.slice A0 l0.length c0, .func (.func 28) #[] #[]] w fun e w' => e = .returned (.bool (!(l0.all fewB))) ∧ Below w.heap.size w w' := by
  have HB := Aside0.mk (Below.refl w.heap.size w)
  obtain ⟨r, h1, h2, h3, h4⟩ := all_first fewB ([] : List S79) l0
  have C1 := fun W h => few_index.calls A0 c0 l0 r W h hn h1 h2 h3
  have HR0 := Aside0.mk hr0
  rw [h4]
  clear hr0 h2 h3 h4
  by_cases hr : r < l0.length
  · rw [if_pos hr] at C1
    have hd : decide ((0 : Int) ≤ (r : Int)) = true := decide_eq_true (by omega)
    go_enter Tryz.func27, Tryz.ntmps27
    go_wp2_with fail
    refine (C1 _ (Kd.C_below HR0.out HB.out)).mono ?_
    rintro e w3 ⟨rfl, hb⟩
    have n0_ := Aside0.mk (below_step (by repeat (first | (with_reducible first | exact HB.out | apply below_alloc | apply pw_below_drewN | apply below_drew1) | exact HB.out)) hb)
    clear HB
    have HB := n0_
    clear n0_
    clear hb
    go_wp2
    go_ret
    exact ⟨by simp [hr], HB.out⟩
  · rw [if_neg hr] at C1
    go_enter Tryz.func27, Tryz.ntmps27
    go_wp2_with fail
    refine (C1 _ (Kd.C_below HR0.out HB.out)).mono ?_
    rintro e w3 ⟨rfl, hb⟩
    have n0_ := Aside0.mk (below_step (by repeat (first | (with_reducible first | exact HB.out | apply below_alloc | apply pw_below_drewN | apply below_drew1) | exact HB.out)) hb)
    clear HB
    have HB := n0_
    clear n0_
    clear hb
    go_wp2
    go_ret
    exact ⟨by simp [hr], HB.out⟩
set_option maxHeartbeats 1600000 in
set_option maxRecDepth 100000 in
theorem waterhourlaw02_few.run (A0 : Option Addr) (c0 : Nat) (l0 : List (List S79)) (w : World) (hr0 : Kd.C (Kd.slice 35 k79) w A0 l0.length l0) (hn : l0.length ≤ 1000) :
    Calls Tryz.prog 5 #[.slice A0 l0.length c0] w fun e w' => e = .returned (.bool (l0.all fewB)) ∧ Below w.heap.size w w' := by
  have HB := Aside0.mk (Below.refl w.heap.size w)
  have C1 := fun W h => few_contains.calls A0 c0 l0 W h hn
  have HR0 := Aside0.mk hr0
  clear hr0
  go_enter Tryz.func5, Tryz.ntmps5
  go_wp2_with fail
  refine (C1 _ (Kd.C_below HR0.out HB.out)).mono ?_
  rintro e w3 ⟨rfl, hb⟩
  have n0_ := Aside0.mk (below_step (by repeat (first | (with_reducible first | exact HB.out | apply below_alloc | apply pw_below_drewN | apply below_drew1) | exact HB.out)) hb)
  clear HB
  have HB := n0_
  clear n0_
  clear hb
  go_wp2
  go_ret
  exact ⟨by simp, HB.out⟩
def waterhourlaw02_few.f (l0 : List (List S79)) : Option Bool := if l0.length ≤ 1000 then some (l0.all fewB) else none
theorem waterhourlaw02_few.calls (A0 : Option Addr) (c0 : Nat) (l0 : List (List (S79))) (r : Bool) (w : World) (hr0 : Kd.C (Kd.slice 35 k79) w A0 l0.length l0) (hc0 : l0.length ≤ c0) (h : waterhourlaw02_few.f l0 = some r) :
    Calls Tryz.prog 5 #[.slice A0 l0.length c0] w fun e w' => e = .returned (.bool r) ∧ Below w.heap.size w w' := by
  unfold waterhourlaw02_few.f at h
  by_cases hn : l0.length ≤ 1000
  · rw [if_pos hn] at h
    obtain rfl := Option.some.inj h
    exact waterhourlaw02_few.run A0 c0 l0 w hr0 hn
  · rw [if_neg hn] at h; cases h
end Go.Proofs.YtlhfclpbodfmcaaGreatDoor.Pr
