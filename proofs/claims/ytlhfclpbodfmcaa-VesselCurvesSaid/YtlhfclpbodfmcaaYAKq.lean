/- A part of the proof: Kq, Pr23, Ca. -/
import Derived.Test.YtlhfclpbodfmcaaYAWWords
import Derived.Test.YtlhfclpbodfmcaaYAVm
import Derived.Test.YtlhfclpbodfmcaaXCvC
namespace Go.Proofs.Ytlhfclpbodfmcaa.Pr
open Go.RowKit Go.Proofs.YtlhfclpbodfmcaaW.PrintWords Go.Proofs.YtlhfclpbodfmcaaW.PrintLast Go.Proofs.YtlhfclpbodfmcaaW.PrintMore
set_option linter.unusedVariables false
section
variable {P : Program} {ops : Array Oper} {Q : Exit → Act → World → Prop} {md : Region.Mode} {S : World → Prop} {ds : List Nat}
end
theorem fb_ {n : Nat} {w W X : World} (HB : Aside0 (Below n w W)) (h : Below W.heap.size W X := by repeat (first | exact Below.refl _ _ | apply below_alloc | apply pw_below_drewN | apply below_drew1)) (hn : n ≤ W.heap.size := by first | exact HB.out.size | exact Nat.le_refl _) : Below n w X := HB.out.trans (h.mono hn)
section
variable {P : Program} {ops : Array Oper} {Q : Exit → Act → World → Prop}
end
end Go.Proofs.Ytlhfclpbodfmcaa.Pr
namespace Go.Proofs.Ytlhfclpbodfmcaa.Pr
open Go.RowKit Go.Proofs.YtlhfclpbodfmcaaW.PrintWords Go.Proofs.YtlhfclpbodfmcaaW.PrintLast Go.Proofs.YtlhfclpbodfmcaaW.PrintMore
attribute [local go_sem] fld79_0 fld79_1 fld79_2 fld27_0 fld27_1 fld90_0 fld90_1 fld90_2 fld105_0 fld105_1 fld105_2 fld96_0 fld96_1 fld96_2 fld60_0 fld60_1 fld42_0 fld42_1 max2_int min2_int max_two min_two max_three min_three max_four min_four   -- for this text's walks alone
set_option linter.unusedVariables false
set_option linter.unusedSimpArgs false
def curve_within.f (l0 : List (S60)) (a1 : Int) : Option (Bool) := if 0 < (l0.length : Int) then (if a1 ≥ ((rd_T60 l0 0).f0) then (if 0 ≤ (wrap64 ((l0.length : Int) - 1)) then (if (wrap64 ((l0.length : Int) - 1)) < (l0.length : Int) then (some (decide (a1 ≤ ((rd_T60 l0 (wrap64 ((l0.length : Int) - 1))).f0)))) else (none)) else (none)) else (some false)) else (none)
set_option maxHeartbeats 8000000 in
set_option maxRecDepth 100000 in
theorem curve_within.calls (A0 : Option Addr) (c0 : Nat) (l0 : List (S60)) (a1 : Int) (r : Bool) (w : World) (hr0 : Kd.C k60 w A0 l0.length l0) (hc0 : l0.length ≤ c0) (h : curve_within.f l0 a1 = some r) :
    Calls Try.prog 142 #[.slice A0 l0.length c0, .int .i64 a1] w fun e w' => e = .returned (.bool r) ∧ Drawn0 w w' := by
  have HR0 := Aside0.mk hr0
  have HC0 := Aside0.mk hc0
  clear hr0 hc0
  have H : (if 0 < (l0.length : Int) then (if a1 ≥ ((rd_T60 l0 0).f0) then (if 0 ≤ (wrap64 ((l0.length : Int) - 1)) then (if (wrap64 ((l0.length : Int) - 1)) < (l0.length : Int) then (some (decide (a1 ≤ ((rd_T60 l0 (wrap64 ((l0.length : Int) - 1))).f0)))) else (none)) else (none)) else (some false)) else (none)) = some r := h
  clear h
  by_cases c3 : 0 < (l0.length : Int)
  · rw [if_pos c3] at H
    have c3b0 : decide (0 < (l0.length : Int)) = true := decide_eq_true c3
    have c3b1 : decide (0 < l0.length) = true := decide_eq_true (by omega)
    clear c3
    by_cases c4 : a1 ≥ ((rd_T60 l0 0).f0)
    · rw [if_pos c4] at H
      have c4b0 : decide (((rd_T60 l0 0).f0) ≤ a1) = true := decide_eq_true c4
      clear c4
      obtain ⟨ji5, hji5⟩ : ∃ j_ : Int, (wrap64 ((l0.length : Int) - 1)) = j_ := ⟨_, rfl⟩
      replace H : (if 0 ≤ (ji5) then (if (ji5) < (l0.length : Int) then (some (decide (a1 ≤ ((rd_T60 l0 (ji5)).f0)))) else (none)) else (none)) = some r := by first | (rw [hji5] at H; exact H) | (simp only [hji5] at H ⊢; exact H)
      have hji5w : (IntKind.i64.wrap ((l0.length : Int) - 1)) = ji5 := (i64_w _).trans hji5
      by_cases c6 : 0 ≤ (ji5)
      · rw [if_pos c6] at H
        have c6b0 : decide (0 ≤ (ji5)) = true := decide_eq_true c6
        clear c6
        by_cases c7 : (ji5) < (l0.length : Int)
        · rw [if_pos c7] at H
          have c7b0 : decide ((ji5) < (l0.length : Int)) = true := decide_eq_true c7
          clear c7
          obtain rfl := Option.some.inj H
          have p433 : 0 ≤ (0 : Int) := (by omega)
          have q433 : 0 < (l0.length : Int) := of_decide_eq_true (by first | (with_reducible assumption) | assumption)
          obtain ⟨ad433, e433, hx433_0, hx433_1⟩ := at_T60 HR0.out 0 p433 q433
          cases e433
          have qi433 : (0 < l0.length) = True := eq_true (by omega)
          (try rw [show ((0 : Int)).toNat = 0 from rfl] at hx433_0)
          (try rw [show 0 * 2 = 0 from rfl] at hx433_0)
          (try rw [Addr.add_zero'] at hx433_0)
          (try rw [show ((0 : Int)).toNat = 0 from rfl] at hx433_1)
          (try rw [show 0 * 2 = 0 from rfl] at hx433_1)
          (try rw [Addr.add_zero'] at hx433_1)
          replace p433 := eq_true p433
          replace q433 := eq_true q433
          have p434 : 0 ≤ ((ji5) : Int) := of_decide_eq_true (by first | (with_reducible assumption) | assumption)
          have q434 : (ji5) < (l0.length : Int) := of_decide_eq_true (by first | (with_reducible assumption) | assumption)
          obtain ⟨ad434, e434, hx434_0, hx434_1⟩ := at_T60 HR0.out (ji5) p434 q434
          obtain rfl : ad433 = ad434 := (by injection e434)
          replace p434 := eq_true p434
          replace q434 := eq_true q434
          go_enter Try.func142, Try.ntmps142
          go_wp2
          go_ret
          exact ⟨by first | rfl | (simp; done) | (simp only [← hji5] <;> (first | rfl | simp)) | (simp [*]; done), by repeat (first | exact Drawn0.refl _ | apply Drawn0.step)⟩
        · rw [if_neg c7] at H
          exact absurd H (by simp)
      · rw [if_neg c6] at H
        exact absurd H (by simp)
    · rw [if_neg c4] at H
      have c4b0 : decide (((rd_T60 l0 0).f0) ≤ a1) = false := decide_eq_false c4
      clear c4
      obtain rfl := Option.some.inj H
      have p433 : 0 ≤ (0 : Int) := (by omega)
      have q433 : 0 < (l0.length : Int) := of_decide_eq_true (by first | (with_reducible assumption) | assumption)
      obtain ⟨ad433, e433, hx433_0, hx433_1⟩ := at_T60 HR0.out 0 p433 q433
      cases e433
      have qi433 : (0 < l0.length) = True := eq_true (by omega)
      (try rw [show ((0 : Int)).toNat = 0 from rfl] at hx433_0)
      (try rw [show 0 * 2 = 0 from rfl] at hx433_0)
      (try rw [Addr.add_zero'] at hx433_0)
      (try rw [show ((0 : Int)).toNat = 0 from rfl] at hx433_1)
      (try rw [show 0 * 2 = 0 from rfl] at hx433_1)
      (try rw [Addr.add_zero'] at hx433_1)
      replace p433 := eq_true p433
      replace q433 := eq_true q433
      go_enter Try.func142, Try.ntmps142
      go_wp2
      go_ret
      exact ⟨by first | rfl | (simp; done) | (simp [*]; done), by repeat (first | exact Drawn0.refl _ | apply Drawn0.step)⟩
  · rw [if_neg c3] at H
    exact absurd H (by simp)
def curve_line_has.f (a0_0 : Int) (a0_1 : Int) (a0_2 : Int) (a0_3 : Int) (a1 : Int) : Option (Bool) := if a1 ≥ a0_0 then (some (decide (a1 ≤ a0_2))) else (some false)
set_option maxHeartbeats 8000000 in
set_option maxRecDepth 100000 in
theorem curve_line_has.calls (a0_0 : Int) (a0_1 : Int) (a0_2 : Int) (a0_3 : Int) (a1 : Int) (r : Bool) (w : World) (h : curve_line_has.f a0_0 a0_1 a0_2 a0_3 a1 = some r) :
    Calls Try.prog 149 #[.agg #[.int .i64 a0_0, .int .i64 a0_1, .int .i64 a0_2, .int .i64 a0_3], .int .i64 a1] w fun e w' => e = .returned (.bool r) ∧ Below w.heap.size w w' := by
  have hu129 := Try.underlying129
  have HB := Aside0.mk (Below.refl w.heap.size w)
  have H : (if a1 ≥ a0_0 then (some (decide (a1 ≤ a0_2))) else (some false)) = some r := h
  clear h
  by_cases c3 : a1 ≥ a0_0
  · rw [if_pos c3] at H
    have c3b0 : decide (a0_0 ≤ a1) = true := decide_eq_true c3
    clear c3
    obtain rfl := Option.some.inj H
    go_enter Try.func149, Try.ntmps149
    go_wp2_with (first | ((with_reducible refine gate_dst (N := 2) rfl ?_); refine box_event ?hg (N := 2) ?hd (cs := #[.int .i64 a0_0, .int .i64 a0_1, .int .i64 a0_2, .int .i64 a0_3]) (t := 129) ?hr ?_; (case hd => rfl); (case hg => rfl); (case hr => first | (go_simp; done) | (go_simp; rfl)); intro gb435 hg w4 hbox hb; have n0_ := Aside0.mk (below_step (by repeat (first | (with_reducible first | exact HB.out | apply below_alloc | apply pw_below_drewN | apply below_drew1) | exact HB.out)) hb); have n1_ := Aside0.mk (hbox); have n2_ := Aside0.mk ((by rw [hg]; exact (below_size (by repeat (first | (with_reducible first | exact HB.out | apply below_alloc | apply pw_below_drewN | apply below_drew1) | exact HB.out))) : w.heap.size ≤ gb435)); have n3_ := Aside0.mk ((by rw [hg]; exact (below_size (by repeat (first | (with_reducible first | exact HB.out | apply below_alloc | apply pw_below_drewN | apply below_drew1) | exact HB.out))) : w.heap.size ≤ gb435)); clear HB; have HB := n0_; have BK435 := n1_; have GW435 := n2_; have GE435 := n3_; clear n0_ n1_ n2_ n3_; clear hb hbox hg; have hcz5_0 : w4.cell? ⟨gb435, 0, none⟩ = some (.int .i64 a0_0) := (blk_cell BK435.out 0).trans rfl; have hcz5_1 : w4.cell? ⟨gb435, 1, none⟩ = some (.int .i64 a0_1) := (blk_cell BK435.out 1).trans rfl; have hcz5_2 : w4.cell? ⟨gb435, 2, none⟩ = some (.int .i64 a0_2) := (blk_cell BK435.out 2).trans rfl; have hcz5_3 : w4.cell? ⟨gb435, 3, none⟩ = some (.int .i64 a0_3) := (blk_cell BK435.out 3).trans rfl; have hfz5_0 := blk_frozen BK435.out 0; have hfz5_1 := blk_frozen BK435.out 1; have hfz5_2 := blk_frozen BK435.out 2; have hfz5_3 := blk_frozen BK435.out 3))
    go_ret
    exact ⟨by first | rfl | (simp [errW_none, errW_some] <;> rfl) | (simp [*, errW_none, errW_some] <;> rfl), by repeat (first | (with_reducible first | exact HB.out | apply below_alloc | apply pw_below_drewN | apply below_drew1 | refine below_set ?_ GE435.out) | exact HB.out)⟩
  · rw [if_neg c3] at H
    have c3b0 : decide (a0_0 ≤ a1) = false := decide_eq_false c3
    clear c3
    obtain rfl := Option.some.inj H
    go_enter Try.func149, Try.ntmps149
    go_wp2_with (first | ((with_reducible refine gate_dst (N := 2) rfl ?_); refine box_event ?hg (N := 2) ?hd (cs := #[.int .i64 a0_0, .int .i64 a0_1, .int .i64 a0_2, .int .i64 a0_3]) (t := 129) ?hr ?_; (case hd => rfl); (case hg => rfl); (case hr => first | (go_simp; done) | (go_simp; rfl)); intro gb435 hg w6 hbox hb; have n0_ := Aside0.mk (below_step (by repeat (first | (with_reducible first | exact HB.out | apply below_alloc | apply pw_below_drewN | apply below_drew1) | exact HB.out)) hb); have n1_ := Aside0.mk (hbox); have n2_ := Aside0.mk ((by rw [hg]; exact (below_size (by repeat (first | (with_reducible first | exact HB.out | apply below_alloc | apply pw_below_drewN | apply below_drew1) | exact HB.out))) : w.heap.size ≤ gb435)); have n3_ := Aside0.mk ((by rw [hg]; exact (below_size (by repeat (first | (with_reducible first | exact HB.out | apply below_alloc | apply pw_below_drewN | apply below_drew1) | exact HB.out))) : w.heap.size ≤ gb435)); clear HB; have HB := n0_; have BK435 := n1_; have GW435 := n2_; have GE435 := n3_; clear n0_ n1_ n2_ n3_; clear hb hbox hg; have hcz7_0 : w6.cell? ⟨gb435, 0, none⟩ = some (.int .i64 a0_0) := (blk_cell BK435.out 0).trans rfl; have hcz7_1 : w6.cell? ⟨gb435, 1, none⟩ = some (.int .i64 a0_1) := (blk_cell BK435.out 1).trans rfl; have hcz7_2 : w6.cell? ⟨gb435, 2, none⟩ = some (.int .i64 a0_2) := (blk_cell BK435.out 2).trans rfl; have hcz7_3 : w6.cell? ⟨gb435, 3, none⟩ = some (.int .i64 a0_3) := (blk_cell BK435.out 3).trans rfl; have hfz7_0 := blk_frozen BK435.out 0; have hfz7_1 := blk_frozen BK435.out 1; have hfz7_2 := blk_frozen BK435.out 2; have hfz7_3 := blk_frozen BK435.out 3))
    go_ret
    exact ⟨by first | rfl | (simp [errW_none, errW_some] <;> rfl) | (simp [*, errW_none, errW_some] <;> rfl), by repeat (first | (with_reducible first | exact HB.out | apply below_alloc | apply pw_below_drewN | apply below_drew1 | refine below_set ?_ GE435.out) | exact HB.out)⟩
def curve_lowest.l0 : Nat → Int → Int → Int → Int → Option (Int × Int)
  | 0, _, _, _, _ => none
  | k + 1, x0, x1, x5, x6 => if x6 = 0 then (if x5 = 0 then (none) else (some (wrap64 (Int.tdiv x0 x5), wrap64 (Int.tdiv x1 x5)))) else (curve_lowest.l0 k x0 x1 x6 (Int.tmod x5 x6))
def curve_lowest.f (k : Nat) (a0 : Int) (a1 : Int) : Option (Int × Int) := curve_lowest.l0 k a0 a1 a0 a1
def curve_lowest.T4 : Bool × List (List Nat × List Nat) := (true, [([], []), ([], []), ([0, 1], [0, 1]), ([], []), ([], []), ([3, 4], [3, 4]), ([2, 5], [2, 5]), ([6, 0, 1, 2, 3, 4, 5, 6], [6])])
def curve_lowest.B4 : List Nat := [0, 0, 3, 0, 0, 24, 63, 127]
theorem curve_lowest.tab4 : rtab .any (opsOf Try.f144 4) = curve_lowest.T4 := by kernel_rfl
theorem curve_lowest.bits4 : waitsOk curve_lowest.T4.2 curve_lowest.B4 = true := by kernel_rfl
set_option maxHeartbeats 8000000 in
set_option maxRecDepth 100000 in
theorem curve_lowest.calls (k : Nat) (a0 : Int) (a1 : Int) (r1 : Int) (r2 : Int) (w : World) (h : curve_lowest.f k a0 a1 = some (r1, r2)) :
    Calls Try.prog 144 #[.int .i64 a0, .int .i64 a1] w fun e w' => e = .returned (.agg #[.int .i64 r1, .int .i64 r2]) ∧ Below w.heap.size w w' := by
  have hu42 := Try.underlying42
  have HB := Aside0.mk (Below.refl w.heap.size w)
  have H : (curve_lowest.l0 k a0 a1 a0 a1) = some (r1, r2) := h
  clear h
  have H' := Aside0.mk H
  clear H
  go_enter Try.func144, Try.ntmps144
  go_wp2_with (first | ((with_reducible refine gate_dst (N := 4) rfl ?_); refine box_event ?hg (N := 4) ?hd (cs := #[.int .i64 0, .int .i64 0]) (t := 42) ?hr ?_; (case hd => rfl); (case hg => rfl); (case hr => first | (go_simp; done) | (go_simp; rfl)); intro gb437 hg w3 hbox hb; have n0_ := Aside0.mk (below_step (by repeat (first | (with_reducible first | exact HB.out | apply below_alloc | apply pw_below_drewN | apply below_drew1) | exact HB.out)) hb); have n1_ := Aside0.mk (hbox); have n2_ := Aside0.mk ((by rw [hg]; exact (below_size (by repeat (first | (with_reducible first | exact HB.out | apply below_alloc | apply pw_below_drewN | apply below_drew1) | exact HB.out))) : w.heap.size ≤ gb437)); have n3_ := Aside0.mk ((by rw [hg]; exact (below_size (by repeat (first | (with_reducible first | exact HB.out | apply below_alloc | apply pw_below_drewN | apply below_drew1) | exact HB.out))) : w.heap.size ≤ gb437)); clear HB; have HB := n0_; have BK437 := n1_; have GW437 := n2_; have GE437 := n3_; clear n0_ n1_ n2_ n3_; clear hb hbox hg))
  go_loopg [5, 6] k (fun kq v5 v6 w' => ∃ (x5_1 : Int) (x6_1 : Int), v5 = .int .i64 x5_1 ∧ v6 = .int .i64 x6_1 ∧ Aside0 (curve_lowest.l0 kq a0 a1 x5_1 x6_1 = some (r1, r2)) ∧ Aside0 (kq ≤ k) ∧ Aside0 (w'.heap[gb437]? = some (.cells #[.int .i64 0, .int .i64 0] 42 (0, 0))) ∧ Aside0 (Below w.heap.size w w'))
  case atStart => exact ⟨(a0), (a1), (by first | rfl | (simp; done) | (simp [*]; done)), (by first | rfl | (simp; done) | (simp [*]; done)), H', ⟨Nat.le_refl _⟩, ⟨by (with_reducible repeat (first | refine blk_drewN ?_ _ | refine blk_drew ?_ | refine blk_alloc ?_ _)); exact BK437.out⟩, ⟨by repeat (first | (with_reducible first | exact HB.out | apply below_alloc | apply pw_below_drewN | apply below_drew1 | refine below_set ?_ GE437.out) | exact HB.out)⟩⟩
  case round =>
    clear H'
    try clear c1
    try clear p2
    obtain ⟨x5_1, x6_1, rfl, rfl, HA, HK1, BK437, HB⟩ := hrel
    cases gk with
    | zero => exact absurd HA.out (by simp [curve_lowest.l0])
    | succ k1 =>
      have H := HA.out
      clear HA
      simp only [curve_lowest.l0] at H
      by_cases c4 : x6_1 = 0
      · rw [if_pos c4] at H
        have c4b0 : (x6_1 == 0) = true := beq_iff_eq.mpr c4
        have c4b1 : (x6_1 != 0) = false := bne_eq_false_iff_eq.mpr c4
        clear c4
        by_cases c5 : x5_1 = 0
        · rw [if_pos c5] at H
          exact absurd H (by simp)
        · rw [if_neg c5] at H
          have c5b0 : (x5_1 == 0) = false := beq_eq_false_iff_ne.mpr c5
          have c5b1 : (x5_1 != 0) = true := bne_iff_ne.mpr c5
          simp only [Option.some.injEq, Prod.mk.injEq] at H
          obtain ⟨rfl, rfl⟩ := H
          try go_wp2
          have n0_ := Aside0.mk (blk_drew BK437.out)
          have n1_ := Aside0.mk (below_drew1 HB.out)
          clear BK437
          clear HB
          have BK437 := n0_
          have HB := n1_
          clear n0_ n1_
          refine start_ (n := 8) (S := fun w' => True) (ds := []) #[false, false, false, false, false, false, false, false] (by kernel_rfl) rfl rfl trivial (fun hHeld => ?_); refine with_tabW curve_lowest.tab4 curve_lowest.bits4 (fun HT_ HW_ => ?_)
          generalize wr.drew = w6 at BK437 HB hHeld ⊢
          refine pure_ (i := 0) (N := some 15) (v := ?_) (a' := ?_) #[true, false, false, false, false, false, false, false] rfl rfl (any_of HT_.out (by kernel_rfl)) (fun _ _ _ h => h) (Or.inl ⟨by rfl, ?_⟩) ?_ ?_
          rotate_left
          · intro w'
            go_simp
            with_reducible rfl
          rotate_left
          · simp only [Act.put, List.setIfInBounds_toArray, List.set_cons_zero, List.set_cons_succ, i64_w, i32_w]
            rfl
          refine pure_ (i := 1) (N := some 16) (v := ?_) (a' := ?_) #[true, true, false, false, false, false, false, false] rfl rfl (any_of HT_.out (by kernel_rfl)) (fun _ _ _ h => h) (Or.inl ⟨by rfl, ?_⟩) ?_ ?_
          rotate_left
          · intro w'
            go_simp
            with_reducible rfl
          rotate_left
          · simp only [Act.put, List.setIfInBounds_toArray, List.set_cons_zero, List.set_cons_succ, i64_w, i32_w]
            rfl
          refine pure_ (i := 2) (N := some 17) (v := ?_) (a' := ?_) #[true, true, true, false, false, false, false, false] rfl rfl (any_of HT_.out (by kernel_rfl)) (fun _ _ _ h => h) (Or.inl ⟨by rfl, ?_⟩) ?_ ?_
          rotate_left
          · intro w'
            go_simp
            with_reducible rfl
          rotate_left
          · simp only [Act.put, List.setIfInBounds_toArray, List.set_cons_zero, List.set_cons_succ, i64_w, i32_w]
            rfl
          refine pure_ (i := 3) (N := some 18) (v := ?_) (a' := ?_) #[true, true, true, true, false, false, false, false] rfl rfl (any_of HT_.out (by kernel_rfl)) (fun _ _ _ h => h) (Or.inl ⟨by rfl, ?_⟩) ?_ ?_
          rotate_left
          · intro w'
            go_simp
            with_reducible rfl
          rotate_left
          · simp only [Act.put, List.setIfInBounds_toArray, List.set_cons_zero, List.set_cons_succ, i64_w, i32_w]
            rfl
          refine pure_ (i := 4) (N := some 19) (v := ?_) (a' := ?_) #[true, true, true, true, true, false, false, false] rfl rfl (any_of HT_.out (by kernel_rfl)) (fun _ _ _ h => h) (Or.inl ⟨by rfl, ?_⟩) ?_ ?_
          rotate_left
          · intro w'
            go_simp
            with_reducible rfl
          rotate_left
          · simp only [Act.put, List.setIfInBounds_toArray, List.set_cons_zero, List.set_cons_succ, i64_w, i32_w]
            rfl
          refine pure_ (i := 5) (N := some 20) (v := ?_) (a' := ?_) #[true, true, true, true, true, true, false, false] rfl rfl (any_of HT_.out (by kernel_rfl)) (fun _ _ _ h => h) (Or.inl ⟨by rfl, ?_⟩) ?_ ?_
          rotate_left
          · intro w'
            go_simp
            with_reducible rfl
          rotate_left
          · simp only [Act.put, List.setIfInBounds_toArray, List.set_cons_zero, List.set_cons_succ, i64_w, i32_w]
            rfl
          refine pure_ (i := 6) (N := some 21) (v := ?_) (a' := ?_) #[true, true, true, true, true, true, true, false] rfl rfl (any_of HT_.out (by kernel_rfl)) (fun _ _ _ h => h) (Or.inl ⟨by rfl, ?_⟩) ?_ ?_
          rotate_left
          · intro w'
            go_simp
            with_reducible rfl
          rotate_left
          · simp only [Act.put, List.setIfInBounds_toArray, List.set_cons_zero, List.set_cons_succ, i64_w, i32_w]
            rfl
          refine one_ (i := 7) (N := none) #[true, true, true, true, true, true, true, true] rfl rfl (one_of HT_.out (by kernel_rfl)) (by decide) (fun K hK => ?_)
          have hs7 : w6.cell? ⟨gb437, 0, none⟩ = some (.int .i64 0) := (blk_cell BK437.out 0).trans rfl
          have hfs7 := blk_frozen BK437.out 0
          have hs8 : w6.cell? ⟨gb437, 1, none⟩ = some (.int .i64 0) := (blk_cell BK437.out 1).trans rfl
          have hfs8 := blk_frozen BK437.out 1
          refine skip_ (w1 := ?_) (by rfl) rfl ?_ ?_
          rotate_left
          · go_simp
            rfl
          refine hK.out _ _ trivial (fun hHeld => ?_)
          clear hK K
          refine done_ (done_of HT_.out (by kernel_rfl)) ?_
          try go_wp2
          refine bodyPost_ret (results_cell_row rfl _ _ gb437 42 #[.int .i64 (wrap64 (Int.tdiv a0 x5_1)), .int .i64 (wrap64 (Int.tdiv a1 x5_1))] (0, 0) _ rfl (by (with_reducible repeat (first | refine blk_drewN ?_ _ | refine blk_drew ?_ | refine blk_alloc ?_ _)); refine blk_put (cs := #[.int .i64 (wrap64 (Int.tdiv a0 x5_1)), .int .i64 0]) ?_ 1 _ rfl; (with_reducible repeat (first | refine blk_drewN ?_ _ | refine blk_drew ?_ | refine blk_alloc ?_ _)); refine blk_put (cs := #[.int .i64 0, .int .i64 0]) ?_ 0 _ rfl; (with_reducible repeat (first | refine blk_drewN ?_ _ | refine blk_drew ?_ | refine blk_alloc ?_ _)); exact BK437.out) Try.underlying42 rfl (by kernel_rfl)) rfl ?_
          exact ⟨by first | rfl | (simp [errW_none, errW_some] <;> rfl) | (simp [*, errW_none, errW_some] <;> rfl), by repeat (first | (with_reducible first | exact HB.out | apply below_alloc | apply pw_below_drewN | apply below_drew1 | refine below_set ?_ GE437.out) | exact HB.out)⟩
      · rw [if_neg c4] at H
        have c4b0 : (x6_1 == 0) = false := beq_eq_false_iff_ne.mpr c4
        have c4b1 : (x6_1 != 0) = true := bne_iff_ne.mpr c4
        have H' := Aside0.mk H
        clear H
        try go_wp2
        have n0_ := Aside0.mk (blk_drew BK437.out)
        have n1_ := Aside0.mk (below_drew1 HB.out)
        clear BK437
        clear HB
        have BK437 := n0_
        have HB := n1_
        clear n0_ n1_
        refine start_ (n := 6) (S := fun w' => True) (ds := []) #[false, false, false, false, false, false] (by kernel_rfl) rfl rfl trivial (fun hHeld => ?_)
        generalize wr.drew = w9 at BK437 HB hHeld ⊢
        refine pure_ (i := 0) (N := some 11) (v := ?_) (a' := ?_) #[true, false, false, false, false, false] rfl rfl (by kernel_rfl) (fun _ _ _ h => h) (Or.inl ⟨by rfl, ?_⟩) ?_ ?_
        rotate_left
        · intro w'
          go_simp
          with_reducible rfl
        rotate_left
        · simp only [Act.put, List.setIfInBounds_toArray, List.set_cons_zero, List.set_cons_succ, i64_w, i32_w]
          rfl
        refine pure_ (i := 1) (N := some 12) (v := ?_) (a' := ?_) #[true, true, false, false, false, false] rfl rfl (by kernel_rfl) (fun _ _ _ h => h) (Or.inl ⟨by rfl, ?_⟩) ?_ ?_
        rotate_left
        · intro w'
          go_simp
          with_reducible rfl
        rotate_left
        · simp only [Act.put, List.setIfInBounds_toArray, List.set_cons_zero, List.set_cons_succ, i64_w, i32_w]
          rfl
        refine pure_ (i := 2) (N := some 13) (v := ?_) (a' := ?_) #[true, true, true, false, false, false] rfl rfl (by kernel_rfl) (fun _ _ _ h => h) (Or.inl ⟨by rfl, ?_⟩) ?_ ?_
        rotate_left
        · intro w'
          go_simp
          with_reducible rfl
        rotate_left
        · simp only [Act.put, List.setIfInBounds_toArray, List.set_cons_zero, List.set_cons_succ, i64_w, i32_w]
          rfl
        refine pure_ (i := 3) (N := some 14) (v := ?_) (a' := ?_) #[true, true, true, true, false, false] rfl rfl (by kernel_rfl) (fun _ _ _ h => h) (Or.inl ⟨by rfl, ?_⟩) ?_ ?_
        rotate_left
        · intro w'
          go_simp
          with_reducible rfl
        rotate_left
        · simp only [Act.put, List.setIfInBounds_toArray, List.set_cons_zero, List.set_cons_succ, i64_w, i32_w]
          rfl
        refine pure_ (i := 4) (N := some 5) (v := ?_) (a' := ?_) #[true, true, true, true, true, false] rfl rfl (by kernel_rfl) (fun _ _ _ h => h) (Or.inl ⟨by rfl, ?_⟩) ?_ ?_
        rotate_left
        · intro w'
          go_simp
          with_reducible rfl
        rotate_left
        · simp only [Act.put, List.setIfInBounds_toArray, List.set_cons_zero, List.set_cons_succ, i64_w, i32_w]
          rfl
        refine pure_ (i := 5) (N := some 6) (v := ?_) (a' := ?_) #[true, true, true, true, true, true] rfl rfl (by kernel_rfl) (fun _ _ _ h => h) (Or.inl ⟨by rfl, ?_⟩) ?_ ?_
        rotate_left
        · intro w'
          go_simp
          with_reducible rfl
        rotate_left
        · simp only [Act.put, List.setIfInBounds_toArray, List.set_cons_zero, List.set_cons_succ, i64_w, i32_w]
          rfl
        refine done_ (by kernel_rfl) ?_
        try go_wp2
        go_roundg k1
        case measure => have := HK1.out; omega
        case rel => exact ⟨(x6_1), (Int.tmod x5_1 x6_1), (by first | rfl | (simp; done) | (simp [*]; done)), (by first | rfl | (simp; done) | (simp [*]; done)), H', ⟨by have := HK1.out; omega⟩, ⟨by (with_reducible repeat (first | refine blk_drewN ?_ _ | refine blk_drew ?_ | refine blk_alloc ?_ _)); exact BK437.out⟩, ⟨by repeat (first | (with_reducible first | exact HB.out | apply below_alloc | apply pw_below_drewN | apply below_drew1 | refine below_set ?_ GE437.out) | exact HB.out)⟩⟩
def curve_line_wide.f (a0_0 : Int) (a0_1 : Int) (a0_2 : Int) (a0_3 : Int) : Option (Int) := some (wrap64 (a0_2 - a0_0))
set_option maxHeartbeats 8000000 in
set_option maxRecDepth 100000 in
theorem curve_line_wide.calls (a0_0 : Int) (a0_1 : Int) (a0_2 : Int) (a0_3 : Int) (r : Int) (w : World) (h : curve_line_wide.f a0_0 a0_1 a0_2 a0_3 = some r) :
    Calls Try.prog 145 #[.agg #[.int .i64 a0_0, .int .i64 a0_1, .int .i64 a0_2, .int .i64 a0_3]] w fun e w' => e = .returned (.int .i64 r) ∧ Below w.heap.size w w' := by
  have hu129 := Try.underlying129
  have HB := Aside0.mk (Below.refl w.heap.size w)
  have H : (some (wrap64 (a0_2 - a0_0))) = some r := h
  clear h
  obtain rfl := Option.some.inj H
  go_enter Try.func145, Try.ntmps145
  go_wp2_with (first | ((with_reducible refine gate_dst (N := 1) rfl ?_); refine box_event ?hg (N := 1) ?hd (cs := #[.int .i64 a0_0, .int .i64 a0_1, .int .i64 a0_2, .int .i64 a0_3]) (t := 129) ?hr ?_; (case hd => rfl); (case hg => rfl); (case hr => first | (go_simp; done) | (go_simp; rfl)); intro gb438 hg w2 hbox hb; have n0_ := Aside0.mk (below_step (by repeat (first | (with_reducible first | exact HB.out | apply below_alloc | apply pw_below_drewN | apply below_drew1) | exact HB.out)) hb); have n1_ := Aside0.mk (hbox); have n2_ := Aside0.mk ((by rw [hg]; exact (below_size (by repeat (first | (with_reducible first | exact HB.out | apply below_alloc | apply pw_below_drewN | apply below_drew1) | exact HB.out))) : w.heap.size ≤ gb438)); have n3_ := Aside0.mk ((by rw [hg]; exact (below_size (by repeat (first | (with_reducible first | exact HB.out | apply below_alloc | apply pw_below_drewN | apply below_drew1) | exact HB.out))) : w.heap.size ≤ gb438)); clear HB; have HB := n0_; have BK438 := n1_; have GW438 := n2_; have GE438 := n3_; clear n0_ n1_ n2_ n3_; clear hb hbox hg; have hcz3_0 : w2.cell? ⟨gb438, 0, none⟩ = some (.int .i64 a0_0) := (blk_cell BK438.out 0).trans rfl; have hcz3_1 : w2.cell? ⟨gb438, 1, none⟩ = some (.int .i64 a0_1) := (blk_cell BK438.out 1).trans rfl; have hcz3_2 : w2.cell? ⟨gb438, 2, none⟩ = some (.int .i64 a0_2) := (blk_cell BK438.out 2).trans rfl; have hcz3_3 : w2.cell? ⟨gb438, 3, none⟩ = some (.int .i64 a0_3) := (blk_cell BK438.out 3).trans rfl; have hfz3_0 := blk_frozen BK438.out 0; have hfz3_1 := blk_frozen BK438.out 1; have hfz3_2 := blk_frozen BK438.out 2; have hfz3_3 := blk_frozen BK438.out 3))
  go_ret
  exact ⟨by first | rfl | (simp [errW_none, errW_some] <;> rfl) | (simp [*, errW_none, errW_some] <;> rfl), by repeat (first | (with_reducible first | exact HB.out | apply below_alloc | apply pw_below_drewN | apply below_drew1 | refine below_set ?_ GE438.out) | exact HB.out)⟩
def curve_line_high.f (a0_0 : Int) (a0_1 : Int) (a0_2 : Int) (a0_3 : Int) : Option (Int) := some (wrap64 (a0_3 - a0_1))
set_option maxHeartbeats 8000000 in
set_option maxRecDepth 100000 in
theorem curve_line_high.calls (a0_0 : Int) (a0_1 : Int) (a0_2 : Int) (a0_3 : Int) (r : Int) (w : World) (h : curve_line_high.f a0_0 a0_1 a0_2 a0_3 = some r) :
    Calls Try.prog 150 #[.agg #[.int .i64 a0_0, .int .i64 a0_1, .int .i64 a0_2, .int .i64 a0_3]] w fun e w' => e = .returned (.int .i64 r) ∧ Below w.heap.size w w' := by
  have hu129 := Try.underlying129
  have HB := Aside0.mk (Below.refl w.heap.size w)
  have H : (some (wrap64 (a0_3 - a0_1))) = some r := h
  clear h
  obtain rfl := Option.some.inj H
  go_enter Try.func150, Try.ntmps150
  go_wp2_with (first | ((with_reducible refine gate_dst (N := 1) rfl ?_); refine box_event ?hg (N := 1) ?hd (cs := #[.int .i64 a0_0, .int .i64 a0_1, .int .i64 a0_2, .int .i64 a0_3]) (t := 129) ?hr ?_; (case hd => rfl); (case hg => rfl); (case hr => first | (go_simp; done) | (go_simp; rfl)); intro gb439 hg w2 hbox hb; have n0_ := Aside0.mk (below_step (by repeat (first | (with_reducible first | exact HB.out | apply below_alloc | apply pw_below_drewN | apply below_drew1) | exact HB.out)) hb); have n1_ := Aside0.mk (hbox); have n2_ := Aside0.mk ((by rw [hg]; exact (below_size (by repeat (first | (with_reducible first | exact HB.out | apply below_alloc | apply pw_below_drewN | apply below_drew1) | exact HB.out))) : w.heap.size ≤ gb439)); have n3_ := Aside0.mk ((by rw [hg]; exact (below_size (by repeat (first | (with_reducible first | exact HB.out | apply below_alloc | apply pw_below_drewN | apply below_drew1) | exact HB.out))) : w.heap.size ≤ gb439)); clear HB; have HB := n0_; have BK439 := n1_; have GW439 := n2_; have GE439 := n3_; clear n0_ n1_ n2_ n3_; clear hb hbox hg; have hcz3_0 : w2.cell? ⟨gb439, 0, none⟩ = some (.int .i64 a0_0) := (blk_cell BK439.out 0).trans rfl; have hcz3_1 : w2.cell? ⟨gb439, 1, none⟩ = some (.int .i64 a0_1) := (blk_cell BK439.out 1).trans rfl; have hcz3_2 : w2.cell? ⟨gb439, 2, none⟩ = some (.int .i64 a0_2) := (blk_cell BK439.out 2).trans rfl; have hcz3_3 : w2.cell? ⟨gb439, 3, none⟩ = some (.int .i64 a0_3) := (blk_cell BK439.out 3).trans rfl; have hfz3_0 := blk_frozen BK439.out 0; have hfz3_1 := blk_frozen BK439.out 1; have hfz3_2 := blk_frozen BK439.out 2; have hfz3_3 := blk_frozen BK439.out 3))
  go_ret
  exact ⟨by first | rfl | (simp [errW_none, errW_some] <;> rfl) | (simp [*, errW_none, errW_some] <;> rfl), by repeat (first | (with_reducible first | exact HB.out | apply below_alloc | apply pw_below_drewN | apply below_drew1 | refine below_set ?_ GE439.out) | exact HB.out)⟩
def curve_line_over.f (a0_0 : Int) (a0_1 : Int) (a0_2 : Int) (a0_3 : Int) (a1 : Int) : Option (Int) := (curve_line_high.f a0_0 a0_1 a0_2 a0_3).bind fun t441 => (some (wrap64 ((wrap64 (a1 - a0_0)) * t441)))
def curve_line_over.T1 : Bool × List (List Nat × List Nat) := (true, [([], []), ([], []), ([1], [1]), ([2], [2]), ([0, 3], [0, 3]), ([], []), ([5], [5]), ([4, 6], [4, 6]), ([7, 6, 0, 1, 2, 3, 4, 5, 6, 7], [7])])
def curve_line_over.B1 : List Nat := [0, 0, 2, 6, 15, 0, 32, 127, 255]
theorem curve_line_over.tab1 : rtab .any (opsOf Try.f146 1) = curve_line_over.T1 := by kernel_rfl
theorem curve_line_over.bits1 : waitsOk curve_line_over.T1.2 curve_line_over.B1 = true := by kernel_rfl
set_option maxHeartbeats 8000000 in
set_option maxRecDepth 100000 in
theorem curve_line_over.calls (a0_0 : Int) (a0_1 : Int) (a0_2 : Int) (a0_3 : Int) (a1 : Int) (r : Int) (w : World) (h : curve_line_over.f a0_0 a0_1 a0_2 a0_3 a1 = some r) :
    Calls Try.prog 146 #[.agg #[.int .i64 a0_0, .int .i64 a0_1, .int .i64 a0_2, .int .i64 a0_3], .int .i64 a1] w fun e w' => e = .returned (.int .i64 r) ∧ Below w.heap.size w w' := by
  have hu129 := Try.underlying129
  have HB := Aside0.mk (Below.refl w.heap.size w)
  have H : ((curve_line_high.f a0_0 a0_1 a0_2 a0_3).bind fun t441 => (some (wrap64 ((wrap64 (a1 - a0_0)) * t441)))) = some r := h
  clear h
  replace H := Option.bind_eq_some_iff.mp H
  obtain ⟨t441, A30, H⟩ := H
  replace H : (some (wrap64 ((wrap64 (a1 - a0_0)) * t441))) = some r := H
  have A3 := Aside0.mk A30
  clear A30
  obtain rfl := Option.some.inj H
  go_enter Try.func146, Try.ntmps146
  try go_wp2_with (first | ((with_reducible refine gate_dst (N := 2) rfl ?_); refine box_event ?hg (N := 2) ?hd (cs := #[.int .i64 a0_0, .int .i64 a0_1, .int .i64 a0_2, .int .i64 a0_3]) (t := 129) ?hr ?_; (case hd => rfl); (case hg => rfl); (case hr => first | (go_simp; done) | (go_simp; rfl)); intro gb440 hg w4 hbox hb; have n0_ := Aside0.mk (below_step (by repeat (first | (with_reducible first | exact HB.out | apply below_alloc | apply pw_below_drewN | apply below_drew1) | exact HB.out)) hb); have n1_ := Aside0.mk (hbox); have n2_ := Aside0.mk ((by rw [hg]; exact (below_size (by repeat (first | (with_reducible first | exact HB.out | apply below_alloc | apply pw_below_drewN | apply below_drew1) | exact HB.out))) : w.heap.size ≤ gb440)); have n3_ := Aside0.mk ((by rw [hg]; exact (below_size (by repeat (first | (with_reducible first | exact HB.out | apply below_alloc | apply pw_below_drewN | apply below_drew1) | exact HB.out))) : w.heap.size ≤ gb440)); clear HB; have HB := n0_; have BK440 := n1_; have GW440 := n2_; have GE440 := n3_; clear n0_ n1_ n2_ n3_; clear hb hbox hg))
  have n0_ := Aside0.mk (blk_drew BK440.out)
  have n1_ := Aside0.mk (below_drew1 HB.out)
  clear BK440
  clear HB
  have BK440 := n0_
  have HB := n1_
  clear n0_ n1_
  refine start_ (n := 9) (S := fun w' => w'.cell? ⟨gb440, 0, none⟩ = some (.int .i64 a0_0) ∧ w'.cell? ⟨gb440, 1, none⟩ = some (.int .i64 a0_1) ∧ w'.cell? ⟨gb440, 2, none⟩ = some (.int .i64 a0_2) ∧ w'.cell? ⟨gb440, 3, none⟩ = some (.int .i64 a0_3)) (ds := []) #[false, false, false, false, false, false, false, false, false] (by kernel_rfl) rfl rfl ⟨(blk_cell BK440.out 0).trans rfl, (blk_cell BK440.out 1).trans rfl, (blk_cell BK440.out 2).trans rfl, (blk_cell BK440.out 3).trans rfl⟩ (fun hHeld => ?_); refine with_tabW curve_line_over.tab1 curve_line_over.bits1 (fun HT_ HW_ => ?_)
  generalize w4.drew = w5 at BK440 HB hHeld ⊢
  refine pure_ (i := 0) (N := some 5) (v := ?_) (a' := ?_) #[true, false, false, false, false, false, false, false, false] rfl rfl (any_of HT_.out (by kernel_rfl)) (fun _ _ _ h => h) (Or.inl ⟨by rfl, ?_⟩) ?_ ?_
  rotate_left
  · intro w'
    go_simp
    with_reducible rfl
  rotate_left
  · simp only [Act.put, List.setIfInBounds_toArray, List.set_cons_zero, List.set_cons_succ, i64_w, i32_w]
    rfl
  refine pure_ (i := 1) (N := some 6) (v := ?_) (a' := ?_) #[true, true, false, false, false, false, false, false, false] rfl rfl (any_of HT_.out (by kernel_rfl)) (fun _ _ _ h => h) (Or.inl ⟨by rfl, ?_⟩) ?_ ?_
  rotate_left
  · intro w'
    go_simp
    with_reducible rfl
  rotate_left
  · simp only [Act.put, List.setIfInBounds_toArray, List.set_cons_zero, List.set_cons_succ, i64_w, i32_w]
    rfl
  refine pure_ (i := 2) (N := some 7) (v := ?_) (a' := ?_) #[true, true, true, false, false, false, false, false, false] rfl rfl (any_of HT_.out (by kernel_rfl)) (fun _ _ _ h => h) (Or.inl ⟨by rfl, ?_⟩) ?_ ?_
  rotate_left
  · intro w'
    go_simp
    with_reducible rfl
  rotate_left
  · simp only [Act.put, List.setIfInBounds_toArray, List.set_cons_zero, List.set_cons_succ, i64_w, i32_w]
    rfl
  refine take_ (i := 3) (N := some 8) (v := ?_) (a' := ?_) #[true, true, true, true, false, false, false, false, false] rfl rfl (take_ofW HT_.out HW_.out (by kernel_rfl)) (fun _ _ _ h => h) (Or.inl ⟨by rfl, ?_⟩) hHeld ?_ ?_
  rotate_left
  · rintro w' ⟨s0, s1, s2, s3⟩
    go_simp
    with_reducible rfl
  rotate_left
  · simp only [Act.put, List.setIfInBounds_toArray, List.set_cons_zero, List.set_cons_succ, i64_w, i32_w]
    rfl
  refine pure_ (i := 4) (N := some 9) (v := ?_) (a' := ?_) #[true, true, true, true, true, false, false, false, false] rfl rfl (any_of HT_.out (by kernel_rfl)) (fun _ _ _ h => h) (Or.inl ⟨by rfl, ?_⟩) ?_ ?_
  rotate_left
  · intro w'
    go_simp
    with_reducible rfl
  rotate_left
  · simp only [Act.put, List.setIfInBounds_toArray, List.set_cons_zero, List.set_cons_succ, i64_w, i32_w]
    rfl
  refine take_ (i := 5) (N := some 10) (v := ?_) (a' := ?_) #[true, true, true, true, true, true, false, false, false] rfl rfl (take_ofW HT_.out HW_.out (by kernel_rfl)) (fun _ _ _ h => h) (Or.inl ⟨by rfl, ?_⟩) hHeld ?_ ?_
  rotate_left
  · rintro w' ⟨s0, s1, s2, s3⟩
    go_simp
    with_reducible rfl
  rotate_left
  · simp only [Act.put, List.setIfInBounds_toArray, List.set_cons_zero, List.set_cons_succ, i64_w, i32_w]
    rfl
  refine one_ (i := 6) (N := some 11) #[true, true, true, true, true, true, true, false, false] rfl rfl (one_of HT_.out (by kernel_rfl)) (by decide) (fun K hK => ?_)
  refine goes_ Try.func150 (by kernel_rfl) rfl #[.agg #[.int .i64 a0_0, .int .i64 a0_1, .int .i64 a0_2, .int .i64 a0_3]] (by rfl) rfl rfl (by (try simp only [List.map_toArray, List.map_cons, List.map_nil]); first | done | rfl | (simp only [List.length_drop, List.length_take]; rfl)) ?_
  with_reducible refine (curve_line_high.calls a0_0 a0_1 a0_2 a0_3 t441 _ A3.out).mono ?_
  rintro e w6 ⟨rfl, hb⟩
  refine ⟨_, rfl, ?_⟩
  have n0_ := Aside0.mk (blk_below (g := gb440) (o := .cells #[.int .i64 a0_0, .int .i64 a0_1, .int .i64 a0_2, .int .i64 a0_3] 129 (0, 0)) (by (with_reducible repeat (first | refine blk_drewN ?_ _ | refine blk_drew ?_ | refine blk_alloc ?_ _)); exact BK440.out) hb)
  have n1_ := Aside0.mk (below_step (by repeat (first | (with_reducible first | exact HB.out | apply below_alloc | apply pw_below_drewN | apply below_drew1 | refine below_set ?_ GE440.out) | exact HB.out)) hb)
  clear BK440
  clear HB
  have BK440 := n0_
  have HB := n1_
  clear n0_ n1_
  (try clear hb)
  (try clear hb2)
  (try clear hk)
  (try clear hi)
  refine hK.out _ _ ⟨(blk_cell BK440.out 0).trans rfl, (blk_cell BK440.out 1).trans rfl, (blk_cell BK440.out 2).trans rfl, (blk_cell BK440.out 3).trans rfl⟩ (fun hHeld => ?_)
  clear hK K
  refine norm_ (a' := ?_) ?_ ?_
  rotate_left
  · show Act.put _ (some 11) _ = _
    simp only [Act.put, List.setIfInBounds_toArray, List.set_cons_zero, List.set_cons_succ, i64_w, i32_w]
    rfl
  refine pure_ (i := 7) (N := some 12) (v := ?_) (a' := ?_) #[true, true, true, true, true, true, true, true, false] rfl rfl (any_of HT_.out (by kernel_rfl)) (fun _ _ _ h => h) (Or.inl ⟨by rfl, ?_⟩) ?_ ?_
  rotate_left
  · intro w'
    go_simp
    with_reducible rfl
  rotate_left
  · simp only [Act.put, List.setIfInBounds_toArray, List.set_cons_zero, List.set_cons_succ, i64_w, i32_w]
    rfl
  refine pure_ (i := 8) (N := some 4) (v := ?_) (a' := ?_) #[true, true, true, true, true, true, true, true, true] rfl rfl (any_of HT_.out (by kernel_rfl)) (fun _ _ _ h => h) (Or.inl ⟨by rfl, ?_⟩) ?_ ?_
  rotate_left
  · intro w'
    go_simp
    with_reducible rfl
  rotate_left
  · simp only [Act.put, List.setIfInBounds_toArray, List.set_cons_zero, List.set_cons_succ, i64_w, i32_w]
    rfl
  refine done_ (done_of HT_.out (by kernel_rfl)) ?_
  try go_wp2
  go_ret
  exact ⟨by first | rfl | (simp [errW_none, errW_some] <;> rfl) | (simp [*, errW_none, errW_some] <;> rfl), by repeat (first | (with_reducible first | exact HB.out | apply below_alloc | apply pw_below_drewN | apply below_drew1 | refine below_set ?_ GE440.out) | exact HB.out)⟩
def curve_line_exact.f (k : Nat) (a0_0 : Int) (a0_1 : Int) (a0_2 : Int) (a0_3 : Int) (a1 : Int) : Option (Int × Int) := (curve_line_wide.f a0_0 a0_1 a0_2 a0_3).bind fun t444 => ((curve_line_over.f a0_0 a0_1 a0_2 a0_3 a1).bind fun t445 => ((curve_line_wide.f a0_0 a0_1 a0_2 a0_3).bind fun t446 => ((curve_lowest.f k (wrap64 ((wrap64 (a0_1 * t444)) + t445)) t446).bind fun bt447 => (some (bt447.1, bt447.2)))))
def curve_line_exact.T1 : Bool × List (List Nat × List Nat) := (true, [([], []), ([0], [0]), ([1], [1]), ([], []), ([3], [3]), ([2, 4], [2, 4]), ([], []), ([], []), ([6, 7, 4], [6, 7]), ([5, 8], [5, 8]), ([], []), ([10, 8], [10]), ([9, 11, 11], [9, 11]), ([12, 12, 0, 1, 2, 3, 4, 5, 6, 7, 8, 9, 10, 11, 12], [12])])
def curve_line_exact.B1 : List Nat := [0, 1, 3, 0, 8, 31, 0, 0, 216, 511, 0, 1496, 4095, 8191]
theorem curve_line_exact.tab1 : rtab .any (opsOf Try.f112 1) = curve_line_exact.T1 := by kernel_rfl
theorem curve_line_exact.bits1 : waitsOk curve_line_exact.T1.2 curve_line_exact.B1 = true := by kernel_rfl
set_option maxHeartbeats 8000000 in
set_option maxRecDepth 100000 in
theorem curve_line_exact.calls (k : Nat) (a0_0 : Int) (a0_1 : Int) (a0_2 : Int) (a0_3 : Int) (a1 : Int) (r1 : Int) (r2 : Int) (w : World) (h : curve_line_exact.f k a0_0 a0_1 a0_2 a0_3 a1 = some (r1, r2)) :
    Calls Try.prog 112 #[.agg #[.int .i64 a0_0, .int .i64 a0_1, .int .i64 a0_2, .int .i64 a0_3], .int .i64 a1] w fun e w' => e = .returned (.agg #[.int .i64 r1, .int .i64 r2]) ∧ Below w.heap.size w w' := by
  have hu129 := Try.underlying129
  have hu42 := Try.underlying42
  have HB := Aside0.mk (Below.refl w.heap.size w)
  have H : ((curve_line_wide.f a0_0 a0_1 a0_2 a0_3).bind fun t444 => ((curve_line_over.f a0_0 a0_1 a0_2 a0_3 a1).bind fun t445 => ((curve_line_wide.f a0_0 a0_1 a0_2 a0_3).bind fun t446 => ((curve_lowest.f k (wrap64 ((wrap64 (a0_1 * t444)) + t445)) t446).bind fun bt447 => (some (bt447.1, bt447.2)))))) = some (r1, r2) := h
  clear h
  replace H := Option.bind_eq_some_iff.mp H
  obtain ⟨t444, A30, H⟩ := H
  replace H : ((curve_line_over.f a0_0 a0_1 a0_2 a0_3 a1).bind fun t445 => ((curve_line_wide.f a0_0 a0_1 a0_2 a0_3).bind fun t446 => ((curve_lowest.f k (wrap64 ((wrap64 (a0_1 * t444)) + t445)) t446).bind fun bt447 => (some (bt447.1, bt447.2))))) = some (r1, r2) := H
  have A3 := Aside0.mk A30
  clear A30
  replace H := Option.bind_eq_some_iff.mp H
  obtain ⟨t445, A40, H⟩ := H
  replace H : ((curve_line_wide.f a0_0 a0_1 a0_2 a0_3).bind fun t446 => ((curve_lowest.f k (wrap64 ((wrap64 (a0_1 * t444)) + t445)) t446).bind fun bt447 => (some (bt447.1, bt447.2)))) = some (r1, r2) := H
  have A4 := Aside0.mk A40
  clear A40
  replace H := Option.bind_eq_some_iff.mp H
  obtain ⟨t446, A50, H⟩ := H
  replace H : ((curve_lowest.f k (wrap64 ((wrap64 (a0_1 * t444)) + t445)) t446).bind fun bt447 => (some (bt447.1, bt447.2))) = some (r1, r2) := H
  have A5 := Aside0.mk A50
  clear A50
  replace H := Option.bind_eq_some_iff.mp H
  obtain ⟨⟨t447, t448⟩, A60, H⟩ := H
  replace H : (some (t447, t448)) = some (r1, r2) := H
  have A6 := Aside0.mk A60
  clear A60
  simp only [Option.some.injEq, Prod.mk.injEq] at H
  obtain ⟨rfl, rfl⟩ := H
  go_enter Try.func112, Try.ntmps112
  try go_wp2_with (first | ((with_reducible refine gate_dst (N := 2) rfl ?_); refine box_event ?hg (N := 2) ?hd (cs := #[.int .i64 a0_0, .int .i64 a0_1, .int .i64 a0_2, .int .i64 a0_3]) (t := 129) ?hr ?_; (case hd => rfl); (case hg => rfl); (case hr => first | (go_simp; done) | (go_simp; rfl)); intro gb442 hg w7 hbox hb; have n0_ := Aside0.mk (below_step (by repeat (first | (with_reducible first | exact HB.out | apply below_alloc | apply pw_below_drewN | apply below_drew1) | exact HB.out)) hb); have n1_ := Aside0.mk (hbox); have n2_ := Aside0.mk ((by rw [hg]; exact (below_size (by repeat (first | (with_reducible first | exact HB.out | apply below_alloc | apply pw_below_drewN | apply below_drew1) | exact HB.out))) : w.heap.size ≤ gb442)); have n3_ := Aside0.mk ((by rw [hg]; exact (below_size (by repeat (first | (with_reducible first | exact HB.out | apply below_alloc | apply pw_below_drewN | apply below_drew1) | exact HB.out))) : w.heap.size ≤ gb442)); clear HB; have HB := n0_; have BK442 := n1_; have GW442 := n2_; have GE442 := n3_; clear n0_ n1_ n2_ n3_; clear hb hbox hg) | ((with_reducible refine gate_dst (N := 4) rfl ?_); refine box_event ?hg (N := 4) ?hd (cs := #[.int .i64 0, .int .i64 0]) (t := 42) ?hr ?_; (case hd => rfl); (case hg => rfl); (case hr => first | (go_simp; done) | (go_simp; rfl)); intro gb443 hg w8 hbox hb; have n0_ := Aside0.mk (blk_below (g := gb442) (o := .cells #[.int .i64 a0_0, .int .i64 a0_1, .int .i64 a0_2, .int .i64 a0_3] 129 (0, 0)) (by (with_reducible repeat (first | refine blk_drewN ?_ _ | refine blk_drew ?_ | refine blk_alloc ?_ _)); exact BK442.out) hb); have n1_ := Aside0.mk (below_step (by repeat (first | (with_reducible first | exact HB.out | apply below_alloc | apply pw_below_drewN | apply below_drew1 | refine below_set ?_ GE442.out) | exact HB.out)) hb); have n2_ := Aside0.mk (hbox); have n3_ := Aside0.mk ((by rw [hg]; exact (below_size (by repeat (first | (with_reducible first | exact HB.out | apply below_alloc | apply pw_below_drewN | apply below_drew1 | refine below_set ?_ GE442.out) | exact HB.out))) : w.heap.size ≤ gb443)); have n4_ := Aside0.mk ((by rw [hg]; exact (below_size (by repeat (first | (with_reducible first | exact HB.out | apply below_alloc | apply pw_below_drewN | apply below_drew1 | refine below_set ?_ GE442.out) | exact HB.out))) : w.heap.size ≤ gb443)); have n5_ := Aside0.mk ((by rw [hg]; exact Nat.ne_of_lt (blk_lt (g := gb442) (o := .cells #[.int .i64 a0_0, .int .i64 a0_1, .int .i64 a0_2, .int .i64 a0_3] 129 (0, 0)) (by (with_reducible repeat (first | refine blk_drewN ?_ _ | refine blk_drew ?_ | refine blk_alloc ?_ _)); exact BK442.out)) : gb442 ≠ gb443)); have n6_ := Aside0.mk ((by rw [hg]; exact Nat.ne_of_gt (blk_lt (g := gb442) (o := .cells #[.int .i64 a0_0, .int .i64 a0_1, .int .i64 a0_2, .int .i64 a0_3] 129 (0, 0)) (by (with_reducible repeat (first | refine blk_drewN ?_ _ | refine blk_drew ?_ | refine blk_alloc ?_ _)); exact BK442.out)) : gb443 ≠ gb442)); clear BK442; clear HB; have BK442 := n0_; have HB := n1_; have BK443 := n2_; have GW443 := n3_; have GE443 := n4_; have NB442_443 := n5_; have NB443_442 := n6_; clear n0_ n1_ n2_ n3_ n4_ n5_ n6_; clear hb hbox hg))
  have n0_ := Aside0.mk (blk_drew BK442.out)
  have n1_ := Aside0.mk (blk_drew BK443.out)
  have n2_ := Aside0.mk (below_drew1 HB.out)
  clear BK442
  clear BK443
  clear HB
  have BK442 := n0_
  have BK443 := n1_
  have HB := n2_
  clear n0_ n1_ n2_
  refine start_ (n := 14) (S := fun w' => w'.cell? ⟨gb442, 0, none⟩ = some (.int .i64 a0_0) ∧ w'.cell? ⟨gb442, 1, none⟩ = some (.int .i64 a0_1) ∧ w'.cell? ⟨gb442, 2, none⟩ = some (.int .i64 a0_2) ∧ w'.cell? ⟨gb442, 3, none⟩ = some (.int .i64 a0_3)) (ds := []) #[false, false, false, false, false, false, false, false, false, false, false, false, false, false] (by kernel_rfl) rfl rfl ⟨(blk_cell BK442.out 0).trans rfl, (blk_cell BK442.out 1).trans rfl, (blk_cell BK442.out 2).trans rfl, (blk_cell BK442.out 3).trans rfl⟩ (fun hHeld => ?_); refine with_tabW curve_line_exact.tab1 curve_line_exact.bits1 (fun HT_ HW_ => ?_)
  generalize w8.drew = w9 at BK442 BK443 HB hHeld ⊢
  refine pure_ (i := 0) (N := some 5) (v := ?_) (a' := ?_) #[true, false, false, false, false, false, false, false, false, false, false, false, false, false] rfl rfl (any_of HT_.out (by kernel_rfl)) (fun _ _ _ h => h) (Or.inl ⟨by rfl, ?_⟩) ?_ ?_
  rotate_left
  · intro w'
    go_simp
    with_reducible rfl
  rotate_left
  · simp only [Act.put, List.setIfInBounds_toArray, List.set_cons_zero, List.set_cons_succ, i64_w, i32_w]
    rfl
  refine pure_ (i := 1) (N := some 6) (v := ?_) (a' := ?_) #[true, true, false, false, false, false, false, false, false, false, false, false, false, false] rfl rfl (any_of HT_.out (by kernel_rfl)) (fun _ _ _ h => h) (Or.inl ⟨by rfl, ?_⟩) ?_ ?_
  rotate_left
  · intro w'
    go_simp
    with_reducible rfl
  rotate_left
  · simp only [Act.put, List.setIfInBounds_toArray, List.set_cons_zero, List.set_cons_succ, i64_w, i32_w]
    rfl
  refine pure_ (i := 7) (N := some 12) (v := ?_) (a' := ?_) #[true, true, false, false, false, false, false, true, false, false, false, false, false, false] rfl rfl (any_of HT_.out (by kernel_rfl)) (fun _ _ _ h => h) (Or.inl ⟨by rfl, ?_⟩) ?_ ?_
  rotate_left
  · intro w'
    go_simp
    with_reducible rfl
  rotate_left
  · simp only [Act.put, List.setIfInBounds_toArray, List.set_cons_zero, List.set_cons_succ, i64_w, i32_w]
    rfl
  refine take_ (i := 2) (N := some 7) (v := ?_) (a' := ?_) #[true, true, true, false, false, false, false, true, false, false, false, false, false, false] rfl rfl (take_ofW HT_.out HW_.out (by kernel_rfl)) (fun _ _ _ h => h) (Or.inl ⟨by rfl, ?_⟩) hHeld ?_ ?_
  rotate_left
  · rintro w' ⟨s0, s1, s2, s3⟩
    go_simp
    with_reducible rfl
  rotate_left
  · simp only [Act.put, List.setIfInBounds_toArray, List.set_cons_zero, List.set_cons_succ, i64_w, i32_w]
    rfl
  refine take_ (i := 3) (N := some 8) (v := ?_) (a' := ?_) #[true, true, true, true, false, false, false, true, false, false, false, false, false, false] rfl rfl (take_ofW HT_.out HW_.out (by kernel_rfl)) (fun _ _ _ h => h) (Or.inl ⟨by rfl, ?_⟩) hHeld ?_ ?_
  rotate_left
  · rintro w' ⟨s0, s1, s2, s3⟩
    go_simp
    with_reducible rfl
  rotate_left
  · simp only [Act.put, List.setIfInBounds_toArray, List.set_cons_zero, List.set_cons_succ, i64_w, i32_w]
    rfl
  refine take_ (i := 6) (N := some 11) (v := ?_) (a' := ?_) #[true, true, true, true, false, false, true, true, false, false, false, false, false, false] rfl rfl (take_ofW HT_.out HW_.out (by kernel_rfl)) (fun _ _ _ h => h) (Or.inl ⟨by rfl, ?_⟩) hHeld ?_ ?_
  rotate_left
  · rintro w' ⟨s0, s1, s2, s3⟩
    go_simp
    with_reducible rfl
  rotate_left
  · simp only [Act.put, List.setIfInBounds_toArray, List.set_cons_zero, List.set_cons_succ, i64_w, i32_w]
    rfl
  refine take_ (i := 10) (N := some 15) (v := ?_) (a' := ?_) #[true, true, true, true, false, false, true, true, false, false, true, false, false, false] rfl rfl (take_ofW HT_.out HW_.out (by kernel_rfl)) (fun _ _ _ h => h) (Or.inl ⟨by rfl, ?_⟩) hHeld ?_ ?_
  rotate_left
  · rintro w' ⟨s0, s1, s2, s3⟩
    go_simp
    with_reducible rfl
  rotate_left
  · simp only [Act.put, List.setIfInBounds_toArray, List.set_cons_zero, List.set_cons_succ, i64_w, i32_w]
    rfl
  refine one_ (i := 4) (N := some 9) #[true, true, true, true, true, false, true, true, false, false, true, false, false, false] rfl rfl (one_of HT_.out (by kernel_rfl)) (by decide) (fun K hK => ?_)
  refine goes_ Try.func145 (by kernel_rfl) rfl #[.agg #[.int .i64 a0_0, .int .i64 a0_1, .int .i64 a0_2, .int .i64 a0_3]] (by rfl) rfl rfl (by (try simp only [List.map_toArray, List.map_cons, List.map_nil]); first | done | rfl | (simp only [List.length_drop, List.length_take]; rfl)) ?_
  with_reducible refine (curve_line_wide.calls a0_0 a0_1 a0_2 a0_3 t444 _ A3.out).mono ?_
  rintro e w10 ⟨rfl, hb⟩
  refine ⟨_, rfl, ?_⟩
  have n0_ := Aside0.mk (blk_below (g := gb442) (o := .cells #[.int .i64 a0_0, .int .i64 a0_1, .int .i64 a0_2, .int .i64 a0_3] 129 (0, 0)) (by (with_reducible repeat (first | refine blk_drewN ?_ _ | refine blk_drew ?_ | refine blk_alloc ?_ _)); exact BK442.out) hb)
  have n1_ := Aside0.mk (blk_below (g := gb443) (o := .cells #[.int .i64 0, .int .i64 0] 42 (0, 0)) (by (with_reducible repeat (first | refine blk_drewN ?_ _ | refine blk_drew ?_ | refine blk_alloc ?_ _)); exact BK443.out) hb)
  have n2_ := Aside0.mk (below_step (by repeat (first | (with_reducible first | exact HB.out | apply below_alloc | apply pw_below_drewN | apply below_drew1 | refine below_set ?_ GE442.out | refine below_set ?_ GE443.out) | exact HB.out)) hb)
  clear BK442
  clear BK443
  clear HB
  have BK442 := n0_
  have BK443 := n1_
  have HB := n2_
  clear n0_ n1_ n2_
  (try clear hb)
  (try clear hb2)
  (try clear hk)
  (try clear hi)
  refine hK.out _ _ ⟨(blk_cell BK442.out 0).trans rfl, (blk_cell BK442.out 1).trans rfl, (blk_cell BK442.out 2).trans rfl, (blk_cell BK442.out 3).trans rfl⟩ (fun hHeld => ?_)
  clear hK K
  refine norm_ (a' := ?_) ?_ ?_
  rotate_left
  · show Act.put _ (some 9) _ = _
    simp only [Act.put, List.setIfInBounds_toArray, List.set_cons_zero, List.set_cons_succ, i64_w, i32_w]
    rfl
  refine pure_ (i := 5) (N := some 10) (v := ?_) (a' := ?_) #[true, true, true, true, true, true, true, true, false, false, true, false, false, false] rfl rfl (any_of HT_.out (by kernel_rfl)) (fun _ _ _ h => h) (Or.inl ⟨by rfl, ?_⟩) ?_ ?_
  rotate_left
  · intro w'
    go_simp
    with_reducible rfl
  rotate_left
  · simp only [Act.put, List.setIfInBounds_toArray, List.set_cons_zero, List.set_cons_succ, i64_w, i32_w]
    rfl
  refine one_ (i := 8) (N := some 13) #[true, true, true, true, true, true, true, true, true, false, true, false, false, false] rfl rfl (one_of HT_.out (by kernel_rfl)) (by decide) (fun K hK => ?_)
  refine goes_ Try.func146 (by kernel_rfl) rfl #[.agg #[.int .i64 a0_0, .int .i64 a0_1, .int .i64 a0_2, .int .i64 a0_3], .int .i64 a1] (by rfl) rfl rfl (by (try simp only [List.map_toArray, List.map_cons, List.map_nil]); first | done | rfl | (simp only [List.length_drop, List.length_take]; rfl)) ?_
  with_reducible refine (curve_line_over.calls a0_0 a0_1 a0_2 a0_3 a1 t445 _ A4.out).mono ?_
  rintro e w11 ⟨rfl, hb⟩
  refine ⟨_, rfl, ?_⟩
  have n0_ := Aside0.mk (blk_below (g := gb442) (o := .cells #[.int .i64 a0_0, .int .i64 a0_1, .int .i64 a0_2, .int .i64 a0_3] 129 (0, 0)) (by (with_reducible repeat (first | refine blk_drewN ?_ _ | refine blk_drew ?_ | refine blk_alloc ?_ _)); exact BK442.out) hb)
  have n1_ := Aside0.mk (blk_below (g := gb443) (o := .cells #[.int .i64 0, .int .i64 0] 42 (0, 0)) (by (with_reducible repeat (first | refine blk_drewN ?_ _ | refine blk_drew ?_ | refine blk_alloc ?_ _)); exact BK443.out) hb)
  have n2_ := Aside0.mk (below_step (by repeat (first | (with_reducible first | exact HB.out | apply below_alloc | apply pw_below_drewN | apply below_drew1 | refine below_set ?_ GE442.out | refine below_set ?_ GE443.out) | exact HB.out)) hb)
  clear BK442
  clear BK443
  clear HB
  have BK442 := n0_
  have BK443 := n1_
  have HB := n2_
  clear n0_ n1_ n2_
  (try clear hb)
  (try clear hb2)
  (try clear hk)
  (try clear hi)
  refine hK.out _ _ ⟨(blk_cell BK442.out 0).trans rfl, (blk_cell BK442.out 1).trans rfl, (blk_cell BK442.out 2).trans rfl, (blk_cell BK442.out 3).trans rfl⟩ (fun hHeld => ?_)
  clear hK K
  refine norm_ (a' := ?_) ?_ ?_
  rotate_left
  · show Act.put _ (some 13) _ = _
    simp only [Act.put, List.setIfInBounds_toArray, List.set_cons_zero, List.set_cons_succ, i64_w, i32_w]
    rfl
  refine pure_ (i := 9) (N := some 14) (v := ?_) (a' := ?_) #[true, true, true, true, true, true, true, true, true, true, true, false, false, false] rfl rfl (any_of HT_.out (by kernel_rfl)) (fun _ _ _ h => h) (Or.inl ⟨by rfl, ?_⟩) ?_ ?_
  rotate_left
  · intro w'
    go_simp
    with_reducible rfl
  rotate_left
  · simp only [Act.put, List.setIfInBounds_toArray, List.set_cons_zero, List.set_cons_succ, i64_w, i32_w]
    rfl
  refine one_ (i := 11) (N := some 16) #[true, true, true, true, true, true, true, true, true, true, true, true, false, false] rfl rfl (one_of HT_.out (by kernel_rfl)) (by decide) (fun K hK => ?_)
  refine goes_ Try.func145 (by kernel_rfl) rfl #[.agg #[.int .i64 a0_0, .int .i64 a0_1, .int .i64 a0_2, .int .i64 a0_3]] (by rfl) rfl rfl (by (try simp only [List.map_toArray, List.map_cons, List.map_nil]); first | done | rfl | (simp only [List.length_drop, List.length_take]; rfl)) ?_
  with_reducible refine (curve_line_wide.calls a0_0 a0_1 a0_2 a0_3 t446 _ A5.out).mono ?_
  rintro e w12 ⟨rfl, hb⟩
  refine ⟨_, rfl, ?_⟩
  have n0_ := Aside0.mk (blk_below (g := gb442) (o := .cells #[.int .i64 a0_0, .int .i64 a0_1, .int .i64 a0_2, .int .i64 a0_3] 129 (0, 0)) (by (with_reducible repeat (first | refine blk_drewN ?_ _ | refine blk_drew ?_ | refine blk_alloc ?_ _)); exact BK442.out) hb)
  have n1_ := Aside0.mk (blk_below (g := gb443) (o := .cells #[.int .i64 0, .int .i64 0] 42 (0, 0)) (by (with_reducible repeat (first | refine blk_drewN ?_ _ | refine blk_drew ?_ | refine blk_alloc ?_ _)); exact BK443.out) hb)
  have n2_ := Aside0.mk (below_step (by repeat (first | (with_reducible first | exact HB.out | apply below_alloc | apply pw_below_drewN | apply below_drew1 | refine below_set ?_ GE442.out | refine below_set ?_ GE443.out) | exact HB.out)) hb)
  clear BK442
  clear BK443
  clear HB
  have BK442 := n0_
  have BK443 := n1_
  have HB := n2_
  clear n0_ n1_ n2_
  (try clear hb)
  (try clear hb2)
  (try clear hk)
  (try clear hi)
  refine hK.out _ _ ⟨(blk_cell BK442.out 0).trans rfl, (blk_cell BK442.out 1).trans rfl, (blk_cell BK442.out 2).trans rfl, (blk_cell BK442.out 3).trans rfl⟩ (fun hHeld => ?_)
  clear hK K
  refine norm_ (a' := ?_) ?_ ?_
  rotate_left
  · show Act.put _ (some 16) _ = _
    simp only [Act.put, List.setIfInBounds_toArray, List.set_cons_zero, List.set_cons_succ, i64_w, i32_w]
    rfl
  refine one_ (i := 12) (N := some 17) #[true, true, true, true, true, true, true, true, true, true, true, true, true, false] rfl rfl (one_of HT_.out (by kernel_rfl)) (by decide) (fun K hK => ?_)
  refine goes_ Try.func144 (by kernel_rfl) rfl #[.int .i64 (wrap64 ((wrap64 (a0_1 * t444)) + t445)), .int .i64 t446] (by rfl) rfl rfl (by (try simp only [List.map_toArray, List.map_cons, List.map_nil]); first | done | rfl | (simp only [List.length_drop, List.length_take]; rfl)) ?_
  with_reducible refine (curve_lowest.calls k (wrap64 ((wrap64 (a0_1 * t444)) + t445)) t446 t447 t448 _ A6.out).mono ?_
  rintro e w13 ⟨rfl, hb⟩
  refine ⟨_, rfl, ?_⟩
  have n0_ := Aside0.mk (blk_below (g := gb442) (o := .cells #[.int .i64 a0_0, .int .i64 a0_1, .int .i64 a0_2, .int .i64 a0_3] 129 (0, 0)) (by (with_reducible repeat (first | refine blk_drewN ?_ _ | refine blk_drew ?_ | refine blk_alloc ?_ _)); exact BK442.out) hb)
  have n1_ := Aside0.mk (blk_below (g := gb443) (o := .cells #[.int .i64 0, .int .i64 0] 42 (0, 0)) (by (with_reducible repeat (first | refine blk_drewN ?_ _ | refine blk_drew ?_ | refine blk_alloc ?_ _)); exact BK443.out) hb)
  have n2_ := Aside0.mk (below_step (by repeat (first | (with_reducible first | exact HB.out | apply below_alloc | apply pw_below_drewN | apply below_drew1 | refine below_set ?_ GE442.out | refine below_set ?_ GE443.out) | exact HB.out)) hb)
  clear BK442
  clear BK443
  clear HB
  have BK442 := n0_
  have BK443 := n1_
  have HB := n2_
  clear n0_ n1_ n2_
  (try clear hb)
  (try clear hb2)
  (try clear hk)
  (try clear hi)
  refine hK.out _ _ ⟨(blk_cell BK442.out 0).trans rfl, (blk_cell BK442.out 1).trans rfl, (blk_cell BK442.out 2).trans rfl, (blk_cell BK442.out 3).trans rfl⟩ (fun hHeld => ?_)
  clear hK K
  refine norm_ (a' := ?_) ?_ ?_
  rotate_left
  · show Act.put _ (some 17) _ = _
    simp only [Act.put, List.setIfInBounds_toArray, List.set_cons_zero, List.set_cons_succ, i64_w, i32_w]
    rfl
  refine one_ (i := 13) (N := none) #[true, true, true, true, true, true, true, true, true, true, true, true, true, true] rfl rfl (one_of HT_.out (by kernel_rfl)) (by decide) (fun K hK => ?_)
  have hs14 : w13.cell? ⟨gb443, 0, none⟩ = some (.int .i64 0) := (blk_cell BK443.out 0).trans rfl
  have hfs14 := blk_frozen BK443.out 0
  have hns14_0 := NB442_443.out
  have hms14_0 := NB443_442.out
  have hs15 : w13.cell? ⟨gb443, 1, none⟩ = some (.int .i64 0) := (blk_cell BK443.out 1).trans rfl
  have hfs15 := blk_frozen BK443.out 1
  have hns15_0 := NB442_443.out
  have hms15_0 := NB443_442.out
  refine skip_ (w1 := ?_) (by rfl) rfl ?_ ?_
  rotate_left
  · go_simp
    rfl
  refine hK.out _ _ ⟨((cell_far (p := ⟨gb443, _, none⟩) NB442_443.out _).trans (((cell_far (p := ⟨gb443, _, none⟩) NB442_443.out _).trans (hHeld.1)))), ((cell_far (p := ⟨gb443, _, none⟩) NB442_443.out _).trans (((cell_far (p := ⟨gb443, _, none⟩) NB442_443.out _).trans (hHeld.2.1)))), ((cell_far (p := ⟨gb443, _, none⟩) NB442_443.out _).trans (((cell_far (p := ⟨gb443, _, none⟩) NB442_443.out _).trans (hHeld.2.2.1)))), ((cell_far (p := ⟨gb443, _, none⟩) NB442_443.out _).trans (((cell_far (p := ⟨gb443, _, none⟩) NB442_443.out _).trans (hHeld.2.2.2))))⟩ (fun hHeld => ?_)
  clear hK K
  refine done_ (done_of HT_.out (by kernel_rfl)) ?_
  try go_wp2
  refine bodyPost_ret (results_cell_row rfl _ _ gb443 42 #[.int .i64 t447, .int .i64 t448] (0, 0) _ rfl (by (with_reducible repeat (first | refine blk_drewN ?_ _ | refine blk_drew ?_ | refine blk_alloc ?_ _)); refine blk_put (cs := #[.int .i64 t447, .int .i64 0]) ?_ 1 _ rfl; (with_reducible repeat (first | refine blk_drewN ?_ _ | refine blk_drew ?_ | refine blk_alloc ?_ _)); refine blk_put (cs := #[.int .i64 0, .int .i64 0]) ?_ 0 _ rfl; (with_reducible repeat (first | refine blk_drewN ?_ _ | refine blk_drew ?_ | refine blk_alloc ?_ _)); exact BK443.out) Try.underlying42 rfl (by kernel_rfl)) rfl ?_
  exact ⟨by first | rfl | (simp [errW_none, errW_some] <;> rfl) | (simp [*, errW_none, errW_some] <;> rfl), by repeat (first | (with_reducible first | exact HB.out | apply below_alloc | apply pw_below_drewN | apply below_drew1 | refine below_set ?_ GE442.out | refine below_set ?_ GE443.out) | exact HB.out)⟩
end Go.Proofs.Ytlhfclpbodfmcaa.Pr
namespace Go.Proofs.Ytlhfclpbodfmcaa.Pr
open Go.RowKit Go.Shelf Go.Proofs.YtlhfclpbodfmcaaW.PrintWords Go.Proofs.YtlhfclpbodfmcaaW.PrintLast Go.Proofs.YtlhfclpbodfmcaaW.PrintMore
open Go.Proofs.Ytlhfclpbodfmcaa.Vm
set_option linter.unusedVariables false
set_option linter.unusedSimpArgs false
attribute [local go_sem] Oper.semAt_some
def hasB (x : Int) (y : S60 × S60) : Bool := decide (y.1.f0 ≤ x) && decide (x ≤ y.2.f0)
def firstL (l : List S60) (x : Int) : S60 × S60 := ((upto (lineAt l) (l.length - 1)).find? (hasB x)).getD (z60, z60)
def LVc (y : S60 × S60) : Array Value := #[.int .i64 y.1.f0, .int .i64 y.1.f1, .int .i64 y.2.f0, .int .i64 y.2.f1]
theorem has_eq (x : Int) (y : S60 × S60) : curve_line_has.f y.1.f0 y.1.f1 y.2.f0 y.2.f1 x = some (hasB x y) := by
  unfold curve_line_has.f hasB
  by_cases h : y.1.f0 ≤ x
  · rw [if_pos h, decide_eq_true h]; rfl
  · rw [if_neg h, decide_eq_false h]; rfl
theorem upto_prefix {α : Type} (f : Nat → α) {k n : Nat} (h : k ≤ n) : ∃ t, upto f n = upto f k ++ t := by
  refine ⟨((List.range n).drop k).map f, ?_⟩
  have e : List.range k = (List.range n).take k := by rw [List.take_range, Nat.min_eq_left h]
  unfold upto
  rw [e, ← List.map_append, List.take_append_drop]
theorem first_found {l : List S60} {x : Int} {p : List (S60 × S60)} {y : S60 × S60} {k : Nat} (hk : k ≤ l.length - 1) (e : p ++ [y] = upto (lineAt l) k) (hp : p.all (fun z => !hasB x z) = true) (hy : hasB x y = true) : firstL l x = y := by
  obtain ⟨t, ht⟩ := upto_prefix (lineAt l) hk
  unfold firstL
  rw [ht, ← e, List.find?_append, List.find?_append]
  have : p.find? (hasB x) = none := List.find?_eq_none.2 fun z hz => by
    have := List.all_eq_true.1 hp z hz
    simpa using this
  rw [this]
  simp [hy]
theorem first_none {l : List S60} {x : Int} (hp : (upto (lineAt l) (l.length - 1)).all (fun z => !hasB x z) = true) : firstL l x = (z60, z60) := by
  unfold firstL
  have : (upto (lineAt l) (l.length - 1)).find? (hasB x) = none := List.find?_eq_none.2 fun z hz => by
    have := List.all_eq_true.1 hp z hz
    simpa using this
  rw [this]; rfl
theorem keeps_below {W W' : World} (h : Below W.heap.size W W') : KeepsOthers W W' := ⟨h.size, fun b o hb _ => (h.block b (Array.getElem?_eq_some_iff.1 hb).1).trans hb⟩
/-- Four cells are set. -/
def set4 (W : World) (g : Nat) (a b c d : Value) : World := (((W.setCell ⟨g, 0, none⟩ a).setCell ⟨g, 1, none⟩ b).setCell ⟨g, 2, none⟩ c).setCell ⟨g, 3, none⟩ d
theorem set4_keeps (W : World) (g : Nat) (a b c d : Value) : KeepsOthers W (set4 W g a b c d) := (((KeepsOthers.setCell _ _ _).trans (KeepsOthers.setCell _ _ _)).trans (KeepsOthers.setCell _ _ _)).trans (KeepsOthers.setCell _ _ _)
theorem set4_block {W : World} {g t : Nat} {p q r s a b c d : Value} (h : W.heap[g]? = some (.cells #[p, q, r, s] t (0, 0))) : (set4 W g a b c d).heap[g]? = some (.cells #[a, b, c, d] t (0, 0)) :=
  blk_put (blk_put (blk_put (blk_put h 0 a rfl) 1 b rfl) 2 c rfl) 3 d rfl
theorem set4_below {n : Nat} {w W : World} {g : Nat} {a b c d : Value} (h : Below n w W) (hg : n ≤ g) : Below n w (set4 W g a b c d) := (((h.setCell (p := ⟨g, 0, none⟩) hg a).setCell (p := ⟨g, 1, none⟩) hg b).setCell (p := ⟨g, 2, none⟩) hg c).setCell (p := ⟨g, 3, none⟩) hg d
set_option maxRecDepth 100000 in
set_option maxHeartbeats 4000000 in
theorem curve_at.run (A0 : Option Addr) (c0 : Nat) (l0 : List S60) (x0 : Int) (w : World) (hr0 : Kd.C k60 w A0 l0.length l0) (h2 : 2 ≤ l0.length) (h64 : l0.length ≤ 64) :
    Calls Try.prog 143 #[.slice A0 l0.length c0, .int .i64 x0] w fun e w' => e = .returned (.agg (LVc (firstL l0 x0))) ∧ Below w.heap.size w w' := by
  have hu60 := Try.underlying60
  have hu129 := Try.underlying129
  obtain ⟨ad, rfl, hx, _⟩ := at_T60 hr0 0 (by omega) (by omega)
  have hblk : ad.block < w.heap.size := cell_lt hx
  clear hx
  have CL : ∀ (y : S60 × S60) W, Calls Try.prog 149 #[.agg #[.int .i64 y.1.f0, .int .i64 y.1.f1, .int .i64 y.2.f0, .int .i64 y.2.f1], .int .i64 x0] W fun e w' => e = .returned (.bool (hasB x0 y)) ∧ Below W.heap.size W w' := fun y W => curve_line_has.calls _ _ _ _ _ _ W (has_eq x0 y)
  have H0 : ∀ ys, ys = upto (lineAt l0) (l0.length - 1) → ys.all (fun z => !hasB x0 z) = true → firstL l0 x0 = (z60, z60) := fun ys e h => first_none (by rw [← e]; exact h)
  have H1 : ∀ k p y, k ≤ l0.length - 1 → p ++ [y] = upto (lineAt l0) k → p.all (fun z => !hasB x0 z) = true → hasB x0 y = true → firstL l0 x0 = y := fun k p y a b c d => first_found a b c d
  generalize firstL l0 x0 = FF at H0 H1 ⊢
  rw [← callsIn_wide (n := 9)]
  refine callsIn_of_wp_marks Try.func143 rfl trivial ?_ rfl
  simp only [Try.ntmps143, List.size_toArray, List.length_cons, List.length_nil, Nat.reduceAdd, Nat.reduceSub, Array.replicate_succ, Array.replicate_zero, List.push_toArray, List.append_toArray, List.nil_append, List.cons_append]
  gi_wp2_with (first | (refine ⟨trivial, ?_⟩; gi_at_call 110; refine (curve_lines.calls _ _ _ _).mono ?_; rintro e w2 ⟨rfl, rfl⟩))
  have bX1 := blk_new w (.cells #[.int .i64 x0] 3 (0, 0))
  have ab1 : Below (w.alloc (.cells #[.int .i64 x0] 3 (0, 0))).heap.size (w.alloc (.cells #[.int .i64 x0] 3 (0, 0))) _ := below_alloc (Below.refl _ _) (.cells #[.int .i64 0, .int .i64 0, .int .i64 0, .int .i64 0] 129 (0, 0))
  have bZ1 := blk_new (w.alloc (.cells #[.int .i64 x0] 3 (0, 0))) (.cells #[.int .i64 0, .int .i64 0, .int .i64 0, .int .i64 0] 129 (0, 0))
  obtain ⟨Wa, hWa⟩ : ∃ Wa, (w.alloc (.cells #[.int .i64 x0] 3 (0, 0))).alloc (.cells #[.int .i64 0, .int .i64 0, .int .i64 0, .int .i64 0] 129 (0, 0)) = Wa := ⟨_, rfl⟩
  have hBa : Below w.heap.size w Wa := by rw [← hWa]; exact below_alloc (below_alloc (Below.refl _ _) _) _
  have hsa : Wa.heap.size = w.heap.size + 2 := by rw [← hWa]; simp
  rw [hWa] at ab1 bZ1
  have bX2 := blk_below bX1 ab1
  rw [World.size_alloc] at bZ1
  have bN := Boxed.new Wa 37 (.slice (some ad) l0.length c0)
  have abN : Below Wa.heap.size Wa _ := below_alloc (Below.refl _ _) (.cells #[.slice (some ad) l0.length c0] 37 (0, 0))
  have bX3 := blk_below bX2 abN
  have bZ3 := blk_below bZ1 abN
  have hB0 : Below w.heap.size w (Wa.alloc (.cells #[.slice (some ad) l0.length c0] 37)) := hBa.alloc hBa.size _
  rw [hWa]
  rw [hsa] at bN
  obtain ⟨W0, hW0⟩ : ∃ W0, Wa.alloc (.cells #[.slice (some ad) l0.length c0] 37) = W0 := ⟨_, rfl⟩
  have hsz0 : W0.heap.size = w.heap.size + 3 := by rw [← hW0]; simp [hsa]
  have bX : W0.heap[w.heap.size]? = some (.cells #[.int .i64 x0] 3 (0, 0)) := by rw [← hW0]; exact bX3
  have bZ : W0.heap[w.heap.size + 1]? = some (.cells #[.int .i64 0, .int .i64 0, .int .i64 0, .int .i64 0] 129 (0, 0)) := by rw [← hW0]; exact bZ3
  rw [hW0] at bN hB0 ⊢
  clear hW0 hWa bX1 ab1 bZ1 bX2 abN bX3 bZ3 hBa hsa
  refine wpIn_rangeFunc_ownH rfl (by omega) (gf := 141) (lb := #[.pointer (some ⟨w.heap.size + 1 + 1, 0, none⟩)]) rfl trivial (enters_of Try.func141 (by kernel_rfl) rfl)
    (curve_lines.stops (w.heap.size + 1 + 1) c0 ad l0 (by omega) w W0 hr0 hB0 hblk bN.cell (by omega)) belowK_t (belowK_b (by omega)) (Below.refl _ _) (fun _ => rfl)
    (fun pre W => (pre.all (fun z => !hasB x0 z) = true ∧ W.heap[w.heap.size]? = some (.cells #[.int .i64 x0] 3 (0, 0)) ∧ W.heap[w.heap.size + 1]? = some (.cells #[.int .i64 0, .int .i64 0, .int .i64 0, .int .i64 0] 129 (0, 0))) ∧ (Below w.heap.size w W ∧ W0.heap.size ≤ W.heap.size))
    (fun c pre W => (c = .ret ∧ ∃ p y, pre = p ++ [y] ∧ p.all (fun z => !hasB x0 z) = true ∧ hasB x0 y = true ∧ W.heap[w.heap.size + 1]? = some (.cells (LVc y) 129 (0, 0))) ∧ Below w.heap.size w W)
    (OwnFrom.and (Own.from (fun s A B row hs hg hr => ⟨hs.1, heap_kept hs.2.1 rfl hg hr, heap_kept hs.2.2 rfl hg hr⟩) _) (OwnFrom.and (ownFrom_below (Nat.le_refl _) (by omega)) (fun s A B row hs hg hr => Nat.le_trans hs hg.size)))
    (fun c => OwnFrom.and (Own.from (fun s A B row hs hg hr => by obtain ⟨h1, p, y, h2, h3, h4, h5⟩ := hs; exact ⟨h1, p, y, h2, h3, h4, heap_kept h5 rfl hg hr⟩) _) (ownFrom_below (Nat.le_refl _) (by omega)))
    ⟨⟨rfl, bX, bZ⟩, hB0, Nat.le_refl _⟩
    (fun y a' W => ∃ Bx, W0.heap.size ≤ Bx ∧ W.heap[Bx]? = some (.cells #[.int .i64 y.1.f0, .int .i64 y.1.f1, .int .i64 y.2.f0, .int .i64 y.2.f1] 129 (0, 0)) ∧ a' = { tmps := #[.slice (some ad) l0.length c0, .int .i64 x0, undef, .pointer (some ⟨w.heap.size, 0, none⟩), .pointer (some ⟨w.heap.size + 1, 0, none⟩), .pointer (some ⟨Bx, 0, none⟩), .slice (some ad) l0.length c0, .func (.func 141) #[] #[.pointer (some ⟨w.heap.size + 1 + 1, 0, none⟩)], .agg #[.int .i64 y.1.f0, .int .i64 y.1.f1, .int .i64 y.2.f0, .int .i64 y.2.f1], undef, undef, undef, undef, undef], defers := [] })
    (fun x a' _ X Y row hs hg hr => by obtain ⟨Bx, h1, h2, h3⟩ := hs; exact ⟨Bx, h1, heap_kept h2 rfl hg (fun r e => (hr r e).2), h3⟩)
    ?assign ?body ?done ?stop
  case assign =>
    rintro l pre y W K ⟨⟨hp1, bX1, bZ1⟩, hB1, hszW⟩ hK
    dsimp only [lineV]
    gi_wp2
    have ab : Below W.heap.size W _ := below_alloc (Below.refl _ _) (.cells #[.int .i64 y.1.f0, .int .i64 y.1.f1, .int .i64 y.2.f0, .int .i64 y.2.f1] 129 (0, 0))
    exact hK _ _ ((KeepsOthers.alloc _ _).from _) ((Below.refl _ W).alloc hszW _) ⟨⟨hp1, blk_below bX1 ab, blk_below bZ1 ab⟩, hB1.alloc hB1.size _, Nat.le_trans hszW (by simp)⟩ ⟨W.heap.size, hszW, World.alloc_heap_new W _, rfl⟩
  case body =>
    rintro l pre y a' W hl ⟨r, hr⟩ ⟨⟨hp1, bX1, bZ1⟩, hB1, hszW⟩ ⟨Bx, hBx, bY, rfl⟩ hlt
    have c0_ := (blk_cell bY 0).trans rfl
    have c1_ := (blk_cell bY 1).trans rfl
    have c2_ := (blk_cell bY 2).trans rfl
    have c3_ := (blk_cell bY 3).trans rfl
    have cX := (blk_cell bX1 0).trans rfl
    have CLy := CL y
    cases hh : hasB x0 y with
    | true =>
      rw [hh] at CLy
      gi_wp2_with (refine ⟨trivial, ?_⟩; gi_at_call 149; refine (CallsIn.inRound l (callsIn_wide.2 (CLy _))).mono ?_; rintro e w3 ⟨rfl, hb3⟩; have d0 := blk_below bY hb3; have dZ := blk_below bZ1 hb3; have e0 := (blk_cell d0 0).trans rfl; have e1 := (blk_cell d0 1).trans rfl; have e2 := (blk_cell d0 2).trans rfl; have e3 := (blk_cell d0 3).trans rfl; have g0 := (blk_cell dZ 0).trans rfl; have g1 := (blk_cell dZ 1).trans rfl; have g2 := (blk_cell dZ 2).trans rfl; have g3 := (blk_cell dZ 3).trans rfl; have k0 := blk_frozen dZ 0; have k1 := blk_frozen dZ 1; have k2 := blk_frozen dZ 2; have k3 := blk_frozen dZ 3)
      have hB3 : Below w.heap.size w w3 := hB1.trans (hb3.mono hB1.size)
      exact ⟨((keeps_below hb3).trans (set4_keeps w3 (w.heap.size + 1) _ _ _ _)).from _, ⟨rfl, pre, y, rfl, hp1, hh, set4_block dZ⟩, set4_below hB3 (by omega)⟩
    | false =>
      rw [hh] at CLy
      gi_wp2_with (refine ⟨trivial, ?_⟩; gi_at_call 149; refine (CallsIn.inRound l (callsIn_wide.2 (CLy _))).mono ?_; rintro e w3 ⟨rfl, hb3⟩)
      exact ⟨(keeps_below hb3).from _, hb3.mono hszW, ⟨by simp [List.all_append, hp1, hh], blk_below bX1 hb3, blk_below bZ1 hb3⟩, hB1.trans (hb3.mono hB1.size), Nat.le_trans hszW hb3.size⟩
  case done =>
    rintro D ys W hD hys ⟨⟨hp1, bX1, bZ1⟩, hB1, hszW⟩ hK
    obtain rfl := H0 ys hys hp1
    have g0 := (blk_cell bZ1 0).trans rfl
    have g1 := (blk_cell bZ1 1).trans rfl
    have g2 := (blk_cell bZ1 2).trans rfl
    have g3 := (blk_cell bZ1 3).trans rfl
    have k0 := blk_frozen bZ1 0
    have k1 := blk_frozen bZ1 1
    have k2 := blk_frozen bZ1 2
    have k3 := blk_frozen bZ1 3
    gi_wp2
    have hK' := (set4_keeps W (w.heap.size + 1) (.int .i64 0) (.int .i64 0) (.int .i64 0) (.int .i64 0)).same D _ hK rfl
    have hB4 : Below w.heap.size w (set4 W (w.heap.size + 1) (.int .i64 0) (.int .i64 0) (.int .i64 0) (.int .i64 0)) := set4_below hB1 (by omega)
    have s4 := set4_block (a := .int .i64 0) (b := .int .i64 0) (c := .int .i64 0) (d := .int .i64 0) bZ1
    refine ⟨by simp, .inl ⟨_, _, rfl, run_takeDeferred hK', ?_⟩⟩
    have s5 := heap_kept s4 rfl (grownBy_putObj' _ D (.deferred none)) (fun r e => by cases e; exact ⟨_, hK', rfl⟩)
    exact ⟨.agg (LVc (z60, z60)), results_cell_row rfl _ _ (w.heap.size + 1) 129 _ (0, 0) _ rfl s5 Try.underlying129 rfl (by kernel_rfl), rfl, hB4.trans (belowK_b (w := w) (Nat.le_refl _) _ D _ _ (by omega) hK' rfl rfl)⟩
  case stop =>
    rintro D c pre W hD ⟨k, hk, hpk⟩ ⟨⟨rfl, p, y, rfl, hp1, hy, bY⟩, hB1⟩ hK
    obtain rfl := H1 k p y hk hpk hp1 hy
    gi_wp2
    refine ⟨by simp, .inl ⟨_, _, rfl, run_takeDeferred hK, ?_⟩⟩
    have s5 := heap_kept bY rfl (grownBy_putObj' _ D (.deferred none)) (fun r e => by cases e; exact ⟨_, hK, rfl⟩)
    exact ⟨.agg (LVc _), results_cell_row rfl _ _ (w.heap.size + 1) 129 _ (0, 0) _ rfl s5 Try.underlying129 rfl (by kernel_rfl), rfl, hB1.trans (belowK_b (w := w) (Nat.le_refl _) W D _ _ (by omega) hK rfl rfl)⟩
end Go.Proofs.Ytlhfclpbodfmcaa.Pr
