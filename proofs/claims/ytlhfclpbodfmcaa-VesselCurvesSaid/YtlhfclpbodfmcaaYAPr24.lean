/- A part of the proof: Pr24, Kl, Cb, Dr, Fa, Lb, Lc, Le, Ra, Cc, Ce, Lg, Cf, Lo, Ln, Cd, Lp, Lq. -/
import Derived.Test.YtlhfclpbodfmcaaXLb
import Derived.Test.YtlhfclpbodfmcaaXDr
import Derived.Test.YtlhfclpbodfmcaaYAWWords
import Derived.Test.YtlhfclpbodfmcaaYAVm
import Derived.Test.YtlhfclpbodfmcaaYAKq
import Derived.Test.YtlhfclpbodfmcaaXRt
namespace Go.Proofs.Ytlhfclpbodfmcaa.Pr
open Go.RowKit Go.Proofs.YtlhfclpbodfmcaaW.PrintWords Go.Proofs.YtlhfclpbodfmcaaW.PrintLast Go.Proofs.YtlhfclpbodfmcaaW.PrintMore
attribute [local go_sem] fld79_0 fld79_1 fld79_2 fld27_0 fld27_1 fld90_0 fld90_1 fld90_2 fld105_0 fld105_1 fld105_2 fld96_0 fld96_1 fld96_2 fld60_0 fld60_1 fld42_0 fld42_1 max2_int min2_int max_two min_two max_three min_three max_four min_four   -- for this text's walks alone
set_option linter.unusedVariables false
set_option linter.unusedSimpArgs false
def waterhourlaw02_less.f (a0_0 : Int) (a0_1 : Int) (a1_0 : Int) (a1_1 : Int) : Option (Int × Int × Bool) := if a0_1 < 1 then (some (0, 0, false)) else (if a1_1 < 1 then (some (0, 0, false)) else (if a0_1 > 1048576 then (some (0, 0, false)) else (if a1_1 > 1048576 then (some (0, 0, false)) else (if a0_0 < 0 then (some (0, 0, false)) else (if a1_0 < 0 then (some (0, 0, false)) else (if a0_0 > 4398046511104 then (some (0, 0, false)) else (if a1_0 > 4398046511104 then (some (0, 0, false)) else (if (wrap64 (a0_1 * a1_1)) = 0 then (none) else ((waterhourlaw02_span.f (wrap64 (Int.tdiv (wrap64 ((wrap64 (a0_0 * a1_1)) - (wrap64 (a1_0 * a0_1)))) (wrap64 (a0_1 * a1_1)))) (wrap64 (Int.tdiv (wrap64 ((wrap64 ((wrap64 ((wrap64 (a0_0 * a1_1)) - (wrap64 (a1_0 * a0_1)))) + (wrap64 (a0_1 * a1_1)))) - 1)) (wrap64 (a0_1 * a1_1))))).bind fun bt453 => (some (bt453.1, bt453.2, decide ((wrap64 ((wrap64 (a0_0 * a1_1)) - (wrap64 (a1_0 * a0_1)))) ≥ 0))))))))))))
def waterhourlaw02_less.T3 : Bool × List (List Nat × List Nat) := (true, [([], []), ([0], [0]), ([], []), ([2], [2]), ([1, 3], [1, 3]), ([], []), ([5], [5]), ([], []), ([7], [7]), ([6, 8], [6, 8]), ([4, 9], [4, 9]), ([], []), ([11], [11]), ([], []), ([13], [13]), ([12, 14], [12, 14]), ([10, 0, 1, 2, 3, 4, 5, 6, 7, 8, 9, 10], [10]), ([15, 16, 0, 1, 2, 3, 4, 5, 6, 7, 8, 9, 10, 11, 12, 13, 14, 15, 16], [15])])
def waterhourlaw02_less.B3 : List Nat := [0, 1, 0, 4, 15, 0, 32, 0, 128, 480, 1023, 0, 2048, 0, 8192, 30720, 2047, 131071]
theorem waterhourlaw02_less.tab3 : rtab .any (opsOf Try.f42 3) = waterhourlaw02_less.T3 := by kernel_rfl
theorem waterhourlaw02_less.bits3 : waitsOk waterhourlaw02_less.T3.2 waterhourlaw02_less.B3 = true := by kernel_rfl
def waterhourlaw02_less.T4 : Bool × List (List Nat × List Nat) := (true, [([], []), ([], []), ([0, 1], [0, 1]), ([], []), ([], []), ([3, 4], [3, 4]), ([5], [5]), ([], []), ([6, 7], [6, 7]), ([2, 8], [2, 8]), ([], []), ([10], [10]), ([9, 9, 0, 1, 2, 3, 4, 5, 6, 7, 8, 9], [9]), ([11, 12, 0, 1, 2, 3, 4, 5, 6, 7, 8, 9, 10, 11, 12], [11])])
def waterhourlaw02_less.B4 : List Nat := [0, 0, 3, 0, 0, 24, 56, 0, 248, 511, 0, 1024, 1023, 8191]
theorem waterhourlaw02_less.tab4 : rtab .any (opsOf Try.f42 4) = waterhourlaw02_less.T4 := by kernel_rfl
theorem waterhourlaw02_less.bits4 : waitsOk waterhourlaw02_less.T4.2 waterhourlaw02_less.B4 = true := by kernel_rfl
set_option maxHeartbeats 8000000 in
set_option maxRecDepth 100000 in
theorem waterhourlaw02_less.calls (a0_0 : Int) (a0_1 : Int) (a1_0 : Int) (a1_1 : Int) (r1 : Int) (r2 : Int) (r3 : Bool) (w : World) (h : waterhourlaw02_less.f a0_0 a0_1 a1_0 a1_1 = some (r1, r2, r3)) :
    Calls Try.prog 42 #[.agg #[.int .i64 a0_0, .int .i64 a0_1], .agg #[.int .i64 a1_0, .int .i64 a1_1]] w fun e w' => e = .returned (.tuple #[.agg #[.int .i64 r1, .int .i64 r2], .bool r3]) ∧ Below w.heap.size w w' := by
  have hu42 := Try.underlying42
  have hu27 := Try.underlying27
  have HB := Aside0.mk (Below.refl w.heap.size w)
  have H : (if a0_1 < 1 then (some (0, 0, false)) else (if a1_1 < 1 then (some (0, 0, false)) else (if a0_1 > 1048576 then (some (0, 0, false)) else (if a1_1 > 1048576 then (some (0, 0, false)) else (if a0_0 < 0 then (some (0, 0, false)) else (if a1_0 < 0 then (some (0, 0, false)) else (if a0_0 > 4398046511104 then (some (0, 0, false)) else (if a1_0 > 4398046511104 then (some (0, 0, false)) else (if (wrap64 (a0_1 * a1_1)) = 0 then (none) else ((waterhourlaw02_span.f (wrap64 (Int.tdiv (wrap64 ((wrap64 (a0_0 * a1_1)) - (wrap64 (a1_0 * a0_1)))) (wrap64 (a0_1 * a1_1)))) (wrap64 (Int.tdiv (wrap64 ((wrap64 ((wrap64 ((wrap64 (a0_0 * a1_1)) - (wrap64 (a1_0 * a0_1)))) + (wrap64 (a0_1 * a1_1)))) - 1)) (wrap64 (a0_1 * a1_1))))).bind fun bt453 => (some (bt453.1, bt453.2, decide ((wrap64 ((wrap64 (a0_0 * a1_1)) - (wrap64 (a1_0 * a0_1)))) ≥ 0))))))))))))) = some (r1, r2, r3) := h
  clear h
  by_cases c3 : a0_1 < 1
  · rw [if_pos c3] at H
    have c3b0 : decide (a0_1 < 1) = true := decide_eq_true c3
    clear c3
    simp only [Option.some.injEq, Prod.mk.injEq] at H
    obtain ⟨rfl, rfl, rfl⟩ := H
    go_enter Try.func42, Try.ntmps42
    go_wp2_with (first | ((with_reducible refine gate_dst (N := 2) rfl ?_); refine box_event ?hg (N := 2) ?hd (cs := #[.int .i64 a0_0, .int .i64 a0_1]) (t := 42) ?hr ?_; (case hd => rfl); (case hg => rfl); (case hr => first | (go_simp; done) | (go_simp; rfl)); intro gb450 hg w4 hbox hb; have n0_ := Aside0.mk (below_step (by repeat (first | (with_reducible first | exact HB.out | apply below_alloc | apply pw_below_drewN | apply below_drew1) | exact HB.out)) hb); have n1_ := Aside0.mk (hbox); have n2_ := Aside0.mk ((by rw [hg]; exact (below_size (by repeat (first | (with_reducible first | exact HB.out | apply below_alloc | apply pw_below_drewN | apply below_drew1) | exact HB.out))) : w.heap.size ≤ gb450)); have n3_ := Aside0.mk ((by rw [hg]; exact (below_size (by repeat (first | (with_reducible first | exact HB.out | apply below_alloc | apply pw_below_drewN | apply below_drew1) | exact HB.out))) : w.heap.size ≤ gb450)); clear HB; have HB := n0_; have BK450 := n1_; have GW450 := n2_; have GE450 := n3_; clear n0_ n1_ n2_ n3_; clear hb hbox hg) | ((with_reducible refine gate_dst (N := 3) rfl ?_); refine box_event ?hg (N := 3) ?hd (cs := #[.int .i64 a1_0, .int .i64 a1_1]) (t := 42) ?hr ?_; (case hd => rfl); (case hg => rfl); (case hr => first | (go_simp; done) | (go_simp; rfl)); intro gb451 hg w5 hbox hb; have n0_ := Aside0.mk (blk_below (g := gb450) (o := .cells #[.int .i64 a0_0, .int .i64 a0_1] 42 (0, 0)) (by (with_reducible repeat (first | refine blk_drewN ?_ _ | refine blk_drew ?_ | refine blk_alloc ?_ _)); exact BK450.out) hb); have n1_ := Aside0.mk (below_step (by repeat (first | (with_reducible first | exact HB.out | apply below_alloc | apply pw_below_drewN | apply below_drew1 | refine below_set ?_ GE450.out) | exact HB.out)) hb); have n2_ := Aside0.mk (hbox); have n3_ := Aside0.mk ((by rw [hg]; exact (below_size (by repeat (first | (with_reducible first | exact HB.out | apply below_alloc | apply pw_below_drewN | apply below_drew1 | refine below_set ?_ GE450.out) | exact HB.out))) : w.heap.size ≤ gb451)); have n4_ := Aside0.mk ((by rw [hg]; exact (below_size (by repeat (first | (with_reducible first | exact HB.out | apply below_alloc | apply pw_below_drewN | apply below_drew1 | refine below_set ?_ GE450.out) | exact HB.out))) : w.heap.size ≤ gb451)); have n5_ := Aside0.mk ((by rw [hg]; exact Nat.ne_of_lt (blk_lt (g := gb450) (o := .cells #[.int .i64 a0_0, .int .i64 a0_1] 42 (0, 0)) (by (with_reducible repeat (first | refine blk_drewN ?_ _ | refine blk_drew ?_ | refine blk_alloc ?_ _)); exact BK450.out)) : gb450 ≠ gb451)); have n6_ := Aside0.mk ((by rw [hg]; exact Nat.ne_of_gt (blk_lt (g := gb450) (o := .cells #[.int .i64 a0_0, .int .i64 a0_1] 42 (0, 0)) (by (with_reducible repeat (first | refine blk_drewN ?_ _ | refine blk_drew ?_ | refine blk_alloc ?_ _)); exact BK450.out)) : gb451 ≠ gb450)); clear BK450; clear HB; have BK450 := n0_; have HB := n1_; have BK451 := n2_; have GW451 := n3_; have GE451 := n4_; have NB450_451 := n5_; have NB451_450 := n6_; clear n0_ n1_ n2_ n3_ n4_ n5_ n6_; clear hb hbox hg) | ((with_reducible refine gate_dst (N := 4) rfl ?_); refine box_event ?hg (N := 4) ?hd (cs := #[.int .i64 0, .int .i64 0]) (t := 27) ?hr ?_; (case hd => rfl); (case hg => rfl); (case hr => first | (go_simp; done) | (go_simp; rfl)); intro gb452 hg w6 hbox hb; have n0_ := Aside0.mk (blk_below (g := gb450) (o := .cells #[.int .i64 a0_0, .int .i64 a0_1] 42 (0, 0)) (by (with_reducible repeat (first | refine blk_drewN ?_ _ | refine blk_drew ?_ | refine blk_alloc ?_ _)); exact BK450.out) hb); have n1_ := Aside0.mk (blk_below (g := gb451) (o := .cells #[.int .i64 a1_0, .int .i64 a1_1] 42 (0, 0)) (by (with_reducible repeat (first | refine blk_drewN ?_ _ | refine blk_drew ?_ | refine blk_alloc ?_ _)); exact BK451.out) hb); have n2_ := Aside0.mk (below_step (by repeat (first | (with_reducible first | exact HB.out | apply below_alloc | apply pw_below_drewN | apply below_drew1 | refine below_set ?_ GE450.out | refine below_set ?_ GE451.out) | exact HB.out)) hb); have n3_ := Aside0.mk (hbox); have n4_ := Aside0.mk ((by rw [hg]; exact (below_size (by repeat (first | (with_reducible first | exact HB.out | apply below_alloc | apply pw_below_drewN | apply below_drew1 | refine below_set ?_ GE450.out | refine below_set ?_ GE451.out) | exact HB.out))) : w.heap.size ≤ gb452)); have n5_ := Aside0.mk ((by rw [hg]; exact (below_size (by repeat (first | (with_reducible first | exact HB.out | apply below_alloc | apply pw_below_drewN | apply below_drew1 | refine below_set ?_ GE450.out | refine below_set ?_ GE451.out) | exact HB.out))) : w.heap.size ≤ gb452)); have n6_ := Aside0.mk ((by rw [hg]; exact Nat.ne_of_lt (blk_lt (g := gb450) (o := .cells #[.int .i64 a0_0, .int .i64 a0_1] 42 (0, 0)) (by (with_reducible repeat (first | refine blk_drewN ?_ _ | refine blk_drew ?_ | refine blk_alloc ?_ _)); exact BK450.out)) : gb450 ≠ gb452)); have n7_ := Aside0.mk ((by rw [hg]; exact Nat.ne_of_gt (blk_lt (g := gb450) (o := .cells #[.int .i64 a0_0, .int .i64 a0_1] 42 (0, 0)) (by (with_reducible repeat (first | refine blk_drewN ?_ _ | refine blk_drew ?_ | refine blk_alloc ?_ _)); exact BK450.out)) : gb452 ≠ gb450)); have n8_ := Aside0.mk ((by rw [hg]; exact Nat.ne_of_lt (blk_lt (g := gb451) (o := .cells #[.int .i64 a1_0, .int .i64 a1_1] 42 (0, 0)) (by (with_reducible repeat (first | refine blk_drewN ?_ _ | refine blk_drew ?_ | refine blk_alloc ?_ _)); exact BK451.out)) : gb451 ≠ gb452)); have n9_ := Aside0.mk ((by rw [hg]; exact Nat.ne_of_gt (blk_lt (g := gb451) (o := .cells #[.int .i64 a1_0, .int .i64 a1_1] 42 (0, 0)) (by (with_reducible repeat (first | refine blk_drewN ?_ _ | refine blk_drew ?_ | refine blk_alloc ?_ _)); exact BK451.out)) : gb452 ≠ gb451)); clear BK450; clear BK451; clear HB; have BK450 := n0_; have BK451 := n1_; have HB := n2_; have BK452 := n3_; have GW452 := n4_; have GE452 := n5_; have NB450_452 := n6_; have NB452_450 := n7_; have NB451_452 := n8_; have NB452_451 := n9_; clear n0_ n1_ n2_ n3_ n4_ n5_ n6_ n7_ n8_ n9_; clear hb hbox hg; have hnb7 := NB450_451.out; have hnc7 := NB451_450.out; have hnb8 := NB450_452.out; have hnc8 := NB452_450.out; have hcz9_0 : w6.cell? ⟨gb450, 0, none⟩ = some (.int .i64 a0_0) := (blk_cell BK450.out 0).trans rfl; have hcz9_1 : w6.cell? ⟨gb450, 1, none⟩ = some (.int .i64 a0_1) := (blk_cell BK450.out 1).trans rfl; have hfz9_0 := blk_frozen BK450.out 0; have hfz9_1 := blk_frozen BK450.out 1; have hnb10 := NB452_451.out; have hnc10 := NB451_452.out; have hcz11_0 : w6.cell? ⟨gb452, 0, none⟩ = some (.int .i64 0) := (blk_cell BK452.out 0).trans rfl; have hcz11_1 : w6.cell? ⟨gb452, 1, none⟩ = some (.int .i64 0) := (blk_cell BK452.out 1).trans rfl; have hfz11_0 := blk_frozen BK452.out 0; have hfz11_1 := blk_frozen BK452.out 1))
    refine bodyPost_ret (results_ct rfl _ _ gb452 27 #[.int .i64 0, .int .i64 0] (0, 0) _ rfl (by (with_reducible repeat (first | refine blk_drewN ?_ _ | refine blk_drew ?_ | refine blk_alloc ?_ _)); refine blk_put (cs := #[.int .i64 0, .int .i64 0]) ?_ 1 _ rfl; (with_reducible repeat (first | refine blk_drewN ?_ _ | refine blk_drew ?_ | refine blk_alloc ?_ _)); refine blk_put (cs := #[.int .i64 0, .int .i64 0]) ?_ 0 _ rfl; (with_reducible repeat (first | refine blk_drewN ?_ _ | refine blk_drew ?_ | refine blk_alloc ?_ _)); exact BK452.out) Try.underlying27 rfl (by kernel_rfl)) rfl ?_
    exact ⟨by first | rfl | (simp [errW_none, errW_some] <;> rfl) | (simp [*, errW_none, errW_some] <;> rfl), by repeat (first | (with_reducible first | exact HB.out | apply below_alloc | apply pw_below_drewN | apply below_drew1 | refine below_set ?_ GE450.out | refine below_set ?_ GE451.out | refine below_set ?_ GE452.out) | exact HB.out)⟩
  · rw [if_neg c3] at H
    have c3b0 : decide (a0_1 < 1) = false := decide_eq_false c3
    clear c3
    by_cases c12 : a1_1 < 1
    · rw [if_pos c12] at H
      have c12b0 : decide (a1_1 < 1) = true := decide_eq_true c12
      clear c12
      simp only [Option.some.injEq, Prod.mk.injEq] at H
      obtain ⟨rfl, rfl, rfl⟩ := H
      go_enter Try.func42, Try.ntmps42
      go_wp2_with (first | ((with_reducible refine gate_dst (N := 2) rfl ?_); refine box_event ?hg (N := 2) ?hd (cs := #[.int .i64 a0_0, .int .i64 a0_1]) (t := 42) ?hr ?_; (case hd => rfl); (case hg => rfl); (case hr => first | (go_simp; done) | (go_simp; rfl)); intro gb450 hg w13 hbox hb; have n0_ := Aside0.mk (below_step (by repeat (first | (with_reducible first | exact HB.out | apply below_alloc | apply pw_below_drewN | apply below_drew1) | exact HB.out)) hb); have n1_ := Aside0.mk (hbox); have n2_ := Aside0.mk ((by rw [hg]; exact (below_size (by repeat (first | (with_reducible first | exact HB.out | apply below_alloc | apply pw_below_drewN | apply below_drew1) | exact HB.out))) : w.heap.size ≤ gb450)); have n3_ := Aside0.mk ((by rw [hg]; exact (below_size (by repeat (first | (with_reducible first | exact HB.out | apply below_alloc | apply pw_below_drewN | apply below_drew1) | exact HB.out))) : w.heap.size ≤ gb450)); clear HB; have HB := n0_; have BK450 := n1_; have GW450 := n2_; have GE450 := n3_; clear n0_ n1_ n2_ n3_; clear hb hbox hg) | ((with_reducible refine gate_dst (N := 3) rfl ?_); refine box_event ?hg (N := 3) ?hd (cs := #[.int .i64 a1_0, .int .i64 a1_1]) (t := 42) ?hr ?_; (case hd => rfl); (case hg => rfl); (case hr => first | (go_simp; done) | (go_simp; rfl)); intro gb451 hg w14 hbox hb; have n0_ := Aside0.mk (blk_below (g := gb450) (o := .cells #[.int .i64 a0_0, .int .i64 a0_1] 42 (0, 0)) (by (with_reducible repeat (first | refine blk_drewN ?_ _ | refine blk_drew ?_ | refine blk_alloc ?_ _)); exact BK450.out) hb); have n1_ := Aside0.mk (below_step (by repeat (first | (with_reducible first | exact HB.out | apply below_alloc | apply pw_below_drewN | apply below_drew1 | refine below_set ?_ GE450.out) | exact HB.out)) hb); have n2_ := Aside0.mk (hbox); have n3_ := Aside0.mk ((by rw [hg]; exact (below_size (by repeat (first | (with_reducible first | exact HB.out | apply below_alloc | apply pw_below_drewN | apply below_drew1 | refine below_set ?_ GE450.out) | exact HB.out))) : w.heap.size ≤ gb451)); have n4_ := Aside0.mk ((by rw [hg]; exact (below_size (by repeat (first | (with_reducible first | exact HB.out | apply below_alloc | apply pw_below_drewN | apply below_drew1 | refine below_set ?_ GE450.out) | exact HB.out))) : w.heap.size ≤ gb451)); have n5_ := Aside0.mk ((by rw [hg]; exact Nat.ne_of_lt (blk_lt (g := gb450) (o := .cells #[.int .i64 a0_0, .int .i64 a0_1] 42 (0, 0)) (by (with_reducible repeat (first | refine blk_drewN ?_ _ | refine blk_drew ?_ | refine blk_alloc ?_ _)); exact BK450.out)) : gb450 ≠ gb451)); have n6_ := Aside0.mk ((by rw [hg]; exact Nat.ne_of_gt (blk_lt (g := gb450) (o := .cells #[.int .i64 a0_0, .int .i64 a0_1] 42 (0, 0)) (by (with_reducible repeat (first | refine blk_drewN ?_ _ | refine blk_drew ?_ | refine blk_alloc ?_ _)); exact BK450.out)) : gb451 ≠ gb450)); clear BK450; clear HB; have BK450 := n0_; have HB := n1_; have BK451 := n2_; have GW451 := n3_; have GE451 := n4_; have NB450_451 := n5_; have NB451_450 := n6_; clear n0_ n1_ n2_ n3_ n4_ n5_ n6_; clear hb hbox hg) | ((with_reducible refine gate_dst (N := 4) rfl ?_); refine box_event ?hg (N := 4) ?hd (cs := #[.int .i64 0, .int .i64 0]) (t := 27) ?hr ?_; (case hd => rfl); (case hg => rfl); (case hr => first | (go_simp; done) | (go_simp; rfl)); intro gb452 hg w15 hbox hb; have n0_ := Aside0.mk (blk_below (g := gb450) (o := .cells #[.int .i64 a0_0, .int .i64 a0_1] 42 (0, 0)) (by (with_reducible repeat (first | refine blk_drewN ?_ _ | refine blk_drew ?_ | refine blk_alloc ?_ _)); exact BK450.out) hb); have n1_ := Aside0.mk (blk_below (g := gb451) (o := .cells #[.int .i64 a1_0, .int .i64 a1_1] 42 (0, 0)) (by (with_reducible repeat (first | refine blk_drewN ?_ _ | refine blk_drew ?_ | refine blk_alloc ?_ _)); exact BK451.out) hb); have n2_ := Aside0.mk (below_step (by repeat (first | (with_reducible first | exact HB.out | apply below_alloc | apply pw_below_drewN | apply below_drew1 | refine below_set ?_ GE450.out | refine below_set ?_ GE451.out) | exact HB.out)) hb); have n3_ := Aside0.mk (hbox); have n4_ := Aside0.mk ((by rw [hg]; exact (below_size (by repeat (first | (with_reducible first | exact HB.out | apply below_alloc | apply pw_below_drewN | apply below_drew1 | refine below_set ?_ GE450.out | refine below_set ?_ GE451.out) | exact HB.out))) : w.heap.size ≤ gb452)); have n5_ := Aside0.mk ((by rw [hg]; exact (below_size (by repeat (first | (with_reducible first | exact HB.out | apply below_alloc | apply pw_below_drewN | apply below_drew1 | refine below_set ?_ GE450.out | refine below_set ?_ GE451.out) | exact HB.out))) : w.heap.size ≤ gb452)); have n6_ := Aside0.mk ((by rw [hg]; exact Nat.ne_of_lt (blk_lt (g := gb450) (o := .cells #[.int .i64 a0_0, .int .i64 a0_1] 42 (0, 0)) (by (with_reducible repeat (first | refine blk_drewN ?_ _ | refine blk_drew ?_ | refine blk_alloc ?_ _)); exact BK450.out)) : gb450 ≠ gb452)); have n7_ := Aside0.mk ((by rw [hg]; exact Nat.ne_of_gt (blk_lt (g := gb450) (o := .cells #[.int .i64 a0_0, .int .i64 a0_1] 42 (0, 0)) (by (with_reducible repeat (first | refine blk_drewN ?_ _ | refine blk_drew ?_ | refine blk_alloc ?_ _)); exact BK450.out)) : gb452 ≠ gb450)); have n8_ := Aside0.mk ((by rw [hg]; exact Nat.ne_of_lt (blk_lt (g := gb451) (o := .cells #[.int .i64 a1_0, .int .i64 a1_1] 42 (0, 0)) (by (with_reducible repeat (first | refine blk_drewN ?_ _ | refine blk_drew ?_ | refine blk_alloc ?_ _)); exact BK451.out)) : gb451 ≠ gb452)); have n9_ := Aside0.mk ((by rw [hg]; exact Nat.ne_of_gt (blk_lt (g := gb451) (o := .cells #[.int .i64 a1_0, .int .i64 a1_1] 42 (0, 0)) (by (with_reducible repeat (first | refine blk_drewN ?_ _ | refine blk_drew ?_ | refine blk_alloc ?_ _)); exact BK451.out)) : gb452 ≠ gb451)); clear BK450; clear BK451; clear HB; have BK450 := n0_; have BK451 := n1_; have HB := n2_; have BK452 := n3_; have GW452 := n4_; have GE452 := n5_; have NB450_452 := n6_; have NB452_450 := n7_; have NB451_452 := n8_; have NB452_451 := n9_; clear n0_ n1_ n2_ n3_ n4_ n5_ n6_ n7_ n8_ n9_; clear hb hbox hg; have hnb16 := NB450_451.out; have hnc16 := NB451_450.out; have hnb17 := NB450_452.out; have hnc17 := NB452_450.out; have hcz18_0 : w15.cell? ⟨gb450, 0, none⟩ = some (.int .i64 a0_0) := (blk_cell BK450.out 0).trans rfl; have hcz18_1 : w15.cell? ⟨gb450, 1, none⟩ = some (.int .i64 a0_1) := (blk_cell BK450.out 1).trans rfl; have hfz18_0 := blk_frozen BK450.out 0; have hfz18_1 := blk_frozen BK450.out 1; have hnb19 := NB451_452.out; have hnc19 := NB452_451.out; have hcz20_0 : w15.cell? ⟨gb451, 0, none⟩ = some (.int .i64 a1_0) := (blk_cell BK451.out 0).trans rfl; have hcz20_1 : w15.cell? ⟨gb451, 1, none⟩ = some (.int .i64 a1_1) := (blk_cell BK451.out 1).trans rfl; have hfz20_0 := blk_frozen BK451.out 0; have hfz20_1 := blk_frozen BK451.out 1; have hcz21_0 : w15.cell? ⟨gb452, 0, none⟩ = some (.int .i64 0) := (blk_cell BK452.out 0).trans rfl; have hcz21_1 : w15.cell? ⟨gb452, 1, none⟩ = some (.int .i64 0) := (blk_cell BK452.out 1).trans rfl; have hfz21_0 := blk_frozen BK452.out 0; have hfz21_1 := blk_frozen BK452.out 1))
      refine bodyPost_ret (results_ct rfl _ _ gb452 27 #[.int .i64 0, .int .i64 0] (0, 0) _ rfl (by (with_reducible repeat (first | refine blk_drewN ?_ _ | refine blk_drew ?_ | refine blk_alloc ?_ _)); refine blk_put (cs := #[.int .i64 0, .int .i64 0]) ?_ 1 _ rfl; (with_reducible repeat (first | refine blk_drewN ?_ _ | refine blk_drew ?_ | refine blk_alloc ?_ _)); refine blk_put (cs := #[.int .i64 0, .int .i64 0]) ?_ 0 _ rfl; (with_reducible repeat (first | refine blk_drewN ?_ _ | refine blk_drew ?_ | refine blk_alloc ?_ _)); exact BK452.out) Try.underlying27 rfl (by kernel_rfl)) rfl ?_
      exact ⟨by first | rfl | (simp [errW_none, errW_some] <;> rfl) | (simp [*, errW_none, errW_some] <;> rfl), by repeat (first | (with_reducible first | exact HB.out | apply below_alloc | apply pw_below_drewN | apply below_drew1 | refine below_set ?_ GE450.out | refine below_set ?_ GE451.out | refine below_set ?_ GE452.out) | exact HB.out)⟩
    · rw [if_neg c12] at H
      have c12b0 : decide (a1_1 < 1) = false := decide_eq_false c12
      clear c12
      by_cases c22 : a0_1 > 1048576
      · rw [if_pos c22] at H
        have c22b0 : decide (1048576 < a0_1) = true := decide_eq_true c22
        clear c22
        simp only [Option.some.injEq, Prod.mk.injEq] at H
        obtain ⟨rfl, rfl, rfl⟩ := H
        go_enter Try.func42, Try.ntmps42
        go_wp2_with (first | ((with_reducible refine gate_dst (N := 2) rfl ?_); refine box_event ?hg (N := 2) ?hd (cs := #[.int .i64 a0_0, .int .i64 a0_1]) (t := 42) ?hr ?_; (case hd => rfl); (case hg => rfl); (case hr => first | (go_simp; done) | (go_simp; rfl)); intro gb450 hg w23 hbox hb; have n0_ := Aside0.mk (below_step (by repeat (first | (with_reducible first | exact HB.out | apply below_alloc | apply pw_below_drewN | apply below_drew1) | exact HB.out)) hb); have n1_ := Aside0.mk (hbox); have n2_ := Aside0.mk ((by rw [hg]; exact (below_size (by repeat (first | (with_reducible first | exact HB.out | apply below_alloc | apply pw_below_drewN | apply below_drew1) | exact HB.out))) : w.heap.size ≤ gb450)); have n3_ := Aside0.mk ((by rw [hg]; exact (below_size (by repeat (first | (with_reducible first | exact HB.out | apply below_alloc | apply pw_below_drewN | apply below_drew1) | exact HB.out))) : w.heap.size ≤ gb450)); clear HB; have HB := n0_; have BK450 := n1_; have GW450 := n2_; have GE450 := n3_; clear n0_ n1_ n2_ n3_; clear hb hbox hg) | ((with_reducible refine gate_dst (N := 3) rfl ?_); refine box_event ?hg (N := 3) ?hd (cs := #[.int .i64 a1_0, .int .i64 a1_1]) (t := 42) ?hr ?_; (case hd => rfl); (case hg => rfl); (case hr => first | (go_simp; done) | (go_simp; rfl)); intro gb451 hg w24 hbox hb; have n0_ := Aside0.mk (blk_below (g := gb450) (o := .cells #[.int .i64 a0_0, .int .i64 a0_1] 42 (0, 0)) (by (with_reducible repeat (first | refine blk_drewN ?_ _ | refine blk_drew ?_ | refine blk_alloc ?_ _)); exact BK450.out) hb); have n1_ := Aside0.mk (below_step (by repeat (first | (with_reducible first | exact HB.out | apply below_alloc | apply pw_below_drewN | apply below_drew1 | refine below_set ?_ GE450.out) | exact HB.out)) hb); have n2_ := Aside0.mk (hbox); have n3_ := Aside0.mk ((by rw [hg]; exact (below_size (by repeat (first | (with_reducible first | exact HB.out | apply below_alloc | apply pw_below_drewN | apply below_drew1 | refine below_set ?_ GE450.out) | exact HB.out))) : w.heap.size ≤ gb451)); have n4_ := Aside0.mk ((by rw [hg]; exact (below_size (by repeat (first | (with_reducible first | exact HB.out | apply below_alloc | apply pw_below_drewN | apply below_drew1 | refine below_set ?_ GE450.out) | exact HB.out))) : w.heap.size ≤ gb451)); have n5_ := Aside0.mk ((by rw [hg]; exact Nat.ne_of_lt (blk_lt (g := gb450) (o := .cells #[.int .i64 a0_0, .int .i64 a0_1] 42 (0, 0)) (by (with_reducible repeat (first | refine blk_drewN ?_ _ | refine blk_drew ?_ | refine blk_alloc ?_ _)); exact BK450.out)) : gb450 ≠ gb451)); have n6_ := Aside0.mk ((by rw [hg]; exact Nat.ne_of_gt (blk_lt (g := gb450) (o := .cells #[.int .i64 a0_0, .int .i64 a0_1] 42 (0, 0)) (by (with_reducible repeat (first | refine blk_drewN ?_ _ | refine blk_drew ?_ | refine blk_alloc ?_ _)); exact BK450.out)) : gb451 ≠ gb450)); clear BK450; clear HB; have BK450 := n0_; have HB := n1_; have BK451 := n2_; have GW451 := n3_; have GE451 := n4_; have NB450_451 := n5_; have NB451_450 := n6_; clear n0_ n1_ n2_ n3_ n4_ n5_ n6_; clear hb hbox hg) | ((with_reducible refine gate_dst (N := 4) rfl ?_); refine box_event ?hg (N := 4) ?hd (cs := #[.int .i64 0, .int .i64 0]) (t := 27) ?hr ?_; (case hd => rfl); (case hg => rfl); (case hr => first | (go_simp; done) | (go_simp; rfl)); intro gb452 hg w25 hbox hb; have n0_ := Aside0.mk (blk_below (g := gb450) (o := .cells #[.int .i64 a0_0, .int .i64 a0_1] 42 (0, 0)) (by (with_reducible repeat (first | refine blk_drewN ?_ _ | refine blk_drew ?_ | refine blk_alloc ?_ _)); exact BK450.out) hb); have n1_ := Aside0.mk (blk_below (g := gb451) (o := .cells #[.int .i64 a1_0, .int .i64 a1_1] 42 (0, 0)) (by (with_reducible repeat (first | refine blk_drewN ?_ _ | refine blk_drew ?_ | refine blk_alloc ?_ _)); exact BK451.out) hb); have n2_ := Aside0.mk (below_step (by repeat (first | (with_reducible first | exact HB.out | apply below_alloc | apply pw_below_drewN | apply below_drew1 | refine below_set ?_ GE450.out | refine below_set ?_ GE451.out) | exact HB.out)) hb); have n3_ := Aside0.mk (hbox); have n4_ := Aside0.mk ((by rw [hg]; exact (below_size (by repeat (first | (with_reducible first | exact HB.out | apply below_alloc | apply pw_below_drewN | apply below_drew1 | refine below_set ?_ GE450.out | refine below_set ?_ GE451.out) | exact HB.out))) : w.heap.size ≤ gb452)); have n5_ := Aside0.mk ((by rw [hg]; exact (below_size (by repeat (first | (with_reducible first | exact HB.out | apply below_alloc | apply pw_below_drewN | apply below_drew1 | refine below_set ?_ GE450.out | refine below_set ?_ GE451.out) | exact HB.out))) : w.heap.size ≤ gb452)); have n6_ := Aside0.mk ((by rw [hg]; exact Nat.ne_of_lt (blk_lt (g := gb450) (o := .cells #[.int .i64 a0_0, .int .i64 a0_1] 42 (0, 0)) (by (with_reducible repeat (first | refine blk_drewN ?_ _ | refine blk_drew ?_ | refine blk_alloc ?_ _)); exact BK450.out)) : gb450 ≠ gb452)); have n7_ := Aside0.mk ((by rw [hg]; exact Nat.ne_of_gt (blk_lt (g := gb450) (o := .cells #[.int .i64 a0_0, .int .i64 a0_1] 42 (0, 0)) (by (with_reducible repeat (first | refine blk_drewN ?_ _ | refine blk_drew ?_ | refine blk_alloc ?_ _)); exact BK450.out)) : gb452 ≠ gb450)); have n8_ := Aside0.mk ((by rw [hg]; exact Nat.ne_of_lt (blk_lt (g := gb451) (o := .cells #[.int .i64 a1_0, .int .i64 a1_1] 42 (0, 0)) (by (with_reducible repeat (first | refine blk_drewN ?_ _ | refine blk_drew ?_ | refine blk_alloc ?_ _)); exact BK451.out)) : gb451 ≠ gb452)); have n9_ := Aside0.mk ((by rw [hg]; exact Nat.ne_of_gt (blk_lt (g := gb451) (o := .cells #[.int .i64 a1_0, .int .i64 a1_1] 42 (0, 0)) (by (with_reducible repeat (first | refine blk_drewN ?_ _ | refine blk_drew ?_ | refine blk_alloc ?_ _)); exact BK451.out)) : gb452 ≠ gb451)); clear BK450; clear BK451; clear HB; have BK450 := n0_; have BK451 := n1_; have HB := n2_; have BK452 := n3_; have GW452 := n4_; have GE452 := n5_; have NB450_452 := n6_; have NB452_450 := n7_; have NB451_452 := n8_; have NB452_451 := n9_; clear n0_ n1_ n2_ n3_ n4_ n5_ n6_ n7_ n8_ n9_; clear hb hbox hg; have hnb26 := NB450_451.out; have hnc26 := NB451_450.out; have hnb27 := NB450_452.out; have hnc27 := NB452_450.out; have hcz28_0 : w25.cell? ⟨gb450, 0, none⟩ = some (.int .i64 a0_0) := (blk_cell BK450.out 0).trans rfl; have hcz28_1 : w25.cell? ⟨gb450, 1, none⟩ = some (.int .i64 a0_1) := (blk_cell BK450.out 1).trans rfl; have hfz28_0 := blk_frozen BK450.out 0; have hfz28_1 := blk_frozen BK450.out 1; have hnb29 := NB451_452.out; have hnc29 := NB452_451.out; have hcz30_0 : w25.cell? ⟨gb451, 0, none⟩ = some (.int .i64 a1_0) := (blk_cell BK451.out 0).trans rfl; have hcz30_1 : w25.cell? ⟨gb451, 1, none⟩ = some (.int .i64 a1_1) := (blk_cell BK451.out 1).trans rfl; have hfz30_0 := blk_frozen BK451.out 0; have hfz30_1 := blk_frozen BK451.out 1; have hcz31_0 : w25.cell? ⟨gb452, 0, none⟩ = some (.int .i64 0) := (blk_cell BK452.out 0).trans rfl; have hcz31_1 : w25.cell? ⟨gb452, 1, none⟩ = some (.int .i64 0) := (blk_cell BK452.out 1).trans rfl; have hfz31_0 := blk_frozen BK452.out 0; have hfz31_1 := blk_frozen BK452.out 1))
        refine bodyPost_ret (results_ct rfl _ _ gb452 27 #[.int .i64 0, .int .i64 0] (0, 0) _ rfl (by (with_reducible repeat (first | refine blk_drewN ?_ _ | refine blk_drew ?_ | refine blk_alloc ?_ _)); refine blk_put (cs := #[.int .i64 0, .int .i64 0]) ?_ 1 _ rfl; (with_reducible repeat (first | refine blk_drewN ?_ _ | refine blk_drew ?_ | refine blk_alloc ?_ _)); refine blk_put (cs := #[.int .i64 0, .int .i64 0]) ?_ 0 _ rfl; (with_reducible repeat (first | refine blk_drewN ?_ _ | refine blk_drew ?_ | refine blk_alloc ?_ _)); exact BK452.out) Try.underlying27 rfl (by kernel_rfl)) rfl ?_
        exact ⟨by first | rfl | (simp [errW_none, errW_some] <;> rfl) | (simp [*, errW_none, errW_some] <;> rfl), by repeat (first | (with_reducible first | exact HB.out | apply below_alloc | apply pw_below_drewN | apply below_drew1 | refine below_set ?_ GE450.out | refine below_set ?_ GE451.out | refine below_set ?_ GE452.out) | exact HB.out)⟩
      · rw [if_neg c22] at H
        have c22b0 : decide (1048576 < a0_1) = false := decide_eq_false c22
        clear c22
        by_cases c32 : a1_1 > 1048576
        · rw [if_pos c32] at H
          have c32b0 : decide (1048576 < a1_1) = true := decide_eq_true c32
          clear c32
          simp only [Option.some.injEq, Prod.mk.injEq] at H
          obtain ⟨rfl, rfl, rfl⟩ := H
          go_enter Try.func42, Try.ntmps42
          go_wp2_with (first | ((with_reducible refine gate_dst (N := 2) rfl ?_); refine box_event ?hg (N := 2) ?hd (cs := #[.int .i64 a0_0, .int .i64 a0_1]) (t := 42) ?hr ?_; (case hd => rfl); (case hg => rfl); (case hr => first | (go_simp; done) | (go_simp; rfl)); intro gb450 hg w33 hbox hb; have n0_ := Aside0.mk (below_step (by repeat (first | (with_reducible first | exact HB.out | apply below_alloc | apply pw_below_drewN | apply below_drew1) | exact HB.out)) hb); have n1_ := Aside0.mk (hbox); have n2_ := Aside0.mk ((by rw [hg]; exact (below_size (by repeat (first | (with_reducible first | exact HB.out | apply below_alloc | apply pw_below_drewN | apply below_drew1) | exact HB.out))) : w.heap.size ≤ gb450)); have n3_ := Aside0.mk ((by rw [hg]; exact (below_size (by repeat (first | (with_reducible first | exact HB.out | apply below_alloc | apply pw_below_drewN | apply below_drew1) | exact HB.out))) : w.heap.size ≤ gb450)); clear HB; have HB := n0_; have BK450 := n1_; have GW450 := n2_; have GE450 := n3_; clear n0_ n1_ n2_ n3_; clear hb hbox hg) | ((with_reducible refine gate_dst (N := 3) rfl ?_); refine box_event ?hg (N := 3) ?hd (cs := #[.int .i64 a1_0, .int .i64 a1_1]) (t := 42) ?hr ?_; (case hd => rfl); (case hg => rfl); (case hr => first | (go_simp; done) | (go_simp; rfl)); intro gb451 hg w34 hbox hb; have n0_ := Aside0.mk (blk_below (g := gb450) (o := .cells #[.int .i64 a0_0, .int .i64 a0_1] 42 (0, 0)) (by (with_reducible repeat (first | refine blk_drewN ?_ _ | refine blk_drew ?_ | refine blk_alloc ?_ _)); exact BK450.out) hb); have n1_ := Aside0.mk (below_step (by repeat (first | (with_reducible first | exact HB.out | apply below_alloc | apply pw_below_drewN | apply below_drew1 | refine below_set ?_ GE450.out) | exact HB.out)) hb); have n2_ := Aside0.mk (hbox); have n3_ := Aside0.mk ((by rw [hg]; exact (below_size (by repeat (first | (with_reducible first | exact HB.out | apply below_alloc | apply pw_below_drewN | apply below_drew1 | refine below_set ?_ GE450.out) | exact HB.out))) : w.heap.size ≤ gb451)); have n4_ := Aside0.mk ((by rw [hg]; exact (below_size (by repeat (first | (with_reducible first | exact HB.out | apply below_alloc | apply pw_below_drewN | apply below_drew1 | refine below_set ?_ GE450.out) | exact HB.out))) : w.heap.size ≤ gb451)); have n5_ := Aside0.mk ((by rw [hg]; exact Nat.ne_of_lt (blk_lt (g := gb450) (o := .cells #[.int .i64 a0_0, .int .i64 a0_1] 42 (0, 0)) (by (with_reducible repeat (first | refine blk_drewN ?_ _ | refine blk_drew ?_ | refine blk_alloc ?_ _)); exact BK450.out)) : gb450 ≠ gb451)); have n6_ := Aside0.mk ((by rw [hg]; exact Nat.ne_of_gt (blk_lt (g := gb450) (o := .cells #[.int .i64 a0_0, .int .i64 a0_1] 42 (0, 0)) (by (with_reducible repeat (first | refine blk_drewN ?_ _ | refine blk_drew ?_ | refine blk_alloc ?_ _)); exact BK450.out)) : gb451 ≠ gb450)); clear BK450; clear HB; have BK450 := n0_; have HB := n1_; have BK451 := n2_; have GW451 := n3_; have GE451 := n4_; have NB450_451 := n5_; have NB451_450 := n6_; clear n0_ n1_ n2_ n3_ n4_ n5_ n6_; clear hb hbox hg) | ((with_reducible refine gate_dst (N := 4) rfl ?_); refine box_event ?hg (N := 4) ?hd (cs := #[.int .i64 0, .int .i64 0]) (t := 27) ?hr ?_; (case hd => rfl); (case hg => rfl); (case hr => first | (go_simp; done) | (go_simp; rfl)); intro gb452 hg w35 hbox hb; have n0_ := Aside0.mk (blk_below (g := gb450) (o := .cells #[.int .i64 a0_0, .int .i64 a0_1] 42 (0, 0)) (by (with_reducible repeat (first | refine blk_drewN ?_ _ | refine blk_drew ?_ | refine blk_alloc ?_ _)); exact BK450.out) hb); have n1_ := Aside0.mk (blk_below (g := gb451) (o := .cells #[.int .i64 a1_0, .int .i64 a1_1] 42 (0, 0)) (by (with_reducible repeat (first | refine blk_drewN ?_ _ | refine blk_drew ?_ | refine blk_alloc ?_ _)); exact BK451.out) hb); have n2_ := Aside0.mk (below_step (by repeat (first | (with_reducible first | exact HB.out | apply below_alloc | apply pw_below_drewN | apply below_drew1 | refine below_set ?_ GE450.out | refine below_set ?_ GE451.out) | exact HB.out)) hb); have n3_ := Aside0.mk (hbox); have n4_ := Aside0.mk ((by rw [hg]; exact (below_size (by repeat (first | (with_reducible first | exact HB.out | apply below_alloc | apply pw_below_drewN | apply below_drew1 | refine below_set ?_ GE450.out | refine below_set ?_ GE451.out) | exact HB.out))) : w.heap.size ≤ gb452)); have n5_ := Aside0.mk ((by rw [hg]; exact (below_size (by repeat (first | (with_reducible first | exact HB.out | apply below_alloc | apply pw_below_drewN | apply below_drew1 | refine below_set ?_ GE450.out | refine below_set ?_ GE451.out) | exact HB.out))) : w.heap.size ≤ gb452)); have n6_ := Aside0.mk ((by rw [hg]; exact Nat.ne_of_lt (blk_lt (g := gb450) (o := .cells #[.int .i64 a0_0, .int .i64 a0_1] 42 (0, 0)) (by (with_reducible repeat (first | refine blk_drewN ?_ _ | refine blk_drew ?_ | refine blk_alloc ?_ _)); exact BK450.out)) : gb450 ≠ gb452)); have n7_ := Aside0.mk ((by rw [hg]; exact Nat.ne_of_gt (blk_lt (g := gb450) (o := .cells #[.int .i64 a0_0, .int .i64 a0_1] 42 (0, 0)) (by (with_reducible repeat (first | refine blk_drewN ?_ _ | refine blk_drew ?_ | refine blk_alloc ?_ _)); exact BK450.out)) : gb452 ≠ gb450)); have n8_ := Aside0.mk ((by rw [hg]; exact Nat.ne_of_lt (blk_lt (g := gb451) (o := .cells #[.int .i64 a1_0, .int .i64 a1_1] 42 (0, 0)) (by (with_reducible repeat (first | refine blk_drewN ?_ _ | refine blk_drew ?_ | refine blk_alloc ?_ _)); exact BK451.out)) : gb451 ≠ gb452)); have n9_ := Aside0.mk ((by rw [hg]; exact Nat.ne_of_gt (blk_lt (g := gb451) (o := .cells #[.int .i64 a1_0, .int .i64 a1_1] 42 (0, 0)) (by (with_reducible repeat (first | refine blk_drewN ?_ _ | refine blk_drew ?_ | refine blk_alloc ?_ _)); exact BK451.out)) : gb452 ≠ gb451)); clear BK450; clear BK451; clear HB; have BK450 := n0_; have BK451 := n1_; have HB := n2_; have BK452 := n3_; have GW452 := n4_; have GE452 := n5_; have NB450_452 := n6_; have NB452_450 := n7_; have NB451_452 := n8_; have NB452_451 := n9_; clear n0_ n1_ n2_ n3_ n4_ n5_ n6_ n7_ n8_ n9_; clear hb hbox hg; have hnb36 := NB450_451.out; have hnc36 := NB451_450.out; have hnb37 := NB450_452.out; have hnc37 := NB452_450.out; have hcz38_0 : w35.cell? ⟨gb450, 0, none⟩ = some (.int .i64 a0_0) := (blk_cell BK450.out 0).trans rfl; have hcz38_1 : w35.cell? ⟨gb450, 1, none⟩ = some (.int .i64 a0_1) := (blk_cell BK450.out 1).trans rfl; have hfz38_0 := blk_frozen BK450.out 0; have hfz38_1 := blk_frozen BK450.out 1; have hnb39 := NB451_452.out; have hnc39 := NB452_451.out; have hcz40_0 : w35.cell? ⟨gb451, 0, none⟩ = some (.int .i64 a1_0) := (blk_cell BK451.out 0).trans rfl; have hcz40_1 : w35.cell? ⟨gb451, 1, none⟩ = some (.int .i64 a1_1) := (blk_cell BK451.out 1).trans rfl; have hfz40_0 := blk_frozen BK451.out 0; have hfz40_1 := blk_frozen BK451.out 1; have hcz41_0 : w35.cell? ⟨gb452, 0, none⟩ = some (.int .i64 0) := (blk_cell BK452.out 0).trans rfl; have hcz41_1 : w35.cell? ⟨gb452, 1, none⟩ = some (.int .i64 0) := (blk_cell BK452.out 1).trans rfl; have hfz41_0 := blk_frozen BK452.out 0; have hfz41_1 := blk_frozen BK452.out 1))
          refine bodyPost_ret (results_ct rfl _ _ gb452 27 #[.int .i64 0, .int .i64 0] (0, 0) _ rfl (by (with_reducible repeat (first | refine blk_drewN ?_ _ | refine blk_drew ?_ | refine blk_alloc ?_ _)); refine blk_put (cs := #[.int .i64 0, .int .i64 0]) ?_ 1 _ rfl; (with_reducible repeat (first | refine blk_drewN ?_ _ | refine blk_drew ?_ | refine blk_alloc ?_ _)); refine blk_put (cs := #[.int .i64 0, .int .i64 0]) ?_ 0 _ rfl; (with_reducible repeat (first | refine blk_drewN ?_ _ | refine blk_drew ?_ | refine blk_alloc ?_ _)); exact BK452.out) Try.underlying27 rfl (by kernel_rfl)) rfl ?_
          exact ⟨by first | rfl | (simp [errW_none, errW_some] <;> rfl) | (simp [*, errW_none, errW_some] <;> rfl), by repeat (first | (with_reducible first | exact HB.out | apply below_alloc | apply pw_below_drewN | apply below_drew1 | refine below_set ?_ GE450.out | refine below_set ?_ GE451.out | refine below_set ?_ GE452.out) | exact HB.out)⟩
        · rw [if_neg c32] at H
          have c32b0 : decide (1048576 < a1_1) = false := decide_eq_false c32
          clear c32
          by_cases c42 : a0_0 < 0
          · rw [if_pos c42] at H
            have c42b0 : decide (a0_0 < 0) = true := decide_eq_true c42
            clear c42
            simp only [Option.some.injEq, Prod.mk.injEq] at H
            obtain ⟨rfl, rfl, rfl⟩ := H
            go_enter Try.func42, Try.ntmps42
            go_wp2_with (first | ((with_reducible refine gate_dst (N := 2) rfl ?_); refine box_event ?hg (N := 2) ?hd (cs := #[.int .i64 a0_0, .int .i64 a0_1]) (t := 42) ?hr ?_; (case hd => rfl); (case hg => rfl); (case hr => first | (go_simp; done) | (go_simp; rfl)); intro gb450 hg w43 hbox hb; have n0_ := Aside0.mk (below_step (by repeat (first | (with_reducible first | exact HB.out | apply below_alloc | apply pw_below_drewN | apply below_drew1) | exact HB.out)) hb); have n1_ := Aside0.mk (hbox); have n2_ := Aside0.mk ((by rw [hg]; exact (below_size (by repeat (first | (with_reducible first | exact HB.out | apply below_alloc | apply pw_below_drewN | apply below_drew1) | exact HB.out))) : w.heap.size ≤ gb450)); have n3_ := Aside0.mk ((by rw [hg]; exact (below_size (by repeat (first | (with_reducible first | exact HB.out | apply below_alloc | apply pw_below_drewN | apply below_drew1) | exact HB.out))) : w.heap.size ≤ gb450)); clear HB; have HB := n0_; have BK450 := n1_; have GW450 := n2_; have GE450 := n3_; clear n0_ n1_ n2_ n3_; clear hb hbox hg) | ((with_reducible refine gate_dst (N := 3) rfl ?_); refine box_event ?hg (N := 3) ?hd (cs := #[.int .i64 a1_0, .int .i64 a1_1]) (t := 42) ?hr ?_; (case hd => rfl); (case hg => rfl); (case hr => first | (go_simp; done) | (go_simp; rfl)); intro gb451 hg w44 hbox hb; have n0_ := Aside0.mk (blk_below (g := gb450) (o := .cells #[.int .i64 a0_0, .int .i64 a0_1] 42 (0, 0)) (by (with_reducible repeat (first | refine blk_drewN ?_ _ | refine blk_drew ?_ | refine blk_alloc ?_ _)); exact BK450.out) hb); have n1_ := Aside0.mk (below_step (by repeat (first | (with_reducible first | exact HB.out | apply below_alloc | apply pw_below_drewN | apply below_drew1 | refine below_set ?_ GE450.out) | exact HB.out)) hb); have n2_ := Aside0.mk (hbox); have n3_ := Aside0.mk ((by rw [hg]; exact (below_size (by repeat (first | (with_reducible first | exact HB.out | apply below_alloc | apply pw_below_drewN | apply below_drew1 | refine below_set ?_ GE450.out) | exact HB.out))) : w.heap.size ≤ gb451)); have n4_ := Aside0.mk ((by rw [hg]; exact (below_size (by repeat (first | (with_reducible first | exact HB.out | apply below_alloc | apply pw_below_drewN | apply below_drew1 | refine below_set ?_ GE450.out) | exact HB.out))) : w.heap.size ≤ gb451)); have n5_ := Aside0.mk ((by rw [hg]; exact Nat.ne_of_lt (blk_lt (g := gb450) (o := .cells #[.int .i64 a0_0, .int .i64 a0_1] 42 (0, 0)) (by (with_reducible repeat (first | refine blk_drewN ?_ _ | refine blk_drew ?_ | refine blk_alloc ?_ _)); exact BK450.out)) : gb450 ≠ gb451)); have n6_ := Aside0.mk ((by rw [hg]; exact Nat.ne_of_gt (blk_lt (g := gb450) (o := .cells #[.int .i64 a0_0, .int .i64 a0_1] 42 (0, 0)) (by (with_reducible repeat (first | refine blk_drewN ?_ _ | refine blk_drew ?_ | refine blk_alloc ?_ _)); exact BK450.out)) : gb451 ≠ gb450)); clear BK450; clear HB; have BK450 := n0_; have HB := n1_; have BK451 := n2_; have GW451 := n3_; have GE451 := n4_; have NB450_451 := n5_; have NB451_450 := n6_; clear n0_ n1_ n2_ n3_ n4_ n5_ n6_; clear hb hbox hg) | ((with_reducible refine gate_dst (N := 4) rfl ?_); refine box_event ?hg (N := 4) ?hd (cs := #[.int .i64 0, .int .i64 0]) (t := 27) ?hr ?_; (case hd => rfl); (case hg => rfl); (case hr => first | (go_simp; done) | (go_simp; rfl)); intro gb452 hg w45 hbox hb; have n0_ := Aside0.mk (blk_below (g := gb450) (o := .cells #[.int .i64 a0_0, .int .i64 a0_1] 42 (0, 0)) (by (with_reducible repeat (first | refine blk_drewN ?_ _ | refine blk_drew ?_ | refine blk_alloc ?_ _)); exact BK450.out) hb); have n1_ := Aside0.mk (blk_below (g := gb451) (o := .cells #[.int .i64 a1_0, .int .i64 a1_1] 42 (0, 0)) (by (with_reducible repeat (first | refine blk_drewN ?_ _ | refine blk_drew ?_ | refine blk_alloc ?_ _)); exact BK451.out) hb); have n2_ := Aside0.mk (below_step (by repeat (first | (with_reducible first | exact HB.out | apply below_alloc | apply pw_below_drewN | apply below_drew1 | refine below_set ?_ GE450.out | refine below_set ?_ GE451.out) | exact HB.out)) hb); have n3_ := Aside0.mk (hbox); have n4_ := Aside0.mk ((by rw [hg]; exact (below_size (by repeat (first | (with_reducible first | exact HB.out | apply below_alloc | apply pw_below_drewN | apply below_drew1 | refine below_set ?_ GE450.out | refine below_set ?_ GE451.out) | exact HB.out))) : w.heap.size ≤ gb452)); have n5_ := Aside0.mk ((by rw [hg]; exact (below_size (by repeat (first | (with_reducible first | exact HB.out | apply below_alloc | apply pw_below_drewN | apply below_drew1 | refine below_set ?_ GE450.out | refine below_set ?_ GE451.out) | exact HB.out))) : w.heap.size ≤ gb452)); have n6_ := Aside0.mk ((by rw [hg]; exact Nat.ne_of_lt (blk_lt (g := gb450) (o := .cells #[.int .i64 a0_0, .int .i64 a0_1] 42 (0, 0)) (by (with_reducible repeat (first | refine blk_drewN ?_ _ | refine blk_drew ?_ | refine blk_alloc ?_ _)); exact BK450.out)) : gb450 ≠ gb452)); have n7_ := Aside0.mk ((by rw [hg]; exact Nat.ne_of_gt (blk_lt (g := gb450) (o := .cells #[.int .i64 a0_0, .int .i64 a0_1] 42 (0, 0)) (by (with_reducible repeat (first | refine blk_drewN ?_ _ | refine blk_drew ?_ | refine blk_alloc ?_ _)); exact BK450.out)) : gb452 ≠ gb450)); have n8_ := Aside0.mk ((by rw [hg]; exact Nat.ne_of_lt (blk_lt (g := gb451) (o := .cells #[.int .i64 a1_0, .int .i64 a1_1] 42 (0, 0)) (by (with_reducible repeat (first | refine blk_drewN ?_ _ | refine blk_drew ?_ | refine blk_alloc ?_ _)); exact BK451.out)) : gb451 ≠ gb452)); have n9_ := Aside0.mk ((by rw [hg]; exact Nat.ne_of_gt (blk_lt (g := gb451) (o := .cells #[.int .i64 a1_0, .int .i64 a1_1] 42 (0, 0)) (by (with_reducible repeat (first | refine blk_drewN ?_ _ | refine blk_drew ?_ | refine blk_alloc ?_ _)); exact BK451.out)) : gb452 ≠ gb451)); clear BK450; clear BK451; clear HB; have BK450 := n0_; have BK451 := n1_; have HB := n2_; have BK452 := n3_; have GW452 := n4_; have GE452 := n5_; have NB450_452 := n6_; have NB452_450 := n7_; have NB451_452 := n8_; have NB452_451 := n9_; clear n0_ n1_ n2_ n3_ n4_ n5_ n6_ n7_ n8_ n9_; clear hb hbox hg; have hnb46 := NB450_451.out; have hnc46 := NB451_450.out; have hnb47 := NB450_452.out; have hnc47 := NB452_450.out; have hcz48_0 : w45.cell? ⟨gb450, 0, none⟩ = some (.int .i64 a0_0) := (blk_cell BK450.out 0).trans rfl; have hcz48_1 : w45.cell? ⟨gb450, 1, none⟩ = some (.int .i64 a0_1) := (blk_cell BK450.out 1).trans rfl; have hfz48_0 := blk_frozen BK450.out 0; have hfz48_1 := blk_frozen BK450.out 1; have hnb49 := NB451_452.out; have hnc49 := NB452_451.out; have hcz50_0 : w45.cell? ⟨gb451, 0, none⟩ = some (.int .i64 a1_0) := (blk_cell BK451.out 0).trans rfl; have hcz50_1 : w45.cell? ⟨gb451, 1, none⟩ = some (.int .i64 a1_1) := (blk_cell BK451.out 1).trans rfl; have hfz50_0 := blk_frozen BK451.out 0; have hfz50_1 := blk_frozen BK451.out 1; have hcz51_0 : w45.cell? ⟨gb452, 0, none⟩ = some (.int .i64 0) := (blk_cell BK452.out 0).trans rfl; have hcz51_1 : w45.cell? ⟨gb452, 1, none⟩ = some (.int .i64 0) := (blk_cell BK452.out 1).trans rfl; have hfz51_0 := blk_frozen BK452.out 0; have hfz51_1 := blk_frozen BK452.out 1))
            refine bodyPost_ret (results_ct rfl _ _ gb452 27 #[.int .i64 0, .int .i64 0] (0, 0) _ rfl (by (with_reducible repeat (first | refine blk_drewN ?_ _ | refine blk_drew ?_ | refine blk_alloc ?_ _)); refine blk_put (cs := #[.int .i64 0, .int .i64 0]) ?_ 1 _ rfl; (with_reducible repeat (first | refine blk_drewN ?_ _ | refine blk_drew ?_ | refine blk_alloc ?_ _)); refine blk_put (cs := #[.int .i64 0, .int .i64 0]) ?_ 0 _ rfl; (with_reducible repeat (first | refine blk_drewN ?_ _ | refine blk_drew ?_ | refine blk_alloc ?_ _)); exact BK452.out) Try.underlying27 rfl (by kernel_rfl)) rfl ?_
            exact ⟨by first | rfl | (simp [errW_none, errW_some] <;> rfl) | (simp [*, errW_none, errW_some] <;> rfl), by repeat (first | (with_reducible first | exact HB.out | apply below_alloc | apply pw_below_drewN | apply below_drew1 | refine below_set ?_ GE450.out | refine below_set ?_ GE451.out | refine below_set ?_ GE452.out) | exact HB.out)⟩
          · rw [if_neg c42] at H
            have c42b0 : decide (a0_0 < 0) = false := decide_eq_false c42
            clear c42
            by_cases c52 : a1_0 < 0
            · rw [if_pos c52] at H
              have c52b0 : decide (a1_0 < 0) = true := decide_eq_true c52
              clear c52
              simp only [Option.some.injEq, Prod.mk.injEq] at H
              obtain ⟨rfl, rfl, rfl⟩ := H
              go_enter Try.func42, Try.ntmps42
              go_wp2_with (first | ((with_reducible refine gate_dst (N := 2) rfl ?_); refine box_event ?hg (N := 2) ?hd (cs := #[.int .i64 a0_0, .int .i64 a0_1]) (t := 42) ?hr ?_; (case hd => rfl); (case hg => rfl); (case hr => first | (go_simp; done) | (go_simp; rfl)); intro gb450 hg w53 hbox hb; have n0_ := Aside0.mk (below_step (by repeat (first | (with_reducible first | exact HB.out | apply below_alloc | apply pw_below_drewN | apply below_drew1) | exact HB.out)) hb); have n1_ := Aside0.mk (hbox); have n2_ := Aside0.mk ((by rw [hg]; exact (below_size (by repeat (first | (with_reducible first | exact HB.out | apply below_alloc | apply pw_below_drewN | apply below_drew1) | exact HB.out))) : w.heap.size ≤ gb450)); have n3_ := Aside0.mk ((by rw [hg]; exact (below_size (by repeat (first | (with_reducible first | exact HB.out | apply below_alloc | apply pw_below_drewN | apply below_drew1) | exact HB.out))) : w.heap.size ≤ gb450)); clear HB; have HB := n0_; have BK450 := n1_; have GW450 := n2_; have GE450 := n3_; clear n0_ n1_ n2_ n3_; clear hb hbox hg) | ((with_reducible refine gate_dst (N := 3) rfl ?_); refine box_event ?hg (N := 3) ?hd (cs := #[.int .i64 a1_0, .int .i64 a1_1]) (t := 42) ?hr ?_; (case hd => rfl); (case hg => rfl); (case hr => first | (go_simp; done) | (go_simp; rfl)); intro gb451 hg w54 hbox hb; have n0_ := Aside0.mk (blk_below (g := gb450) (o := .cells #[.int .i64 a0_0, .int .i64 a0_1] 42 (0, 0)) (by (with_reducible repeat (first | refine blk_drewN ?_ _ | refine blk_drew ?_ | refine blk_alloc ?_ _)); exact BK450.out) hb); have n1_ := Aside0.mk (below_step (by repeat (first | (with_reducible first | exact HB.out | apply below_alloc | apply pw_below_drewN | apply below_drew1 | refine below_set ?_ GE450.out) | exact HB.out)) hb); have n2_ := Aside0.mk (hbox); have n3_ := Aside0.mk ((by rw [hg]; exact (below_size (by repeat (first | (with_reducible first | exact HB.out | apply below_alloc | apply pw_below_drewN | apply below_drew1 | refine below_set ?_ GE450.out) | exact HB.out))) : w.heap.size ≤ gb451)); have n4_ := Aside0.mk ((by rw [hg]; exact (below_size (by repeat (first | (with_reducible first | exact HB.out | apply below_alloc | apply pw_below_drewN | apply below_drew1 | refine below_set ?_ GE450.out) | exact HB.out))) : w.heap.size ≤ gb451)); have n5_ := Aside0.mk ((by rw [hg]; exact Nat.ne_of_lt (blk_lt (g := gb450) (o := .cells #[.int .i64 a0_0, .int .i64 a0_1] 42 (0, 0)) (by (with_reducible repeat (first | refine blk_drewN ?_ _ | refine blk_drew ?_ | refine blk_alloc ?_ _)); exact BK450.out)) : gb450 ≠ gb451)); have n6_ := Aside0.mk ((by rw [hg]; exact Nat.ne_of_gt (blk_lt (g := gb450) (o := .cells #[.int .i64 a0_0, .int .i64 a0_1] 42 (0, 0)) (by (with_reducible repeat (first | refine blk_drewN ?_ _ | refine blk_drew ?_ | refine blk_alloc ?_ _)); exact BK450.out)) : gb451 ≠ gb450)); clear BK450; clear HB; have BK450 := n0_; have HB := n1_; have BK451 := n2_; have GW451 := n3_; have GE451 := n4_; have NB450_451 := n5_; have NB451_450 := n6_; clear n0_ n1_ n2_ n3_ n4_ n5_ n6_; clear hb hbox hg) | ((with_reducible refine gate_dst (N := 4) rfl ?_); refine box_event ?hg (N := 4) ?hd (cs := #[.int .i64 0, .int .i64 0]) (t := 27) ?hr ?_; (case hd => rfl); (case hg => rfl); (case hr => first | (go_simp; done) | (go_simp; rfl)); intro gb452 hg w55 hbox hb; have n0_ := Aside0.mk (blk_below (g := gb450) (o := .cells #[.int .i64 a0_0, .int .i64 a0_1] 42 (0, 0)) (by (with_reducible repeat (first | refine blk_drewN ?_ _ | refine blk_drew ?_ | refine blk_alloc ?_ _)); exact BK450.out) hb); have n1_ := Aside0.mk (blk_below (g := gb451) (o := .cells #[.int .i64 a1_0, .int .i64 a1_1] 42 (0, 0)) (by (with_reducible repeat (first | refine blk_drewN ?_ _ | refine blk_drew ?_ | refine blk_alloc ?_ _)); exact BK451.out) hb); have n2_ := Aside0.mk (below_step (by repeat (first | (with_reducible first | exact HB.out | apply below_alloc | apply pw_below_drewN | apply below_drew1 | refine below_set ?_ GE450.out | refine below_set ?_ GE451.out) | exact HB.out)) hb); have n3_ := Aside0.mk (hbox); have n4_ := Aside0.mk ((by rw [hg]; exact (below_size (by repeat (first | (with_reducible first | exact HB.out | apply below_alloc | apply pw_below_drewN | apply below_drew1 | refine below_set ?_ GE450.out | refine below_set ?_ GE451.out) | exact HB.out))) : w.heap.size ≤ gb452)); have n5_ := Aside0.mk ((by rw [hg]; exact (below_size (by repeat (first | (with_reducible first | exact HB.out | apply below_alloc | apply pw_below_drewN | apply below_drew1 | refine below_set ?_ GE450.out | refine below_set ?_ GE451.out) | exact HB.out))) : w.heap.size ≤ gb452)); have n6_ := Aside0.mk ((by rw [hg]; exact Nat.ne_of_lt (blk_lt (g := gb450) (o := .cells #[.int .i64 a0_0, .int .i64 a0_1] 42 (0, 0)) (by (with_reducible repeat (first | refine blk_drewN ?_ _ | refine blk_drew ?_ | refine blk_alloc ?_ _)); exact BK450.out)) : gb450 ≠ gb452)); have n7_ := Aside0.mk ((by rw [hg]; exact Nat.ne_of_gt (blk_lt (g := gb450) (o := .cells #[.int .i64 a0_0, .int .i64 a0_1] 42 (0, 0)) (by (with_reducible repeat (first | refine blk_drewN ?_ _ | refine blk_drew ?_ | refine blk_alloc ?_ _)); exact BK450.out)) : gb452 ≠ gb450)); have n8_ := Aside0.mk ((by rw [hg]; exact Nat.ne_of_lt (blk_lt (g := gb451) (o := .cells #[.int .i64 a1_0, .int .i64 a1_1] 42 (0, 0)) (by (with_reducible repeat (first | refine blk_drewN ?_ _ | refine blk_drew ?_ | refine blk_alloc ?_ _)); exact BK451.out)) : gb451 ≠ gb452)); have n9_ := Aside0.mk ((by rw [hg]; exact Nat.ne_of_gt (blk_lt (g := gb451) (o := .cells #[.int .i64 a1_0, .int .i64 a1_1] 42 (0, 0)) (by (with_reducible repeat (first | refine blk_drewN ?_ _ | refine blk_drew ?_ | refine blk_alloc ?_ _)); exact BK451.out)) : gb452 ≠ gb451)); clear BK450; clear BK451; clear HB; have BK450 := n0_; have BK451 := n1_; have HB := n2_; have BK452 := n3_; have GW452 := n4_; have GE452 := n5_; have NB450_452 := n6_; have NB452_450 := n7_; have NB451_452 := n8_; have NB452_451 := n9_; clear n0_ n1_ n2_ n3_ n4_ n5_ n6_ n7_ n8_ n9_; clear hb hbox hg; have hnb56 := NB450_451.out; have hnc56 := NB451_450.out; have hnb57 := NB450_452.out; have hnc57 := NB452_450.out; have hcz58_0 : w55.cell? ⟨gb450, 0, none⟩ = some (.int .i64 a0_0) := (blk_cell BK450.out 0).trans rfl; have hcz58_1 : w55.cell? ⟨gb450, 1, none⟩ = some (.int .i64 a0_1) := (blk_cell BK450.out 1).trans rfl; have hfz58_0 := blk_frozen BK450.out 0; have hfz58_1 := blk_frozen BK450.out 1; have hnb59 := NB451_452.out; have hnc59 := NB452_451.out; have hcz60_0 : w55.cell? ⟨gb451, 0, none⟩ = some (.int .i64 a1_0) := (blk_cell BK451.out 0).trans rfl; have hcz60_1 : w55.cell? ⟨gb451, 1, none⟩ = some (.int .i64 a1_1) := (blk_cell BK451.out 1).trans rfl; have hfz60_0 := blk_frozen BK451.out 0; have hfz60_1 := blk_frozen BK451.out 1; have hcz61_0 : w55.cell? ⟨gb452, 0, none⟩ = some (.int .i64 0) := (blk_cell BK452.out 0).trans rfl; have hcz61_1 : w55.cell? ⟨gb452, 1, none⟩ = some (.int .i64 0) := (blk_cell BK452.out 1).trans rfl; have hfz61_0 := blk_frozen BK452.out 0; have hfz61_1 := blk_frozen BK452.out 1))
              refine bodyPost_ret (results_ct rfl _ _ gb452 27 #[.int .i64 0, .int .i64 0] (0, 0) _ rfl (by (with_reducible repeat (first | refine blk_drewN ?_ _ | refine blk_drew ?_ | refine blk_alloc ?_ _)); refine blk_put (cs := #[.int .i64 0, .int .i64 0]) ?_ 1 _ rfl; (with_reducible repeat (first | refine blk_drewN ?_ _ | refine blk_drew ?_ | refine blk_alloc ?_ _)); refine blk_put (cs := #[.int .i64 0, .int .i64 0]) ?_ 0 _ rfl; (with_reducible repeat (first | refine blk_drewN ?_ _ | refine blk_drew ?_ | refine blk_alloc ?_ _)); exact BK452.out) Try.underlying27 rfl (by kernel_rfl)) rfl ?_
              exact ⟨by first | rfl | (simp [errW_none, errW_some] <;> rfl) | (simp [*, errW_none, errW_some] <;> rfl), by repeat (first | (with_reducible first | exact HB.out | apply below_alloc | apply pw_below_drewN | apply below_drew1 | refine below_set ?_ GE450.out | refine below_set ?_ GE451.out | refine below_set ?_ GE452.out) | exact HB.out)⟩
            · rw [if_neg c52] at H
              have c52b0 : decide (a1_0 < 0) = false := decide_eq_false c52
              clear c52
              by_cases c62 : a0_0 > 4398046511104
              · rw [if_pos c62] at H
                have c62b0 : decide (4398046511104 < a0_0) = true := decide_eq_true c62
                clear c62
                simp only [Option.some.injEq, Prod.mk.injEq] at H
                obtain ⟨rfl, rfl, rfl⟩ := H
                go_enter Try.func42, Try.ntmps42
                go_wp2_with (first | ((with_reducible refine gate_dst (N := 2) rfl ?_); refine box_event ?hg (N := 2) ?hd (cs := #[.int .i64 a0_0, .int .i64 a0_1]) (t := 42) ?hr ?_; (case hd => rfl); (case hg => rfl); (case hr => first | (go_simp; done) | (go_simp; rfl)); intro gb450 hg w63 hbox hb; have n0_ := Aside0.mk (below_step (by repeat (first | (with_reducible first | exact HB.out | apply below_alloc | apply pw_below_drewN | apply below_drew1) | exact HB.out)) hb); have n1_ := Aside0.mk (hbox); have n2_ := Aside0.mk ((by rw [hg]; exact (below_size (by repeat (first | (with_reducible first | exact HB.out | apply below_alloc | apply pw_below_drewN | apply below_drew1) | exact HB.out))) : w.heap.size ≤ gb450)); have n3_ := Aside0.mk ((by rw [hg]; exact (below_size (by repeat (first | (with_reducible first | exact HB.out | apply below_alloc | apply pw_below_drewN | apply below_drew1) | exact HB.out))) : w.heap.size ≤ gb450)); clear HB; have HB := n0_; have BK450 := n1_; have GW450 := n2_; have GE450 := n3_; clear n0_ n1_ n2_ n3_; clear hb hbox hg) | ((with_reducible refine gate_dst (N := 3) rfl ?_); refine box_event ?hg (N := 3) ?hd (cs := #[.int .i64 a1_0, .int .i64 a1_1]) (t := 42) ?hr ?_; (case hd => rfl); (case hg => rfl); (case hr => first | (go_simp; done) | (go_simp; rfl)); intro gb451 hg w64 hbox hb; have n0_ := Aside0.mk (blk_below (g := gb450) (o := .cells #[.int .i64 a0_0, .int .i64 a0_1] 42 (0, 0)) (by (with_reducible repeat (first | refine blk_drewN ?_ _ | refine blk_drew ?_ | refine blk_alloc ?_ _)); exact BK450.out) hb); have n1_ := Aside0.mk (below_step (by repeat (first | (with_reducible first | exact HB.out | apply below_alloc | apply pw_below_drewN | apply below_drew1 | refine below_set ?_ GE450.out) | exact HB.out)) hb); have n2_ := Aside0.mk (hbox); have n3_ := Aside0.mk ((by rw [hg]; exact (below_size (by repeat (first | (with_reducible first | exact HB.out | apply below_alloc | apply pw_below_drewN | apply below_drew1 | refine below_set ?_ GE450.out) | exact HB.out))) : w.heap.size ≤ gb451)); have n4_ := Aside0.mk ((by rw [hg]; exact (below_size (by repeat (first | (with_reducible first | exact HB.out | apply below_alloc | apply pw_below_drewN | apply below_drew1 | refine below_set ?_ GE450.out) | exact HB.out))) : w.heap.size ≤ gb451)); have n5_ := Aside0.mk ((by rw [hg]; exact Nat.ne_of_lt (blk_lt (g := gb450) (o := .cells #[.int .i64 a0_0, .int .i64 a0_1] 42 (0, 0)) (by (with_reducible repeat (first | refine blk_drewN ?_ _ | refine blk_drew ?_ | refine blk_alloc ?_ _)); exact BK450.out)) : gb450 ≠ gb451)); have n6_ := Aside0.mk ((by rw [hg]; exact Nat.ne_of_gt (blk_lt (g := gb450) (o := .cells #[.int .i64 a0_0, .int .i64 a0_1] 42 (0, 0)) (by (with_reducible repeat (first | refine blk_drewN ?_ _ | refine blk_drew ?_ | refine blk_alloc ?_ _)); exact BK450.out)) : gb451 ≠ gb450)); clear BK450; clear HB; have BK450 := n0_; have HB := n1_; have BK451 := n2_; have GW451 := n3_; have GE451 := n4_; have NB450_451 := n5_; have NB451_450 := n6_; clear n0_ n1_ n2_ n3_ n4_ n5_ n6_; clear hb hbox hg) | ((with_reducible refine gate_dst (N := 4) rfl ?_); refine box_event ?hg (N := 4) ?hd (cs := #[.int .i64 0, .int .i64 0]) (t := 27) ?hr ?_; (case hd => rfl); (case hg => rfl); (case hr => first | (go_simp; done) | (go_simp; rfl)); intro gb452 hg w65 hbox hb; have n0_ := Aside0.mk (blk_below (g := gb450) (o := .cells #[.int .i64 a0_0, .int .i64 a0_1] 42 (0, 0)) (by (with_reducible repeat (first | refine blk_drewN ?_ _ | refine blk_drew ?_ | refine blk_alloc ?_ _)); exact BK450.out) hb); have n1_ := Aside0.mk (blk_below (g := gb451) (o := .cells #[.int .i64 a1_0, .int .i64 a1_1] 42 (0, 0)) (by (with_reducible repeat (first | refine blk_drewN ?_ _ | refine blk_drew ?_ | refine blk_alloc ?_ _)); exact BK451.out) hb); have n2_ := Aside0.mk (below_step (by repeat (first | (with_reducible first | exact HB.out | apply below_alloc | apply pw_below_drewN | apply below_drew1 | refine below_set ?_ GE450.out | refine below_set ?_ GE451.out) | exact HB.out)) hb); have n3_ := Aside0.mk (hbox); have n4_ := Aside0.mk ((by rw [hg]; exact (below_size (by repeat (first | (with_reducible first | exact HB.out | apply below_alloc | apply pw_below_drewN | apply below_drew1 | refine below_set ?_ GE450.out | refine below_set ?_ GE451.out) | exact HB.out))) : w.heap.size ≤ gb452)); have n5_ := Aside0.mk ((by rw [hg]; exact (below_size (by repeat (first | (with_reducible first | exact HB.out | apply below_alloc | apply pw_below_drewN | apply below_drew1 | refine below_set ?_ GE450.out | refine below_set ?_ GE451.out) | exact HB.out))) : w.heap.size ≤ gb452)); have n6_ := Aside0.mk ((by rw [hg]; exact Nat.ne_of_lt (blk_lt (g := gb450) (o := .cells #[.int .i64 a0_0, .int .i64 a0_1] 42 (0, 0)) (by (with_reducible repeat (first | refine blk_drewN ?_ _ | refine blk_drew ?_ | refine blk_alloc ?_ _)); exact BK450.out)) : gb450 ≠ gb452)); have n7_ := Aside0.mk ((by rw [hg]; exact Nat.ne_of_gt (blk_lt (g := gb450) (o := .cells #[.int .i64 a0_0, .int .i64 a0_1] 42 (0, 0)) (by (with_reducible repeat (first | refine blk_drewN ?_ _ | refine blk_drew ?_ | refine blk_alloc ?_ _)); exact BK450.out)) : gb452 ≠ gb450)); have n8_ := Aside0.mk ((by rw [hg]; exact Nat.ne_of_lt (blk_lt (g := gb451) (o := .cells #[.int .i64 a1_0, .int .i64 a1_1] 42 (0, 0)) (by (with_reducible repeat (first | refine blk_drewN ?_ _ | refine blk_drew ?_ | refine blk_alloc ?_ _)); exact BK451.out)) : gb451 ≠ gb452)); have n9_ := Aside0.mk ((by rw [hg]; exact Nat.ne_of_gt (blk_lt (g := gb451) (o := .cells #[.int .i64 a1_0, .int .i64 a1_1] 42 (0, 0)) (by (with_reducible repeat (first | refine blk_drewN ?_ _ | refine blk_drew ?_ | refine blk_alloc ?_ _)); exact BK451.out)) : gb452 ≠ gb451)); clear BK450; clear BK451; clear HB; have BK450 := n0_; have BK451 := n1_; have HB := n2_; have BK452 := n3_; have GW452 := n4_; have GE452 := n5_; have NB450_452 := n6_; have NB452_450 := n7_; have NB451_452 := n8_; have NB452_451 := n9_; clear n0_ n1_ n2_ n3_ n4_ n5_ n6_ n7_ n8_ n9_; clear hb hbox hg; have hnb66 := NB450_451.out; have hnc66 := NB451_450.out; have hnb67 := NB450_452.out; have hnc67 := NB452_450.out; have hcz68_0 : w65.cell? ⟨gb450, 0, none⟩ = some (.int .i64 a0_0) := (blk_cell BK450.out 0).trans rfl; have hcz68_1 : w65.cell? ⟨gb450, 1, none⟩ = some (.int .i64 a0_1) := (blk_cell BK450.out 1).trans rfl; have hfz68_0 := blk_frozen BK450.out 0; have hfz68_1 := blk_frozen BK450.out 1; have hnb69 := NB451_452.out; have hnc69 := NB452_451.out; have hcz70_0 : w65.cell? ⟨gb451, 0, none⟩ = some (.int .i64 a1_0) := (blk_cell BK451.out 0).trans rfl; have hcz70_1 : w65.cell? ⟨gb451, 1, none⟩ = some (.int .i64 a1_1) := (blk_cell BK451.out 1).trans rfl; have hfz70_0 := blk_frozen BK451.out 0; have hfz70_1 := blk_frozen BK451.out 1; have hcz71_0 : w65.cell? ⟨gb452, 0, none⟩ = some (.int .i64 0) := (blk_cell BK452.out 0).trans rfl; have hcz71_1 : w65.cell? ⟨gb452, 1, none⟩ = some (.int .i64 0) := (blk_cell BK452.out 1).trans rfl; have hfz71_0 := blk_frozen BK452.out 0; have hfz71_1 := blk_frozen BK452.out 1))
                refine bodyPost_ret (results_ct rfl _ _ gb452 27 #[.int .i64 0, .int .i64 0] (0, 0) _ rfl (by (with_reducible repeat (first | refine blk_drewN ?_ _ | refine blk_drew ?_ | refine blk_alloc ?_ _)); refine blk_put (cs := #[.int .i64 0, .int .i64 0]) ?_ 1 _ rfl; (with_reducible repeat (first | refine blk_drewN ?_ _ | refine blk_drew ?_ | refine blk_alloc ?_ _)); refine blk_put (cs := #[.int .i64 0, .int .i64 0]) ?_ 0 _ rfl; (with_reducible repeat (first | refine blk_drewN ?_ _ | refine blk_drew ?_ | refine blk_alloc ?_ _)); exact BK452.out) Try.underlying27 rfl (by kernel_rfl)) rfl ?_
                exact ⟨by first | rfl | (simp [errW_none, errW_some] <;> rfl) | (simp [*, errW_none, errW_some] <;> rfl), by repeat (first | (with_reducible first | exact HB.out | apply below_alloc | apply pw_below_drewN | apply below_drew1 | refine below_set ?_ GE450.out | refine below_set ?_ GE451.out | refine below_set ?_ GE452.out) | exact HB.out)⟩
              · rw [if_neg c62] at H
                have c62b0 : decide (4398046511104 < a0_0) = false := decide_eq_false c62
                clear c62
                by_cases c72 : a1_0 > 4398046511104
                · rw [if_pos c72] at H
                  have c72b0 : decide (4398046511104 < a1_0) = true := decide_eq_true c72
                  clear c72
                  simp only [Option.some.injEq, Prod.mk.injEq] at H
                  obtain ⟨rfl, rfl, rfl⟩ := H
                  go_enter Try.func42, Try.ntmps42
                  go_wp2_with (first | ((with_reducible refine gate_dst (N := 2) rfl ?_); refine box_event ?hg (N := 2) ?hd (cs := #[.int .i64 a0_0, .int .i64 a0_1]) (t := 42) ?hr ?_; (case hd => rfl); (case hg => rfl); (case hr => first | (go_simp; done) | (go_simp; rfl)); intro gb450 hg w73 hbox hb; have n0_ := Aside0.mk (below_step (by repeat (first | (with_reducible first | exact HB.out | apply below_alloc | apply pw_below_drewN | apply below_drew1) | exact HB.out)) hb); have n1_ := Aside0.mk (hbox); have n2_ := Aside0.mk ((by rw [hg]; exact (below_size (by repeat (first | (with_reducible first | exact HB.out | apply below_alloc | apply pw_below_drewN | apply below_drew1) | exact HB.out))) : w.heap.size ≤ gb450)); have n3_ := Aside0.mk ((by rw [hg]; exact (below_size (by repeat (first | (with_reducible first | exact HB.out | apply below_alloc | apply pw_below_drewN | apply below_drew1) | exact HB.out))) : w.heap.size ≤ gb450)); clear HB; have HB := n0_; have BK450 := n1_; have GW450 := n2_; have GE450 := n3_; clear n0_ n1_ n2_ n3_; clear hb hbox hg) | ((with_reducible refine gate_dst (N := 3) rfl ?_); refine box_event ?hg (N := 3) ?hd (cs := #[.int .i64 a1_0, .int .i64 a1_1]) (t := 42) ?hr ?_; (case hd => rfl); (case hg => rfl); (case hr => first | (go_simp; done) | (go_simp; rfl)); intro gb451 hg w74 hbox hb; have n0_ := Aside0.mk (blk_below (g := gb450) (o := .cells #[.int .i64 a0_0, .int .i64 a0_1] 42 (0, 0)) (by (with_reducible repeat (first | refine blk_drewN ?_ _ | refine blk_drew ?_ | refine blk_alloc ?_ _)); exact BK450.out) hb); have n1_ := Aside0.mk (below_step (by repeat (first | (with_reducible first | exact HB.out | apply below_alloc | apply pw_below_drewN | apply below_drew1 | refine below_set ?_ GE450.out) | exact HB.out)) hb); have n2_ := Aside0.mk (hbox); have n3_ := Aside0.mk ((by rw [hg]; exact (below_size (by repeat (first | (with_reducible first | exact HB.out | apply below_alloc | apply pw_below_drewN | apply below_drew1 | refine below_set ?_ GE450.out) | exact HB.out))) : w.heap.size ≤ gb451)); have n4_ := Aside0.mk ((by rw [hg]; exact (below_size (by repeat (first | (with_reducible first | exact HB.out | apply below_alloc | apply pw_below_drewN | apply below_drew1 | refine below_set ?_ GE450.out) | exact HB.out))) : w.heap.size ≤ gb451)); have n5_ := Aside0.mk ((by rw [hg]; exact Nat.ne_of_lt (blk_lt (g := gb450) (o := .cells #[.int .i64 a0_0, .int .i64 a0_1] 42 (0, 0)) (by (with_reducible repeat (first | refine blk_drewN ?_ _ | refine blk_drew ?_ | refine blk_alloc ?_ _)); exact BK450.out)) : gb450 ≠ gb451)); have n6_ := Aside0.mk ((by rw [hg]; exact Nat.ne_of_gt (blk_lt (g := gb450) (o := .cells #[.int .i64 a0_0, .int .i64 a0_1] 42 (0, 0)) (by (with_reducible repeat (first | refine blk_drewN ?_ _ | refine blk_drew ?_ | refine blk_alloc ?_ _)); exact BK450.out)) : gb451 ≠ gb450)); clear BK450; clear HB; have BK450 := n0_; have HB := n1_; have BK451 := n2_; have GW451 := n3_; have GE451 := n4_; have NB450_451 := n5_; have NB451_450 := n6_; clear n0_ n1_ n2_ n3_ n4_ n5_ n6_; clear hb hbox hg) | ((with_reducible refine gate_dst (N := 4) rfl ?_); refine box_event ?hg (N := 4) ?hd (cs := #[.int .i64 0, .int .i64 0]) (t := 27) ?hr ?_; (case hd => rfl); (case hg => rfl); (case hr => first | (go_simp; done) | (go_simp; rfl)); intro gb452 hg w75 hbox hb; have n0_ := Aside0.mk (blk_below (g := gb450) (o := .cells #[.int .i64 a0_0, .int .i64 a0_1] 42 (0, 0)) (by (with_reducible repeat (first | refine blk_drewN ?_ _ | refine blk_drew ?_ | refine blk_alloc ?_ _)); exact BK450.out) hb); have n1_ := Aside0.mk (blk_below (g := gb451) (o := .cells #[.int .i64 a1_0, .int .i64 a1_1] 42 (0, 0)) (by (with_reducible repeat (first | refine blk_drewN ?_ _ | refine blk_drew ?_ | refine blk_alloc ?_ _)); exact BK451.out) hb); have n2_ := Aside0.mk (below_step (by repeat (first | (with_reducible first | exact HB.out | apply below_alloc | apply pw_below_drewN | apply below_drew1 | refine below_set ?_ GE450.out | refine below_set ?_ GE451.out) | exact HB.out)) hb); have n3_ := Aside0.mk (hbox); have n4_ := Aside0.mk ((by rw [hg]; exact (below_size (by repeat (first | (with_reducible first | exact HB.out | apply below_alloc | apply pw_below_drewN | apply below_drew1 | refine below_set ?_ GE450.out | refine below_set ?_ GE451.out) | exact HB.out))) : w.heap.size ≤ gb452)); have n5_ := Aside0.mk ((by rw [hg]; exact (below_size (by repeat (first | (with_reducible first | exact HB.out | apply below_alloc | apply pw_below_drewN | apply below_drew1 | refine below_set ?_ GE450.out | refine below_set ?_ GE451.out) | exact HB.out))) : w.heap.size ≤ gb452)); have n6_ := Aside0.mk ((by rw [hg]; exact Nat.ne_of_lt (blk_lt (g := gb450) (o := .cells #[.int .i64 a0_0, .int .i64 a0_1] 42 (0, 0)) (by (with_reducible repeat (first | refine blk_drewN ?_ _ | refine blk_drew ?_ | refine blk_alloc ?_ _)); exact BK450.out)) : gb450 ≠ gb452)); have n7_ := Aside0.mk ((by rw [hg]; exact Nat.ne_of_gt (blk_lt (g := gb450) (o := .cells #[.int .i64 a0_0, .int .i64 a0_1] 42 (0, 0)) (by (with_reducible repeat (first | refine blk_drewN ?_ _ | refine blk_drew ?_ | refine blk_alloc ?_ _)); exact BK450.out)) : gb452 ≠ gb450)); have n8_ := Aside0.mk ((by rw [hg]; exact Nat.ne_of_lt (blk_lt (g := gb451) (o := .cells #[.int .i64 a1_0, .int .i64 a1_1] 42 (0, 0)) (by (with_reducible repeat (first | refine blk_drewN ?_ _ | refine blk_drew ?_ | refine blk_alloc ?_ _)); exact BK451.out)) : gb451 ≠ gb452)); have n9_ := Aside0.mk ((by rw [hg]; exact Nat.ne_of_gt (blk_lt (g := gb451) (o := .cells #[.int .i64 a1_0, .int .i64 a1_1] 42 (0, 0)) (by (with_reducible repeat (first | refine blk_drewN ?_ _ | refine blk_drew ?_ | refine blk_alloc ?_ _)); exact BK451.out)) : gb452 ≠ gb451)); clear BK450; clear BK451; clear HB; have BK450 := n0_; have BK451 := n1_; have HB := n2_; have BK452 := n3_; have GW452 := n4_; have GE452 := n5_; have NB450_452 := n6_; have NB452_450 := n7_; have NB451_452 := n8_; have NB452_451 := n9_; clear n0_ n1_ n2_ n3_ n4_ n5_ n6_ n7_ n8_ n9_; clear hb hbox hg; have hnb76 := NB450_451.out; have hnc76 := NB451_450.out; have hnb77 := NB450_452.out; have hnc77 := NB452_450.out; have hcz78_0 : w75.cell? ⟨gb450, 0, none⟩ = some (.int .i64 a0_0) := (blk_cell BK450.out 0).trans rfl; have hcz78_1 : w75.cell? ⟨gb450, 1, none⟩ = some (.int .i64 a0_1) := (blk_cell BK450.out 1).trans rfl; have hfz78_0 := blk_frozen BK450.out 0; have hfz78_1 := blk_frozen BK450.out 1; have hnb79 := NB451_452.out; have hnc79 := NB452_451.out; have hcz80_0 : w75.cell? ⟨gb451, 0, none⟩ = some (.int .i64 a1_0) := (blk_cell BK451.out 0).trans rfl; have hcz80_1 : w75.cell? ⟨gb451, 1, none⟩ = some (.int .i64 a1_1) := (blk_cell BK451.out 1).trans rfl; have hfz80_0 := blk_frozen BK451.out 0; have hfz80_1 := blk_frozen BK451.out 1; have hcz81_0 : w75.cell? ⟨gb452, 0, none⟩ = some (.int .i64 0) := (blk_cell BK452.out 0).trans rfl; have hcz81_1 : w75.cell? ⟨gb452, 1, none⟩ = some (.int .i64 0) := (blk_cell BK452.out 1).trans rfl; have hfz81_0 := blk_frozen BK452.out 0; have hfz81_1 := blk_frozen BK452.out 1))
                  refine bodyPost_ret (results_ct rfl _ _ gb452 27 #[.int .i64 0, .int .i64 0] (0, 0) _ rfl (by (with_reducible repeat (first | refine blk_drewN ?_ _ | refine blk_drew ?_ | refine blk_alloc ?_ _)); refine blk_put (cs := #[.int .i64 0, .int .i64 0]) ?_ 1 _ rfl; (with_reducible repeat (first | refine blk_drewN ?_ _ | refine blk_drew ?_ | refine blk_alloc ?_ _)); refine blk_put (cs := #[.int .i64 0, .int .i64 0]) ?_ 0 _ rfl; (with_reducible repeat (first | refine blk_drewN ?_ _ | refine blk_drew ?_ | refine blk_alloc ?_ _)); exact BK452.out) Try.underlying27 rfl (by kernel_rfl)) rfl ?_
                  exact ⟨by first | rfl | (simp [errW_none, errW_some] <;> rfl) | (simp [*, errW_none, errW_some] <;> rfl), by repeat (first | (with_reducible first | exact HB.out | apply below_alloc | apply pw_below_drewN | apply below_drew1 | refine below_set ?_ GE450.out | refine below_set ?_ GE451.out | refine below_set ?_ GE452.out) | exact HB.out)⟩
                · rw [if_neg c72] at H
                  have c72b0 : decide (4398046511104 < a1_0) = false := decide_eq_false c72
                  clear c72
                  by_cases c82 : (wrap64 (a0_1 * a1_1)) = 0
                  · rw [if_pos c82] at H
                    exact absurd H (by simp)
                  · rw [if_neg c82] at H
                    have c82b0 : ((wrap64 (a0_1 * a1_1)) == 0) = false := beq_eq_false_iff_ne.mpr c82
                    have c82b1 : ((wrap64 (a0_1 * a1_1)) != 0) = true := bne_iff_ne.mpr c82
                    replace H := Option.bind_eq_some_iff.mp H
                    obtain ⟨⟨t453, t454⟩, A830, H⟩ := H
                    replace H : (some (t453, t454, decide ((wrap64 ((wrap64 (a0_0 * a1_1)) - (wrap64 (a1_0 * a0_1)))) ≥ 0))) = some (r1, r2, r3) := H
                    have A83 := Aside0.mk A830
                    clear A830
                    simp only [Option.some.injEq, Prod.mk.injEq] at H
                    obtain ⟨rfl, rfl, rfl⟩ := H
                    go_enter Try.func42, Try.ntmps42
                    try go_wp2_with (first | ((with_reducible refine gate_dst (N := 2) rfl ?_); refine box_event ?hg (N := 2) ?hd (cs := #[.int .i64 a0_0, .int .i64 a0_1]) (t := 42) ?hr ?_; (case hd => rfl); (case hg => rfl); (case hr => first | (go_simp; done) | (go_simp; rfl)); intro gb450 hg w84 hbox hb; have n0_ := Aside0.mk (below_step (by repeat (first | (with_reducible first | exact HB.out | apply below_alloc | apply pw_below_drewN | apply below_drew1) | exact HB.out)) hb); have n1_ := Aside0.mk (hbox); have n2_ := Aside0.mk ((by rw [hg]; exact (below_size (by repeat (first | (with_reducible first | exact HB.out | apply below_alloc | apply pw_below_drewN | apply below_drew1) | exact HB.out))) : w.heap.size ≤ gb450)); have n3_ := Aside0.mk ((by rw [hg]; exact (below_size (by repeat (first | (with_reducible first | exact HB.out | apply below_alloc | apply pw_below_drewN | apply below_drew1) | exact HB.out))) : w.heap.size ≤ gb450)); clear HB; have HB := n0_; have BK450 := n1_; have GW450 := n2_; have GE450 := n3_; clear n0_ n1_ n2_ n3_; clear hb hbox hg) | ((with_reducible refine gate_dst (N := 3) rfl ?_); refine box_event ?hg (N := 3) ?hd (cs := #[.int .i64 a1_0, .int .i64 a1_1]) (t := 42) ?hr ?_; (case hd => rfl); (case hg => rfl); (case hr => first | (go_simp; done) | (go_simp; rfl)); intro gb451 hg w85 hbox hb; have n0_ := Aside0.mk (blk_below (g := gb450) (o := .cells #[.int .i64 a0_0, .int .i64 a0_1] 42 (0, 0)) (by (with_reducible repeat (first | refine blk_drewN ?_ _ | refine blk_drew ?_ | refine blk_alloc ?_ _)); exact BK450.out) hb); have n1_ := Aside0.mk (below_step (by repeat (first | (with_reducible first | exact HB.out | apply below_alloc | apply pw_below_drewN | apply below_drew1 | refine below_set ?_ GE450.out) | exact HB.out)) hb); have n2_ := Aside0.mk (hbox); have n3_ := Aside0.mk ((by rw [hg]; exact (below_size (by repeat (first | (with_reducible first | exact HB.out | apply below_alloc | apply pw_below_drewN | apply below_drew1 | refine below_set ?_ GE450.out) | exact HB.out))) : w.heap.size ≤ gb451)); have n4_ := Aside0.mk ((by rw [hg]; exact (below_size (by repeat (first | (with_reducible first | exact HB.out | apply below_alloc | apply pw_below_drewN | apply below_drew1 | refine below_set ?_ GE450.out) | exact HB.out))) : w.heap.size ≤ gb451)); have n5_ := Aside0.mk ((by rw [hg]; exact Nat.ne_of_lt (blk_lt (g := gb450) (o := .cells #[.int .i64 a0_0, .int .i64 a0_1] 42 (0, 0)) (by (with_reducible repeat (first | refine blk_drewN ?_ _ | refine blk_drew ?_ | refine blk_alloc ?_ _)); exact BK450.out)) : gb450 ≠ gb451)); have n6_ := Aside0.mk ((by rw [hg]; exact Nat.ne_of_gt (blk_lt (g := gb450) (o := .cells #[.int .i64 a0_0, .int .i64 a0_1] 42 (0, 0)) (by (with_reducible repeat (first | refine blk_drewN ?_ _ | refine blk_drew ?_ | refine blk_alloc ?_ _)); exact BK450.out)) : gb451 ≠ gb450)); clear BK450; clear HB; have BK450 := n0_; have HB := n1_; have BK451 := n2_; have GW451 := n3_; have GE451 := n4_; have NB450_451 := n5_; have NB451_450 := n6_; clear n0_ n1_ n2_ n3_ n4_ n5_ n6_; clear hb hbox hg) | ((with_reducible refine gate_dst (N := 4) rfl ?_); refine box_event ?hg (N := 4) ?hd (cs := #[.int .i64 0, .int .i64 0]) (t := 27) ?hr ?_; (case hd => rfl); (case hg => rfl); (case hr => first | (go_simp; done) | (go_simp; rfl)); intro gb452 hg w86 hbox hb; have n0_ := Aside0.mk (blk_below (g := gb450) (o := .cells #[.int .i64 a0_0, .int .i64 a0_1] 42 (0, 0)) (by (with_reducible repeat (first | refine blk_drewN ?_ _ | refine blk_drew ?_ | refine blk_alloc ?_ _)); exact BK450.out) hb); have n1_ := Aside0.mk (blk_below (g := gb451) (o := .cells #[.int .i64 a1_0, .int .i64 a1_1] 42 (0, 0)) (by (with_reducible repeat (first | refine blk_drewN ?_ _ | refine blk_drew ?_ | refine blk_alloc ?_ _)); exact BK451.out) hb); have n2_ := Aside0.mk (below_step (by repeat (first | (with_reducible first | exact HB.out | apply below_alloc | apply pw_below_drewN | apply below_drew1 | refine below_set ?_ GE450.out | refine below_set ?_ GE451.out) | exact HB.out)) hb); have n3_ := Aside0.mk (hbox); have n4_ := Aside0.mk ((by rw [hg]; exact (below_size (by repeat (first | (with_reducible first | exact HB.out | apply below_alloc | apply pw_below_drewN | apply below_drew1 | refine below_set ?_ GE450.out | refine below_set ?_ GE451.out) | exact HB.out))) : w.heap.size ≤ gb452)); have n5_ := Aside0.mk ((by rw [hg]; exact (below_size (by repeat (first | (with_reducible first | exact HB.out | apply below_alloc | apply pw_below_drewN | apply below_drew1 | refine below_set ?_ GE450.out | refine below_set ?_ GE451.out) | exact HB.out))) : w.heap.size ≤ gb452)); have n6_ := Aside0.mk ((by rw [hg]; exact Nat.ne_of_lt (blk_lt (g := gb450) (o := .cells #[.int .i64 a0_0, .int .i64 a0_1] 42 (0, 0)) (by (with_reducible repeat (first | refine blk_drewN ?_ _ | refine blk_drew ?_ | refine blk_alloc ?_ _)); exact BK450.out)) : gb450 ≠ gb452)); have n7_ := Aside0.mk ((by rw [hg]; exact Nat.ne_of_gt (blk_lt (g := gb450) (o := .cells #[.int .i64 a0_0, .int .i64 a0_1] 42 (0, 0)) (by (with_reducible repeat (first | refine blk_drewN ?_ _ | refine blk_drew ?_ | refine blk_alloc ?_ _)); exact BK450.out)) : gb452 ≠ gb450)); have n8_ := Aside0.mk ((by rw [hg]; exact Nat.ne_of_lt (blk_lt (g := gb451) (o := .cells #[.int .i64 a1_0, .int .i64 a1_1] 42 (0, 0)) (by (with_reducible repeat (first | refine blk_drewN ?_ _ | refine blk_drew ?_ | refine blk_alloc ?_ _)); exact BK451.out)) : gb451 ≠ gb452)); have n9_ := Aside0.mk ((by rw [hg]; exact Nat.ne_of_gt (blk_lt (g := gb451) (o := .cells #[.int .i64 a1_0, .int .i64 a1_1] 42 (0, 0)) (by (with_reducible repeat (first | refine blk_drewN ?_ _ | refine blk_drew ?_ | refine blk_alloc ?_ _)); exact BK451.out)) : gb452 ≠ gb451)); clear BK450; clear BK451; clear HB; have BK450 := n0_; have BK451 := n1_; have HB := n2_; have BK452 := n3_; have GW452 := n4_; have GE452 := n5_; have NB450_452 := n6_; have NB452_450 := n7_; have NB451_452 := n8_; have NB452_451 := n9_; clear n0_ n1_ n2_ n3_ n4_ n5_ n6_ n7_ n8_ n9_; clear hb hbox hg; have hnb87 := NB450_451.out; have hnc87 := NB451_450.out; have hnb88 := NB450_452.out; have hnc88 := NB452_450.out; have hcz89_0 : w86.cell? ⟨gb450, 0, none⟩ = some (.int .i64 a0_0) := (blk_cell BK450.out 0).trans rfl; have hcz89_1 : w86.cell? ⟨gb450, 1, none⟩ = some (.int .i64 a0_1) := (blk_cell BK450.out 1).trans rfl; have hfz89_0 := blk_frozen BK450.out 0; have hfz89_1 := blk_frozen BK450.out 1; have hnb90 := NB451_452.out; have hnc90 := NB452_451.out; have hcz91_0 : w86.cell? ⟨gb451, 0, none⟩ = some (.int .i64 a1_0) := (blk_cell BK451.out 0).trans rfl; have hcz91_1 : w86.cell? ⟨gb451, 1, none⟩ = some (.int .i64 a1_1) := (blk_cell BK451.out 1).trans rfl; have hfz91_0 := blk_frozen BK451.out 0; have hfz91_1 := blk_frozen BK451.out 1))
                    have n0_ := Aside0.mk (blk_drew BK450.out)
                    have n1_ := Aside0.mk (blk_drew BK451.out)
                    have n2_ := Aside0.mk (blk_drew BK452.out)
                    have n3_ := Aside0.mk (below_drew1 HB.out)
                    clear BK450
                    clear BK451
                    clear BK452
                    clear HB
                    have BK450 := n0_
                    have BK451 := n1_
                    have BK452 := n2_
                    have HB := n3_
                    clear n0_ n1_ n2_ n3_
                    refine start_ (n := 18) (S := fun w' => w'.cell? ⟨gb450, 0, none⟩ = some (.int .i64 a0_0) ∧ w'.cell? ⟨gb450, 1, none⟩ = some (.int .i64 a0_1) ∧ w'.cell? ⟨gb451, 0, none⟩ = some (.int .i64 a1_0) ∧ w'.cell? ⟨gb451, 1, none⟩ = some (.int .i64 a1_1)) (ds := []) #[false, false, false, false, false, false, false, false, false, false, false, false, false, false, false, false, false, false] (by kernel_rfl) rfl rfl ⟨(blk_cell BK450.out 0).trans rfl, (blk_cell BK450.out 1).trans rfl, (blk_cell BK451.out 0).trans rfl, (blk_cell BK451.out 1).trans rfl⟩ (fun hHeld => ?_); refine with_tabW waterhourlaw02_less.tab3 waterhourlaw02_less.bits3 (fun HT_ HW_ => ?_)
                    generalize w86.drew = w92 at BK450 BK451 BK452 HB hHeld ⊢
                    refine pure_ (i := 0) (N := some 47) (v := ?_) (a' := ?_) #[true, false, false, false, false, false, false, false, false, false, false, false, false, false, false, false, false, false] rfl rfl (any_of HT_.out (by kernel_rfl)) (fun _ _ _ h => h) (Or.inl ⟨by rfl, ?_⟩) ?_ ?_
                    rotate_left
                    · intro w'
                      go_simp
                      with_reducible rfl
                    rotate_left
                    · simp only [Act.put, List.setIfInBounds_toArray, List.set_cons_zero, List.set_cons_succ, i64_w, i32_w]
                      rfl
                    refine pure_ (i := 2) (N := some 49) (v := ?_) (a' := ?_) #[true, false, true, false, false, false, false, false, false, false, false, false, false, false, false, false, false, false] rfl rfl (any_of HT_.out (by kernel_rfl)) (fun _ _ _ h => h) (Or.inl ⟨by rfl, ?_⟩) ?_ ?_
                    rotate_left
                    · intro w'
                      go_simp
                      with_reducible rfl
                    rotate_left
                    · simp only [Act.put, List.setIfInBounds_toArray, List.set_cons_zero, List.set_cons_succ, i64_w, i32_w]
                      rfl
                    refine pure_ (i := 5) (N := some 52) (v := ?_) (a' := ?_) #[true, false, true, false, false, true, false, false, false, false, false, false, false, false, false, false, false, false] rfl rfl (any_of HT_.out (by kernel_rfl)) (fun _ _ _ h => h) (Or.inl ⟨by rfl, ?_⟩) ?_ ?_
                    rotate_left
                    · intro w'
                      go_simp
                      with_reducible rfl
                    rotate_left
                    · simp only [Act.put, List.setIfInBounds_toArray, List.set_cons_zero, List.set_cons_succ, i64_w, i32_w]
                      rfl
                    refine pure_ (i := 7) (N := some 54) (v := ?_) (a' := ?_) #[true, false, true, false, false, true, false, true, false, false, false, false, false, false, false, false, false, false] rfl rfl (any_of HT_.out (by kernel_rfl)) (fun _ _ _ h => h) (Or.inl ⟨by rfl, ?_⟩) ?_ ?_
                    rotate_left
                    · intro w'
                      go_simp
                      with_reducible rfl
                    rotate_left
                    · simp only [Act.put, List.setIfInBounds_toArray, List.set_cons_zero, List.set_cons_succ, i64_w, i32_w]
                      rfl
                    refine pure_ (i := 11) (N := some 58) (v := ?_) (a' := ?_) #[true, false, true, false, false, true, false, true, false, false, false, true, false, false, false, false, false, false] rfl rfl (any_of HT_.out (by kernel_rfl)) (fun _ _ _ h => h) (Or.inl ⟨by rfl, ?_⟩) ?_ ?_
                    rotate_left
                    · intro w'
                      go_simp
                      with_reducible rfl
                    rotate_left
                    · simp only [Act.put, List.setIfInBounds_toArray, List.set_cons_zero, List.set_cons_succ, i64_w, i32_w]
                      rfl
                    refine pure_ (i := 13) (N := some 60) (v := ?_) (a' := ?_) #[true, false, true, false, false, true, false, true, false, false, false, true, false, true, false, false, false, false] rfl rfl (any_of HT_.out (by kernel_rfl)) (fun _ _ _ h => h) (Or.inl ⟨by rfl, ?_⟩) ?_ ?_
                    rotate_left
                    · intro w'
                      go_simp
                      with_reducible rfl
                    rotate_left
                    · simp only [Act.put, List.setIfInBounds_toArray, List.set_cons_zero, List.set_cons_succ, i64_w, i32_w]
                      rfl
                    refine take_ (i := 1) (N := some 48) (v := ?_) (a' := ?_) #[true, true, true, false, false, true, false, true, false, false, false, true, false, true, false, false, false, false] rfl rfl (take_ofW HT_.out HW_.out (by kernel_rfl)) (fun _ _ _ h => h) (Or.inl ⟨by rfl, ?_⟩) hHeld ?_ ?_
                    rotate_left
                    · rintro w' ⟨s0, s1, s2, s3⟩
                      go_simp
                      with_reducible rfl
                    rotate_left
                    · simp only [Act.put, List.setIfInBounds_toArray, List.set_cons_zero, List.set_cons_succ, i64_w, i32_w]
                      rfl
                    refine take_ (i := 3) (N := some 50) (v := ?_) (a' := ?_) #[true, true, true, true, false, true, false, true, false, false, false, true, false, true, false, false, false, false] rfl rfl (take_ofW HT_.out HW_.out (by kernel_rfl)) (fun _ _ _ h => h) (Or.inl ⟨by rfl, ?_⟩) hHeld ?_ ?_
                    rotate_left
                    · rintro w' ⟨s0, s1, s2, s3⟩
                      go_simp
                      with_reducible rfl
                    rotate_left
                    · simp only [Act.put, List.setIfInBounds_toArray, List.set_cons_zero, List.set_cons_succ, i64_w, i32_w]
                      rfl
                    refine pure_ (i := 4) (N := some 51) (v := ?_) (a' := ?_) #[true, true, true, true, true, true, false, true, false, false, false, true, false, true, false, false, false, false] rfl rfl (any_of HT_.out (by kernel_rfl)) (fun _ _ _ h => h) (Or.inl ⟨by rfl, ?_⟩) ?_ ?_
                    rotate_left
                    · intro w'
                      go_simp
                      with_reducible rfl
                    rotate_left
                    · simp only [Act.put, List.setIfInBounds_toArray, List.set_cons_zero, List.set_cons_succ, i64_w, i32_w]
                      rfl
                    refine take_ (i := 6) (N := some 53) (v := ?_) (a' := ?_) #[true, true, true, true, true, true, true, true, false, false, false, true, false, true, false, false, false, false] rfl rfl (take_ofW HT_.out HW_.out (by kernel_rfl)) (fun _ _ _ h => h) (Or.inl ⟨by rfl, ?_⟩) hHeld ?_ ?_
                    rotate_left
                    · rintro w' ⟨s0, s1, s2, s3⟩
                      go_simp
                      with_reducible rfl
                    rotate_left
                    · simp only [Act.put, List.setIfInBounds_toArray, List.set_cons_zero, List.set_cons_succ, i64_w, i32_w]
                      rfl
                    refine take_ (i := 8) (N := some 55) (v := ?_) (a' := ?_) #[true, true, true, true, true, true, true, true, true, false, false, true, false, true, false, false, false, false] rfl rfl (take_ofW HT_.out HW_.out (by kernel_rfl)) (fun _ _ _ h => h) (Or.inl ⟨by rfl, ?_⟩) hHeld ?_ ?_
                    rotate_left
                    · rintro w' ⟨s0, s1, s2, s3⟩
                      go_simp
                      with_reducible rfl
                    rotate_left
                    · simp only [Act.put, List.setIfInBounds_toArray, List.set_cons_zero, List.set_cons_succ, i64_w, i32_w]
                      rfl
                    refine pure_ (i := 9) (N := some 56) (v := ?_) (a' := ?_) #[true, true, true, true, true, true, true, true, true, true, false, true, false, true, false, false, false, false] rfl rfl (any_of HT_.out (by kernel_rfl)) (fun _ _ _ h => h) (Or.inl ⟨by rfl, ?_⟩) ?_ ?_
                    rotate_left
                    · intro w'
                      go_simp
                      with_reducible rfl
                    rotate_left
                    · simp only [Act.put, List.setIfInBounds_toArray, List.set_cons_zero, List.set_cons_succ, i64_w, i32_w]
                      rfl
                    refine pure_ (i := 10) (N := some 57) (v := ?_) (a' := ?_) #[true, true, true, true, true, true, true, true, true, true, true, true, false, true, false, false, false, false] rfl rfl (any_of HT_.out (by kernel_rfl)) (fun _ _ _ h => h) (Or.inl ⟨by rfl, ?_⟩) ?_ ?_
                    rotate_left
                    · intro w'
                      go_simp
                      with_reducible rfl
                    rotate_left
                    · simp only [Act.put, List.setIfInBounds_toArray, List.set_cons_zero, List.set_cons_succ, i64_w, i32_w]
                      rfl
                    refine pure_ (i := 16) (N := some 6) (v := ?_) (a' := ?_) #[true, true, true, true, true, true, true, true, true, true, true, true, false, true, false, false, true, false] rfl rfl (any_of HT_.out (by kernel_rfl)) (fun _ _ _ h => h) (Or.inl ⟨by rfl, ?_⟩) ?_ ?_
                    rotate_left
                    · intro w'
                      go_simp
                      with_reducible rfl
                    rotate_left
                    · simp only [Act.put, List.setIfInBounds_toArray, List.set_cons_zero, List.set_cons_succ, i64_w, i32_w]
                      rfl
                    refine take_ (i := 12) (N := some 59) (v := ?_) (a' := ?_) #[true, true, true, true, true, true, true, true, true, true, true, true, true, true, false, false, true, false] rfl rfl (take_ofW HT_.out HW_.out (by kernel_rfl)) (fun _ _ _ h => h) (Or.inl ⟨by rfl, ?_⟩) hHeld ?_ ?_
                    rotate_left
                    · rintro w' ⟨s0, s1, s2, s3⟩
                      go_simp
                      with_reducible rfl
                    rotate_left
                    · simp only [Act.put, List.setIfInBounds_toArray, List.set_cons_zero, List.set_cons_succ, i64_w, i32_w]
                      rfl
                    refine take_ (i := 14) (N := some 61) (v := ?_) (a' := ?_) #[true, true, true, true, true, true, true, true, true, true, true, true, true, true, true, false, true, false] rfl rfl (take_ofW HT_.out HW_.out (by kernel_rfl)) (fun _ _ _ h => h) (Or.inl ⟨by rfl, ?_⟩) hHeld ?_ ?_
                    rotate_left
                    · rintro w' ⟨s0, s1, s2, s3⟩
                      go_simp
                      with_reducible rfl
                    rotate_left
                    · simp only [Act.put, List.setIfInBounds_toArray, List.set_cons_zero, List.set_cons_succ, i64_w, i32_w]
                      rfl
                    refine pure_ (i := 15) (N := some 62) (v := ?_) (a' := ?_) #[true, true, true, true, true, true, true, true, true, true, true, true, true, true, true, true, true, false] rfl rfl (any_of HT_.out (by kernel_rfl)) (fun _ _ _ h => h) (Or.inl ⟨by rfl, ?_⟩) ?_ ?_
                    rotate_left
                    · intro w'
                      go_simp
                      with_reducible rfl
                    rotate_left
                    · simp only [Act.put, List.setIfInBounds_toArray, List.set_cons_zero, List.set_cons_succ, i64_w, i32_w]
                      rfl
                    refine pure_ (i := 17) (N := some 7) (v := ?_) (a' := ?_) #[true, true, true, true, true, true, true, true, true, true, true, true, true, true, true, true, true, true] rfl rfl (any_of HT_.out (by kernel_rfl)) (fun _ _ _ h => h) (Or.inl ⟨by rfl, ?_⟩) ?_ ?_
                    rotate_left
                    · intro w'
                      go_simp
                      with_reducible rfl
                    rotate_left
                    · simp only [Act.put, List.setIfInBounds_toArray, List.set_cons_zero, List.set_cons_succ, i64_w, i32_w]
                      rfl
                    refine done_ (done_of HT_.out (by kernel_rfl)) ?_
                    try go_wp2
                    have n0_ := Aside0.mk (blk_drew BK450.out)
                    have n1_ := Aside0.mk (blk_drew BK451.out)
                    have n2_ := Aside0.mk (blk_drew BK452.out)
                    have n3_ := Aside0.mk (below_drew1 HB.out)
                    clear BK450
                    clear BK451
                    clear BK452
                    clear HB
                    have BK450 := n0_
                    have BK451 := n1_
                    have BK452 := n2_
                    have HB := n3_
                    clear n0_ n1_ n2_ n3_
                    refine start_ (n := 14) (S := fun w' => True) (ds := []) #[false, false, false, false, false, false, false, false, false, false, false, false, false, false] (by kernel_rfl) rfl rfl trivial (fun hHeld => ?_); refine with_tabW waterhourlaw02_less.tab4 waterhourlaw02_less.bits4 (fun HT_ HW_ => ?_)
                    generalize w92.drew = w93 at BK450 BK451 BK452 HB hHeld ⊢
                    refine pure_ (i := 0) (N := some 63) (v := ?_) (a' := ?_) #[true, false, false, false, false, false, false, false, false, false, false, false, false, false] rfl rfl (any_of HT_.out (by kernel_rfl)) (fun _ _ _ h => h) (Or.inl ⟨by rfl, ?_⟩) ?_ ?_
                    rotate_left
                    · intro w'
                      go_simp
                      with_reducible rfl
                    rotate_left
                    · simp only [Act.put, List.setIfInBounds_toArray, List.set_cons_zero, List.set_cons_succ, i64_w, i32_w]
                      rfl
                    refine pure_ (i := 1) (N := some 64) (v := ?_) (a' := ?_) #[true, true, false, false, false, false, false, false, false, false, false, false, false, false] rfl rfl (any_of HT_.out (by kernel_rfl)) (fun _ _ _ h => h) (Or.inl ⟨by rfl, ?_⟩) ?_ ?_
                    rotate_left
                    · intro w'
                      go_simp
                      with_reducible rfl
                    rotate_left
                    · simp only [Act.put, List.setIfInBounds_toArray, List.set_cons_zero, List.set_cons_succ, i64_w, i32_w]
                      rfl
                    refine pure_ (i := 2) (N := some 65) (v := ?_) (a' := ?_) #[true, true, true, false, false, false, false, false, false, false, false, false, false, false] rfl rfl (any_of HT_.out (by kernel_rfl)) (fun _ _ _ h => h) (Or.inl ⟨by rfl, ?_⟩) ?_ ?_
                    rotate_left
                    · intro w'
                      go_simp
                      with_reducible rfl
                    rotate_left
                    · simp only [Act.put, List.setIfInBounds_toArray, List.set_cons_zero, List.set_cons_succ, i64_w, i32_w]
                      rfl
                    refine pure_ (i := 3) (N := some 66) (v := ?_) (a' := ?_) #[true, true, true, true, false, false, false, false, false, false, false, false, false, false] rfl rfl (any_of HT_.out (by kernel_rfl)) (fun _ _ _ h => h) (Or.inl ⟨by rfl, ?_⟩) ?_ ?_
                    rotate_left
                    · intro w'
                      go_simp
                      with_reducible rfl
                    rotate_left
                    · simp only [Act.put, List.setIfInBounds_toArray, List.set_cons_zero, List.set_cons_succ, i64_w, i32_w]
                      rfl
                    refine pure_ (i := 4) (N := some 67) (v := ?_) (a' := ?_) #[true, true, true, true, true, false, false, false, false, false, false, false, false, false] rfl rfl (any_of HT_.out (by kernel_rfl)) (fun _ _ _ h => h) (Or.inl ⟨by rfl, ?_⟩) ?_ ?_
                    rotate_left
                    · intro w'
                      go_simp
                      with_reducible rfl
                    rotate_left
                    · simp only [Act.put, List.setIfInBounds_toArray, List.set_cons_zero, List.set_cons_succ, i64_w, i32_w]
                      rfl
                    refine pure_ (i := 5) (N := some 68) (v := ?_) (a' := ?_) #[true, true, true, true, true, true, false, false, false, false, false, false, false, false] rfl rfl (any_of HT_.out (by kernel_rfl)) (fun _ _ _ h => h) (Or.inl ⟨by rfl, ?_⟩) ?_ ?_
                    rotate_left
                    · intro w'
                      go_simp
                      with_reducible rfl
                    rotate_left
                    · simp only [Act.put, List.setIfInBounds_toArray, List.set_cons_zero, List.set_cons_succ, i64_w, i32_w]
                      rfl
                    refine pure_ (i := 6) (N := some 69) (v := ?_) (a' := ?_) #[true, true, true, true, true, true, true, false, false, false, false, false, false, false] rfl rfl (any_of HT_.out (by kernel_rfl)) (fun _ _ _ h => h) (Or.inl ⟨by rfl, ?_⟩) ?_ ?_
                    rotate_left
                    · intro w'
                      go_simp
                      with_reducible rfl
                    rotate_left
                    · simp only [Act.put, List.setIfInBounds_toArray, List.set_cons_zero, List.set_cons_succ, i64_w, i32_w]
                      rfl
                    refine pure_ (i := 7) (N := some 70) (v := ?_) (a' := ?_) #[true, true, true, true, true, true, true, true, false, false, false, false, false, false] rfl rfl (any_of HT_.out (by kernel_rfl)) (fun _ _ _ h => h) (Or.inl ⟨by rfl, ?_⟩) ?_ ?_
                    rotate_left
                    · intro w'
                      go_simp
                      with_reducible rfl
                    rotate_left
                    · simp only [Act.put, List.setIfInBounds_toArray, List.set_cons_zero, List.set_cons_succ, i64_w, i32_w]
                      rfl
                    refine pure_ (i := 8) (N := some 71) (v := ?_) (a' := ?_) #[true, true, true, true, true, true, true, true, true, false, false, false, false, false] rfl rfl (any_of HT_.out (by kernel_rfl)) (fun _ _ _ h => h) (Or.inl ⟨by rfl, ?_⟩) ?_ ?_
                    rotate_left
                    · intro w'
                      go_simp
                      with_reducible rfl
                    rotate_left
                    · simp only [Act.put, List.setIfInBounds_toArray, List.set_cons_zero, List.set_cons_succ, i64_w, i32_w]
                      rfl
                    refine pure_ (i := 10) (N := some 73) (v := ?_) (a' := ?_) #[true, true, true, true, true, true, true, true, true, false, true, false, false, false] rfl rfl (any_of HT_.out (by kernel_rfl)) (fun _ _ _ h => h) (Or.inl ⟨by rfl, ?_⟩) ?_ ?_
                    rotate_left
                    · intro w'
                      go_simp
                      with_reducible rfl
                    rotate_left
                    · simp only [Act.put, List.setIfInBounds_toArray, List.set_cons_zero, List.set_cons_succ, i64_w, i32_w]
                      rfl
                    refine pure_ (i := 11) (N := some 74) (v := ?_) (a' := ?_) #[true, true, true, true, true, true, true, true, true, false, true, true, false, false] rfl rfl (any_of HT_.out (by kernel_rfl)) (fun _ _ _ h => h) (Or.inl ⟨by rfl, ?_⟩) ?_ ?_
                    rotate_left
                    · intro w'
                      go_simp
                      with_reducible rfl
                    rotate_left
                    · simp only [Act.put, List.setIfInBounds_toArray, List.set_cons_zero, List.set_cons_succ, i64_w, i32_w]
                      rfl
                    refine one_ (i := 9) (N := some 72) #[true, true, true, true, true, true, true, true, true, true, true, true, false, false] rfl rfl (one_of HT_.out (by kernel_rfl)) (by decide) (fun K hK => ?_)
                    refine goes_ Try.func46 (by kernel_rfl) rfl #[.int .i64 (wrap64 (Int.tdiv (wrap64 ((wrap64 (a0_0 * a1_1)) - (wrap64 (a1_0 * a0_1)))) (wrap64 (a0_1 * a1_1)))), .int .i64 (wrap64 (Int.tdiv (wrap64 ((wrap64 ((wrap64 ((wrap64 (a0_0 * a1_1)) - (wrap64 (a1_0 * a0_1)))) + (wrap64 (a0_1 * a1_1)))) - 1)) (wrap64 (a0_1 * a1_1))))] (by rfl) rfl rfl (by (try simp only [List.map_toArray, List.map_cons, List.map_nil]); first | done | rfl | (simp only [List.length_drop, List.length_take]; rfl)) ?_
                    with_reducible refine (waterhourlaw02_span.calls (wrap64 (Int.tdiv (wrap64 ((wrap64 (a0_0 * a1_1)) - (wrap64 (a1_0 * a0_1)))) (wrap64 (a0_1 * a1_1)))) (wrap64 (Int.tdiv (wrap64 ((wrap64 ((wrap64 ((wrap64 (a0_0 * a1_1)) - (wrap64 (a1_0 * a0_1)))) + (wrap64 (a0_1 * a1_1)))) - 1)) (wrap64 (a0_1 * a1_1)))) t453 t454 _ A83.out).mono ?_
                    rintro e w94 ⟨rfl, hb⟩
                    refine ⟨_, rfl, ?_⟩
                    have n0_ := Aside0.mk (blk_below (g := gb450) (o := .cells #[.int .i64 a0_0, .int .i64 a0_1] 42 (0, 0)) (by (with_reducible repeat (first | refine blk_drewN ?_ _ | refine blk_drew ?_ | refine blk_alloc ?_ _)); exact BK450.out) hb)
                    have n1_ := Aside0.mk (blk_below (g := gb451) (o := .cells #[.int .i64 a1_0, .int .i64 a1_1] 42 (0, 0)) (by (with_reducible repeat (first | refine blk_drewN ?_ _ | refine blk_drew ?_ | refine blk_alloc ?_ _)); exact BK451.out) hb)
                    have n2_ := Aside0.mk (blk_below (g := gb452) (o := .cells #[.int .i64 0, .int .i64 0] 27 (0, 0)) (by (with_reducible repeat (first | refine blk_drewN ?_ _ | refine blk_drew ?_ | refine blk_alloc ?_ _)); exact BK452.out) hb)
                    have n3_ := Aside0.mk (below_step (by repeat (first | (with_reducible first | exact HB.out | apply below_alloc | apply pw_below_drewN | apply below_drew1 | refine below_set ?_ GE450.out | refine below_set ?_ GE451.out | refine below_set ?_ GE452.out) | exact HB.out)) hb)
                    clear BK450
                    clear BK451
                    clear BK452
                    clear HB
                    have BK450 := n0_
                    have BK451 := n1_
                    have BK452 := n2_
                    have HB := n3_
                    clear n0_ n1_ n2_ n3_
                    (try clear hb)
                    (try clear hb2)
                    (try clear hk)
                    (try clear hi)
                    refine hK.out _ _ trivial (fun hHeld => ?_)
                    clear hK K
                    refine norm_ (a' := ?_) ?_ ?_
                    rotate_left
                    · show Act.put _ (some 72) _ = _
                      simp only [Act.put, List.setIfInBounds_toArray, List.set_cons_zero, List.set_cons_succ, i64_w, i32_w]
                      rfl
                    refine one_ (i := 12) (N := none) #[true, true, true, true, true, true, true, true, true, true, true, true, true, false] rfl rfl (one_of HT_.out (by kernel_rfl)) (by decide) (fun K hK => ?_)
                    have hs95 : w94.cell? ⟨gb452, 0, none⟩ = some (.int .i64 0) := (blk_cell BK452.out 0).trans rfl
                    have hfs95 := blk_frozen BK452.out 0
                    have hns95_0 := NB450_452.out
                    have hns95_1 := NB451_452.out
                    have hms95_0 := NB452_450.out
                    have hms95_1 := NB452_451.out
                    have hs96 : w94.cell? ⟨gb452, 1, none⟩ = some (.int .i64 0) := (blk_cell BK452.out 1).trans rfl
                    have hfs96 := blk_frozen BK452.out 1
                    have hns96_0 := NB450_452.out
                    have hns96_1 := NB451_452.out
                    have hms96_0 := NB452_450.out
                    have hms96_1 := NB452_451.out
                    refine skip_ (w1 := ?_) (by rfl) rfl ?_ ?_
                    rotate_left
                    · go_simp
                      rfl
                    refine hK.out _ _ trivial (fun hHeld => ?_)
                    clear hK K
                    refine pure_ (i := 13) (N := some 5) (v := ?_) (a' := ?_) #[true, true, true, true, true, true, true, true, true, true, true, true, true, true] rfl rfl (any_of HT_.out (by kernel_rfl)) (fun _ _ _ h => h) (Or.inl ⟨by rfl, ?_⟩) ?_ ?_
                    rotate_left
                    · intro w'
                      go_simp
                      with_reducible rfl
                    rotate_left
                    · simp only [Act.put, List.setIfInBounds_toArray, List.set_cons_zero, List.set_cons_succ, i64_w, i32_w]
                      rfl
                    refine done_ (done_of HT_.out (by kernel_rfl)) ?_
                    try go_wp2
                    refine bodyPost_ret (results_ct rfl _ _ gb452 27 #[.int .i64 t453, .int .i64 t454] (0, 0) _ rfl (by (with_reducible repeat (first | refine blk_drewN ?_ _ | refine blk_drew ?_ | refine blk_alloc ?_ _)); refine blk_put (cs := #[.int .i64 t453, .int .i64 0]) ?_ 1 _ rfl; (with_reducible repeat (first | refine blk_drewN ?_ _ | refine blk_drew ?_ | refine blk_alloc ?_ _)); refine blk_put (cs := #[.int .i64 0, .int .i64 0]) ?_ 0 _ rfl; (with_reducible repeat (first | refine blk_drewN ?_ _ | refine blk_drew ?_ | refine blk_alloc ?_ _)); exact BK452.out) Try.underlying27 rfl (by kernel_rfl)) rfl ?_
                    exact ⟨by first | rfl | (simp [errW_none, errW_some] <;> rfl) | (simp [*, errW_none, errW_some] <;> rfl), by repeat (first | (with_reducible first | exact HB.out | apply below_alloc | apply pw_below_drewN | apply below_drew1 | refine below_set ?_ GE450.out | refine below_set ?_ GE451.out | refine below_set ?_ GE452.out) | exact HB.out)⟩
def curve_line_low.f (a0_0 : Int) (a0_1 : Int) (a0_2 : Int) (a0_3 : Int) (a1 : Int) : Option (Int) := (curve_line_over.f a0_0 a0_1 a0_2 a0_3 a1).bind fun t456 => ((curve_line_wide.f a0_0 a0_1 a0_2 a0_3).bind fun t457 => (if t457 = 0 then (none) else (some (wrap64 (a0_1 + (wrap64 (Int.tdiv t456 t457)))))))
def curve_line_low.T1 : Bool × List (List Nat × List Nat) := (true, [([], []), ([0], [0]), ([1], [1]), ([], []), ([], []), ([3, 4], [3, 4]), ([], []), ([6, 5], [6]), ([5, 7], [5, 7]), ([2, 8], [2, 8]), ([9, 7, 0, 1, 2, 3, 4, 5, 6, 7, 8, 9], [9])])
def curve_line_low.B1 : List Nat := [0, 1, 3, 0, 0, 24, 0, 120, 248, 511, 1023]
theorem curve_line_low.tab1 : rtab .any (opsOf Try.f115 1) = curve_line_low.T1 := by kernel_rfl
theorem curve_line_low.bits1 : waitsOk curve_line_low.T1.2 curve_line_low.B1 = true := by kernel_rfl
set_option maxHeartbeats 8000000 in
set_option maxRecDepth 100000 in
theorem curve_line_low.calls (a0_0 : Int) (a0_1 : Int) (a0_2 : Int) (a0_3 : Int) (a1 : Int) (r : Int) (w : World) (h : curve_line_low.f a0_0 a0_1 a0_2 a0_3 a1 = some r) :
    Calls Try.prog 115 #[.agg #[.int .i64 a0_0, .int .i64 a0_1, .int .i64 a0_2, .int .i64 a0_3], .int .i64 a1] w fun e w' => e = .returned (.int .i64 r) ∧ Below w.heap.size w w' := by
  have hu129 := Try.underlying129
  have HB := Aside0.mk (Below.refl w.heap.size w)
  have H : ((curve_line_over.f a0_0 a0_1 a0_2 a0_3 a1).bind fun t456 => ((curve_line_wide.f a0_0 a0_1 a0_2 a0_3).bind fun t457 => (if t457 = 0 then (none) else (some (wrap64 (a0_1 + (wrap64 (Int.tdiv t456 t457)))))))) = some r := h
  clear h
  replace H := Option.bind_eq_some_iff.mp H
  obtain ⟨t456, A30, H⟩ := H
  replace H : ((curve_line_wide.f a0_0 a0_1 a0_2 a0_3).bind fun t457 => (if t457 = 0 then (none) else (some (wrap64 (a0_1 + (wrap64 (Int.tdiv t456 t457))))))) = some r := H
  have A3 := Aside0.mk A30
  clear A30
  replace H := Option.bind_eq_some_iff.mp H
  obtain ⟨t457, A40, H⟩ := H
  replace H : (if t457 = 0 then (none) else (some (wrap64 (a0_1 + (wrap64 (Int.tdiv t456 t457)))))) = some r := H
  have A4 := Aside0.mk A40
  clear A40
  by_cases c5 : t457 = 0
  · rw [if_pos c5] at H
    exact absurd H (by simp)
  · rw [if_neg c5] at H
    have c5b0 : (t457 == 0) = false := beq_eq_false_iff_ne.mpr c5
    have c5b1 : (t457 != 0) = true := bne_iff_ne.mpr c5
    obtain rfl := Option.some.inj H
    go_enter Try.func115, Try.ntmps115
    try go_wp2_with (first | ((with_reducible refine gate_dst (N := 2) rfl ?_); refine box_event ?hg (N := 2) ?hd (cs := #[.int .i64 a0_0, .int .i64 a0_1, .int .i64 a0_2, .int .i64 a0_3]) (t := 129) ?hr ?_; (case hd => rfl); (case hg => rfl); (case hr => first | (go_simp; done) | (go_simp; rfl)); intro gb455 hg w6 hbox hb; have n0_ := Aside0.mk (below_step (by repeat (first | (with_reducible first | exact HB.out | apply below_alloc | apply pw_below_drewN | apply below_drew1) | exact HB.out)) hb); have n1_ := Aside0.mk (hbox); have n2_ := Aside0.mk ((by rw [hg]; exact (below_size (by repeat (first | (with_reducible first | exact HB.out | apply below_alloc | apply pw_below_drewN | apply below_drew1) | exact HB.out))) : w.heap.size ≤ gb455)); have n3_ := Aside0.mk ((by rw [hg]; exact (below_size (by repeat (first | (with_reducible first | exact HB.out | apply below_alloc | apply pw_below_drewN | apply below_drew1) | exact HB.out))) : w.heap.size ≤ gb455)); clear HB; have HB := n0_; have BK455 := n1_; have GW455 := n2_; have GE455 := n3_; clear n0_ n1_ n2_ n3_; clear hb hbox hg))
    have n0_ := Aside0.mk (blk_drew BK455.out)
    have n1_ := Aside0.mk (below_drew1 HB.out)
    clear BK455
    clear HB
    have BK455 := n0_
    have HB := n1_
    clear n0_ n1_
    refine start_ (n := 11) (S := fun w' => w'.cell? ⟨gb455, 0, none⟩ = some (.int .i64 a0_0) ∧ w'.cell? ⟨gb455, 1, none⟩ = some (.int .i64 a0_1) ∧ w'.cell? ⟨gb455, 2, none⟩ = some (.int .i64 a0_2) ∧ w'.cell? ⟨gb455, 3, none⟩ = some (.int .i64 a0_3)) (ds := []) #[false, false, false, false, false, false, false, false, false, false, false] (by kernel_rfl) rfl rfl ⟨(blk_cell BK455.out 0).trans rfl, (blk_cell BK455.out 1).trans rfl, (blk_cell BK455.out 2).trans rfl, (blk_cell BK455.out 3).trans rfl⟩ (fun hHeld => ?_); refine with_tabW curve_line_low.tab1 curve_line_low.bits1 (fun HT_ HW_ => ?_)
    generalize w6.drew = w7 at BK455 HB hHeld ⊢
    refine pure_ (i := 0) (N := some 5) (v := ?_) (a' := ?_) #[true, false, false, false, false, false, false, false, false, false, false] rfl rfl (any_of HT_.out (by kernel_rfl)) (fun _ _ _ h => h) (Or.inl ⟨by rfl, ?_⟩) ?_ ?_
    rotate_left
    · intro w'
      go_simp
      with_reducible rfl
    rotate_left
    · simp only [Act.put, List.setIfInBounds_toArray, List.set_cons_zero, List.set_cons_succ, i64_w, i32_w]
      rfl
    refine pure_ (i := 1) (N := some 6) (v := ?_) (a' := ?_) #[true, true, false, false, false, false, false, false, false, false, false] rfl rfl (any_of HT_.out (by kernel_rfl)) (fun _ _ _ h => h) (Or.inl ⟨by rfl, ?_⟩) ?_ ?_
    rotate_left
    · intro w'
      go_simp
      with_reducible rfl
    rotate_left
    · simp only [Act.put, List.setIfInBounds_toArray, List.set_cons_zero, List.set_cons_succ, i64_w, i32_w]
      rfl
    refine pure_ (i := 4) (N := some 9) (v := ?_) (a' := ?_) #[true, true, false, false, true, false, false, false, false, false, false] rfl rfl (any_of HT_.out (by kernel_rfl)) (fun _ _ _ h => h) (Or.inl ⟨by rfl, ?_⟩) ?_ ?_
    rotate_left
    · intro w'
      go_simp
      with_reducible rfl
    rotate_left
    · simp only [Act.put, List.setIfInBounds_toArray, List.set_cons_zero, List.set_cons_succ, i64_w, i32_w]
      rfl
    refine take_ (i := 2) (N := some 7) (v := ?_) (a' := ?_) #[true, true, true, false, true, false, false, false, false, false, false] rfl rfl (take_ofW HT_.out HW_.out (by kernel_rfl)) (fun _ _ _ h => h) (Or.inl ⟨by rfl, ?_⟩) hHeld ?_ ?_
    rotate_left
    · rintro w' ⟨s0, s1, s2, s3⟩
      go_simp
      with_reducible rfl
    rotate_left
    · simp only [Act.put, List.setIfInBounds_toArray, List.set_cons_zero, List.set_cons_succ, i64_w, i32_w]
      rfl
    refine take_ (i := 3) (N := some 8) (v := ?_) (a' := ?_) #[true, true, true, true, true, false, false, false, false, false, false] rfl rfl (take_ofW HT_.out HW_.out (by kernel_rfl)) (fun _ _ _ h => h) (Or.inl ⟨by rfl, ?_⟩) hHeld ?_ ?_
    rotate_left
    · rintro w' ⟨s0, s1, s2, s3⟩
      go_simp
      with_reducible rfl
    rotate_left
    · simp only [Act.put, List.setIfInBounds_toArray, List.set_cons_zero, List.set_cons_succ, i64_w, i32_w]
      rfl
    refine take_ (i := 6) (N := some 11) (v := ?_) (a' := ?_) #[true, true, true, true, true, false, true, false, false, false, false] rfl rfl (take_ofW HT_.out HW_.out (by kernel_rfl)) (fun _ _ _ h => h) (Or.inl ⟨by rfl, ?_⟩) hHeld ?_ ?_
    rotate_left
    · rintro w' ⟨s0, s1, s2, s3⟩
      go_simp
      with_reducible rfl
    rotate_left
    · simp only [Act.put, List.setIfInBounds_toArray, List.set_cons_zero, List.set_cons_succ, i64_w, i32_w]
      rfl
    refine one_ (i := 5) (N := some 10) #[true, true, true, true, true, true, true, false, false, false, false] rfl rfl (one_of HT_.out (by kernel_rfl)) (by decide) (fun K hK => ?_)
    refine goes_ Try.func146 (by kernel_rfl) rfl #[.agg #[.int .i64 a0_0, .int .i64 a0_1, .int .i64 a0_2, .int .i64 a0_3], .int .i64 a1] (by rfl) rfl rfl (by (try simp only [List.map_toArray, List.map_cons, List.map_nil]); first | done | rfl | (simp only [List.length_drop, List.length_take]; rfl)) ?_
    with_reducible refine (curve_line_over.calls a0_0 a0_1 a0_2 a0_3 a1 t456 _ A3.out).mono ?_
    rintro e w8 ⟨rfl, hb⟩
    refine ⟨_, rfl, ?_⟩
    have n0_ := Aside0.mk (blk_below (g := gb455) (o := .cells #[.int .i64 a0_0, .int .i64 a0_1, .int .i64 a0_2, .int .i64 a0_3] 129 (0, 0)) (by (with_reducible repeat (first | refine blk_drewN ?_ _ | refine blk_drew ?_ | refine blk_alloc ?_ _)); exact BK455.out) hb)
    have n1_ := Aside0.mk (below_step (by repeat (first | (with_reducible first | exact HB.out | apply below_alloc | apply pw_below_drewN | apply below_drew1 | refine below_set ?_ GE455.out) | exact HB.out)) hb)
    clear BK455
    clear HB
    have BK455 := n0_
    have HB := n1_
    clear n0_ n1_
    (try clear hb)
    (try clear hb2)
    (try clear hk)
    (try clear hi)
    refine hK.out _ _ ⟨(blk_cell BK455.out 0).trans rfl, (blk_cell BK455.out 1).trans rfl, (blk_cell BK455.out 2).trans rfl, (blk_cell BK455.out 3).trans rfl⟩ (fun hHeld => ?_)
    clear hK K
    refine norm_ (a' := ?_) ?_ ?_
    rotate_left
    · show Act.put _ (some 10) _ = _
      simp only [Act.put, List.setIfInBounds_toArray, List.set_cons_zero, List.set_cons_succ, i64_w, i32_w]
      rfl
    refine one_ (i := 7) (N := some 12) #[true, true, true, true, true, true, true, true, false, false, false] rfl rfl (one_of HT_.out (by kernel_rfl)) (by decide) (fun K hK => ?_)
    refine goes_ Try.func145 (by kernel_rfl) rfl #[.agg #[.int .i64 a0_0, .int .i64 a0_1, .int .i64 a0_2, .int .i64 a0_3]] (by rfl) rfl rfl (by (try simp only [List.map_toArray, List.map_cons, List.map_nil]); first | done | rfl | (simp only [List.length_drop, List.length_take]; rfl)) ?_
    with_reducible refine (curve_line_wide.calls a0_0 a0_1 a0_2 a0_3 t457 _ A4.out).mono ?_
    rintro e w9 ⟨rfl, hb⟩
    refine ⟨_, rfl, ?_⟩
    have n0_ := Aside0.mk (blk_below (g := gb455) (o := .cells #[.int .i64 a0_0, .int .i64 a0_1, .int .i64 a0_2, .int .i64 a0_3] 129 (0, 0)) (by (with_reducible repeat (first | refine blk_drewN ?_ _ | refine blk_drew ?_ | refine blk_alloc ?_ _)); exact BK455.out) hb)
    have n1_ := Aside0.mk (below_step (by repeat (first | (with_reducible first | exact HB.out | apply below_alloc | apply pw_below_drewN | apply below_drew1 | refine below_set ?_ GE455.out) | exact HB.out)) hb)
    clear BK455
    clear HB
    have BK455 := n0_
    have HB := n1_
    clear n0_ n1_
    (try clear hb)
    (try clear hb2)
    (try clear hk)
    (try clear hi)
    refine hK.out _ _ ⟨(blk_cell BK455.out 0).trans rfl, (blk_cell BK455.out 1).trans rfl, (blk_cell BK455.out 2).trans rfl, (blk_cell BK455.out 3).trans rfl⟩ (fun hHeld => ?_)
    clear hK K
    refine norm_ (a' := ?_) ?_ ?_
    rotate_left
    · show Act.put _ (some 12) _ = _
      simp only [Act.put, List.setIfInBounds_toArray, List.set_cons_zero, List.set_cons_succ, i64_w, i32_w]
      rfl
    refine pure_ (i := 8) (N := some 13) (v := ?_) (a' := ?_) #[true, true, true, true, true, true, true, true, true, false, false] rfl rfl (any_of HT_.out (by kernel_rfl)) (fun _ _ _ h => h) (Or.inl ⟨by rfl, ?_⟩) ?_ ?_
    rotate_left
    · intro w'
      go_simp
      with_reducible rfl
    rotate_left
    · simp only [Act.put, List.setIfInBounds_toArray, List.set_cons_zero, List.set_cons_succ, i64_w, i32_w]
      rfl
    refine pure_ (i := 9) (N := some 14) (v := ?_) (a' := ?_) #[true, true, true, true, true, true, true, true, true, true, false] rfl rfl (any_of HT_.out (by kernel_rfl)) (fun _ _ _ h => h) (Or.inl ⟨by rfl, ?_⟩) ?_ ?_
    rotate_left
    · intro w'
      go_simp
      with_reducible rfl
    rotate_left
    · simp only [Act.put, List.setIfInBounds_toArray, List.set_cons_zero, List.set_cons_succ, i64_w, i32_w]
      rfl
    refine pure_ (i := 10) (N := some 4) (v := ?_) (a' := ?_) #[true, true, true, true, true, true, true, true, true, true, true] rfl rfl (any_of HT_.out (by kernel_rfl)) (fun _ _ _ h => h) (Or.inl ⟨by rfl, ?_⟩) ?_ ?_
    rotate_left
    · intro w'
      go_simp
      with_reducible rfl
    rotate_left
    · simp only [Act.put, List.setIfInBounds_toArray, List.set_cons_zero, List.set_cons_succ, i64_w, i32_w]
      rfl
    refine done_ (done_of HT_.out (by kernel_rfl)) ?_
    try go_wp2
    go_ret
    exact ⟨by first | rfl | (simp [errW_none, errW_some] <;> rfl) | (simp [*, errW_none, errW_some] <;> rfl), by repeat (first | (with_reducible first | exact HB.out | apply below_alloc | apply pw_below_drewN | apply below_drew1 | refine below_set ?_ GE455.out) | exact HB.out)⟩
def curve_line_up.f (a0_0 : Int) (a0_1 : Int) (a0_2 : Int) (a0_3 : Int) (a1 : Int) : Option (Int) := (curve_line_over.f a0_0 a0_1 a0_2 a0_3 a1).bind fun t459 => ((curve_line_wide.f a0_0 a0_1 a0_2 a0_3).bind fun t460 => ((curve_line_wide.f a0_0 a0_1 a0_2 a0_3).bind fun t461 => (if t461 = 0 then (none) else (some (wrap64 (a0_1 + (wrap64 (Int.tdiv (wrap64 ((wrap64 (t459 + t460)) - 1)) t461))))))))
def curve_line_up.T1 : Bool × List (List Nat × List Nat) := (true, [([], []), ([0], [0]), ([1], [1]), ([], []), ([], []), ([3, 4], [3, 4]), ([], []), ([6, 5], [6]), ([5, 7], [5, 7]), ([8], [8]), ([], []), ([10, 7], [10]), ([9, 11], [9, 11]), ([2, 12], [2, 12]), ([13, 11, 0, 1, 2, 3, 4, 5, 6, 7, 8, 9, 10, 11, 12, 13], [13])])
def curve_line_up.B1 : List Nat := [0, 1, 3, 0, 0, 24, 0, 120, 248, 504, 0, 1272, 4088, 8191, 16383]
theorem curve_line_up.tab1 : rtab .any (opsOf Try.f116 1) = curve_line_up.T1 := by kernel_rfl
theorem curve_line_up.bits1 : waitsOk curve_line_up.T1.2 curve_line_up.B1 = true := by kernel_rfl
set_option maxHeartbeats 8000000 in
set_option maxRecDepth 100000 in
theorem curve_line_up.calls (a0_0 : Int) (a0_1 : Int) (a0_2 : Int) (a0_3 : Int) (a1 : Int) (r : Int) (w : World) (h : curve_line_up.f a0_0 a0_1 a0_2 a0_3 a1 = some r) :
    Calls Try.prog 116 #[.agg #[.int .i64 a0_0, .int .i64 a0_1, .int .i64 a0_2, .int .i64 a0_3], .int .i64 a1] w fun e w' => e = .returned (.int .i64 r) ∧ Below w.heap.size w w' := by
  have hu129 := Try.underlying129
  have HB := Aside0.mk (Below.refl w.heap.size w)
  have H : ((curve_line_over.f a0_0 a0_1 a0_2 a0_3 a1).bind fun t459 => ((curve_line_wide.f a0_0 a0_1 a0_2 a0_3).bind fun t460 => ((curve_line_wide.f a0_0 a0_1 a0_2 a0_3).bind fun t461 => (if t461 = 0 then (none) else (some (wrap64 (a0_1 + (wrap64 (Int.tdiv (wrap64 ((wrap64 (t459 + t460)) - 1)) t461))))))))) = some r := h
  clear h
  replace H := Option.bind_eq_some_iff.mp H
  obtain ⟨t459, A30, H⟩ := H
  replace H : ((curve_line_wide.f a0_0 a0_1 a0_2 a0_3).bind fun t460 => ((curve_line_wide.f a0_0 a0_1 a0_2 a0_3).bind fun t461 => (if t461 = 0 then (none) else (some (wrap64 (a0_1 + (wrap64 (Int.tdiv (wrap64 ((wrap64 (t459 + t460)) - 1)) t461)))))))) = some r := H
  have A3 := Aside0.mk A30
  clear A30
  replace H := Option.bind_eq_some_iff.mp H
  obtain ⟨t460, A40, H⟩ := H
  replace H : ((curve_line_wide.f a0_0 a0_1 a0_2 a0_3).bind fun t461 => (if t461 = 0 then (none) else (some (wrap64 (a0_1 + (wrap64 (Int.tdiv (wrap64 ((wrap64 (t459 + t460)) - 1)) t461))))))) = some r := H
  have A4 := Aside0.mk A40
  clear A40
  replace H := Option.bind_eq_some_iff.mp H
  obtain ⟨t461, A50, H⟩ := H
  replace H : (if t461 = 0 then (none) else (some (wrap64 (a0_1 + (wrap64 (Int.tdiv (wrap64 ((wrap64 (t459 + t460)) - 1)) t461)))))) = some r := H
  have A5 := Aside0.mk A50
  clear A50
  by_cases c6 : t461 = 0
  · rw [if_pos c6] at H
    exact absurd H (by simp)
  · rw [if_neg c6] at H
    have c6b0 : (t461 == 0) = false := beq_eq_false_iff_ne.mpr c6
    have c6b1 : (t461 != 0) = true := bne_iff_ne.mpr c6
    obtain rfl := Option.some.inj H
    go_enter Try.func116, Try.ntmps116
    try go_wp2_with (first | ((with_reducible refine gate_dst (N := 2) rfl ?_); refine box_event ?hg (N := 2) ?hd (cs := #[.int .i64 a0_0, .int .i64 a0_1, .int .i64 a0_2, .int .i64 a0_3]) (t := 129) ?hr ?_; (case hd => rfl); (case hg => rfl); (case hr => first | (go_simp; done) | (go_simp; rfl)); intro gb458 hg w7 hbox hb; have n0_ := Aside0.mk (below_step (by repeat (first | (with_reducible first | exact HB.out | apply below_alloc | apply pw_below_drewN | apply below_drew1) | exact HB.out)) hb); have n1_ := Aside0.mk (hbox); have n2_ := Aside0.mk ((by rw [hg]; exact (below_size (by repeat (first | (with_reducible first | exact HB.out | apply below_alloc | apply pw_below_drewN | apply below_drew1) | exact HB.out))) : w.heap.size ≤ gb458)); have n3_ := Aside0.mk ((by rw [hg]; exact (below_size (by repeat (first | (with_reducible first | exact HB.out | apply below_alloc | apply pw_below_drewN | apply below_drew1) | exact HB.out))) : w.heap.size ≤ gb458)); clear HB; have HB := n0_; have BK458 := n1_; have GW458 := n2_; have GE458 := n3_; clear n0_ n1_ n2_ n3_; clear hb hbox hg))
    have n0_ := Aside0.mk (blk_drew BK458.out)
    have n1_ := Aside0.mk (below_drew1 HB.out)
    clear BK458
    clear HB
    have BK458 := n0_
    have HB := n1_
    clear n0_ n1_
    refine start_ (n := 15) (S := fun w' => w'.cell? ⟨gb458, 0, none⟩ = some (.int .i64 a0_0) ∧ w'.cell? ⟨gb458, 1, none⟩ = some (.int .i64 a0_1) ∧ w'.cell? ⟨gb458, 2, none⟩ = some (.int .i64 a0_2) ∧ w'.cell? ⟨gb458, 3, none⟩ = some (.int .i64 a0_3)) (ds := []) #[false, false, false, false, false, false, false, false, false, false, false, false, false, false, false] (by kernel_rfl) rfl rfl ⟨(blk_cell BK458.out 0).trans rfl, (blk_cell BK458.out 1).trans rfl, (blk_cell BK458.out 2).trans rfl, (blk_cell BK458.out 3).trans rfl⟩ (fun hHeld => ?_); refine with_tabW curve_line_up.tab1 curve_line_up.bits1 (fun HT_ HW_ => ?_)
    generalize w7.drew = w8 at BK458 HB hHeld ⊢
    refine pure_ (i := 0) (N := some 5) (v := ?_) (a' := ?_) #[true, false, false, false, false, false, false, false, false, false, false, false, false, false, false] rfl rfl (any_of HT_.out (by kernel_rfl)) (fun _ _ _ h => h) (Or.inl ⟨by rfl, ?_⟩) ?_ ?_
    rotate_left
    · intro w'
      go_simp
      with_reducible rfl
    rotate_left
    · simp only [Act.put, List.setIfInBounds_toArray, List.set_cons_zero, List.set_cons_succ, i64_w, i32_w]
      rfl
    refine pure_ (i := 1) (N := some 6) (v := ?_) (a' := ?_) #[true, true, false, false, false, false, false, false, false, false, false, false, false, false, false] rfl rfl (any_of HT_.out (by kernel_rfl)) (fun _ _ _ h => h) (Or.inl ⟨by rfl, ?_⟩) ?_ ?_
    rotate_left
    · intro w'
      go_simp
      with_reducible rfl
    rotate_left
    · simp only [Act.put, List.setIfInBounds_toArray, List.set_cons_zero, List.set_cons_succ, i64_w, i32_w]
      rfl
    refine pure_ (i := 4) (N := some 9) (v := ?_) (a' := ?_) #[true, true, false, false, true, false, false, false, false, false, false, false, false, false, false] rfl rfl (any_of HT_.out (by kernel_rfl)) (fun _ _ _ h => h) (Or.inl ⟨by rfl, ?_⟩) ?_ ?_
    rotate_left
    · intro w'
      go_simp
      with_reducible rfl
    rotate_left
    · simp only [Act.put, List.setIfInBounds_toArray, List.set_cons_zero, List.set_cons_succ, i64_w, i32_w]
      rfl
    refine take_ (i := 2) (N := some 7) (v := ?_) (a' := ?_) #[true, true, true, false, true, false, false, false, false, false, false, false, false, false, false] rfl rfl (take_ofW HT_.out HW_.out (by kernel_rfl)) (fun _ _ _ h => h) (Or.inl ⟨by rfl, ?_⟩) hHeld ?_ ?_
    rotate_left
    · rintro w' ⟨s0, s1, s2, s3⟩
      go_simp
      with_reducible rfl
    rotate_left
    · simp only [Act.put, List.setIfInBounds_toArray, List.set_cons_zero, List.set_cons_succ, i64_w, i32_w]
      rfl
    refine take_ (i := 3) (N := some 8) (v := ?_) (a' := ?_) #[true, true, true, true, true, false, false, false, false, false, false, false, false, false, false] rfl rfl (take_ofW HT_.out HW_.out (by kernel_rfl)) (fun _ _ _ h => h) (Or.inl ⟨by rfl, ?_⟩) hHeld ?_ ?_
    rotate_left
    · rintro w' ⟨s0, s1, s2, s3⟩
      go_simp
      with_reducible rfl
    rotate_left
    · simp only [Act.put, List.setIfInBounds_toArray, List.set_cons_zero, List.set_cons_succ, i64_w, i32_w]
      rfl
    refine take_ (i := 6) (N := some 11) (v := ?_) (a' := ?_) #[true, true, true, true, true, false, true, false, false, false, false, false, false, false, false] rfl rfl (take_ofW HT_.out HW_.out (by kernel_rfl)) (fun _ _ _ h => h) (Or.inl ⟨by rfl, ?_⟩) hHeld ?_ ?_
    rotate_left
    · rintro w' ⟨s0, s1, s2, s3⟩
      go_simp
      with_reducible rfl
    rotate_left
    · simp only [Act.put, List.setIfInBounds_toArray, List.set_cons_zero, List.set_cons_succ, i64_w, i32_w]
      rfl
    refine take_ (i := 10) (N := some 15) (v := ?_) (a' := ?_) #[true, true, true, true, true, false, true, false, false, false, true, false, false, false, false] rfl rfl (take_ofW HT_.out HW_.out (by kernel_rfl)) (fun _ _ _ h => h) (Or.inl ⟨by rfl, ?_⟩) hHeld ?_ ?_
    rotate_left
    · rintro w' ⟨s0, s1, s2, s3⟩
      go_simp
      with_reducible rfl
    rotate_left
    · simp only [Act.put, List.setIfInBounds_toArray, List.set_cons_zero, List.set_cons_succ, i64_w, i32_w]
      rfl
    refine one_ (i := 5) (N := some 10) #[true, true, true, true, true, true, true, false, false, false, true, false, false, false, false] rfl rfl (one_of HT_.out (by kernel_rfl)) (by decide) (fun K hK => ?_)
    refine goes_ Try.func146 (by kernel_rfl) rfl #[.agg #[.int .i64 a0_0, .int .i64 a0_1, .int .i64 a0_2, .int .i64 a0_3], .int .i64 a1] (by rfl) rfl rfl (by (try simp only [List.map_toArray, List.map_cons, List.map_nil]); first | done | rfl | (simp only [List.length_drop, List.length_take]; rfl)) ?_
    with_reducible refine (curve_line_over.calls a0_0 a0_1 a0_2 a0_3 a1 t459 _ A3.out).mono ?_
    rintro e w9 ⟨rfl, hb⟩
    refine ⟨_, rfl, ?_⟩
    have n0_ := Aside0.mk (blk_below (g := gb458) (o := .cells #[.int .i64 a0_0, .int .i64 a0_1, .int .i64 a0_2, .int .i64 a0_3] 129 (0, 0)) (by (with_reducible repeat (first | refine blk_drewN ?_ _ | refine blk_drew ?_ | refine blk_alloc ?_ _)); exact BK458.out) hb)
    have n1_ := Aside0.mk (below_step (by repeat (first | (with_reducible first | exact HB.out | apply below_alloc | apply pw_below_drewN | apply below_drew1 | refine below_set ?_ GE458.out) | exact HB.out)) hb)
    clear BK458
    clear HB
    have BK458 := n0_
    have HB := n1_
    clear n0_ n1_
    (try clear hb)
    (try clear hb2)
    (try clear hk)
    (try clear hi)
    refine hK.out _ _ ⟨(blk_cell BK458.out 0).trans rfl, (blk_cell BK458.out 1).trans rfl, (blk_cell BK458.out 2).trans rfl, (blk_cell BK458.out 3).trans rfl⟩ (fun hHeld => ?_)
    clear hK K
    refine norm_ (a' := ?_) ?_ ?_
    rotate_left
    · show Act.put _ (some 10) _ = _
      simp only [Act.put, List.setIfInBounds_toArray, List.set_cons_zero, List.set_cons_succ, i64_w, i32_w]
      rfl
    refine one_ (i := 7) (N := some 12) #[true, true, true, true, true, true, true, true, false, false, true, false, false, false, false] rfl rfl (one_of HT_.out (by kernel_rfl)) (by decide) (fun K hK => ?_)
    refine goes_ Try.func145 (by kernel_rfl) rfl #[.agg #[.int .i64 a0_0, .int .i64 a0_1, .int .i64 a0_2, .int .i64 a0_3]] (by rfl) rfl rfl (by (try simp only [List.map_toArray, List.map_cons, List.map_nil]); first | done | rfl | (simp only [List.length_drop, List.length_take]; rfl)) ?_
    with_reducible refine (curve_line_wide.calls a0_0 a0_1 a0_2 a0_3 t460 _ A4.out).mono ?_
    rintro e w10 ⟨rfl, hb⟩
    refine ⟨_, rfl, ?_⟩
    have n0_ := Aside0.mk (blk_below (g := gb458) (o := .cells #[.int .i64 a0_0, .int .i64 a0_1, .int .i64 a0_2, .int .i64 a0_3] 129 (0, 0)) (by (with_reducible repeat (first | refine blk_drewN ?_ _ | refine blk_drew ?_ | refine blk_alloc ?_ _)); exact BK458.out) hb)
    have n1_ := Aside0.mk (below_step (by repeat (first | (with_reducible first | exact HB.out | apply below_alloc | apply pw_below_drewN | apply below_drew1 | refine below_set ?_ GE458.out) | exact HB.out)) hb)
    clear BK458
    clear HB
    have BK458 := n0_
    have HB := n1_
    clear n0_ n1_
    (try clear hb)
    (try clear hb2)
    (try clear hk)
    (try clear hi)
    refine hK.out _ _ ⟨(blk_cell BK458.out 0).trans rfl, (blk_cell BK458.out 1).trans rfl, (blk_cell BK458.out 2).trans rfl, (blk_cell BK458.out 3).trans rfl⟩ (fun hHeld => ?_)
    clear hK K
    refine norm_ (a' := ?_) ?_ ?_
    rotate_left
    · show Act.put _ (some 12) _ = _
      simp only [Act.put, List.setIfInBounds_toArray, List.set_cons_zero, List.set_cons_succ, i64_w, i32_w]
      rfl
    refine pure_ (i := 8) (N := some 13) (v := ?_) (a' := ?_) #[true, true, true, true, true, true, true, true, true, false, true, false, false, false, false] rfl rfl (any_of HT_.out (by kernel_rfl)) (fun _ _ _ h => h) (Or.inl ⟨by rfl, ?_⟩) ?_ ?_
    rotate_left
    · intro w'
      go_simp
      with_reducible rfl
    rotate_left
    · simp only [Act.put, List.setIfInBounds_toArray, List.set_cons_zero, List.set_cons_succ, i64_w, i32_w]
      rfl
    refine pure_ (i := 9) (N := some 14) (v := ?_) (a' := ?_) #[true, true, true, true, true, true, true, true, true, true, true, false, false, false, false] rfl rfl (any_of HT_.out (by kernel_rfl)) (fun _ _ _ h => h) (Or.inl ⟨by rfl, ?_⟩) ?_ ?_
    rotate_left
    · intro w'
      go_simp
      with_reducible rfl
    rotate_left
    · simp only [Act.put, List.setIfInBounds_toArray, List.set_cons_zero, List.set_cons_succ, i64_w, i32_w]
      rfl
    refine one_ (i := 11) (N := some 16) #[true, true, true, true, true, true, true, true, true, true, true, true, false, false, false] rfl rfl (one_of HT_.out (by kernel_rfl)) (by decide) (fun K hK => ?_)
    refine goes_ Try.func145 (by kernel_rfl) rfl #[.agg #[.int .i64 a0_0, .int .i64 a0_1, .int .i64 a0_2, .int .i64 a0_3]] (by rfl) rfl rfl (by (try simp only [List.map_toArray, List.map_cons, List.map_nil]); first | done | rfl | (simp only [List.length_drop, List.length_take]; rfl)) ?_
    with_reducible refine (curve_line_wide.calls a0_0 a0_1 a0_2 a0_3 t461 _ A5.out).mono ?_
    rintro e w11 ⟨rfl, hb⟩
    refine ⟨_, rfl, ?_⟩
    have n0_ := Aside0.mk (blk_below (g := gb458) (o := .cells #[.int .i64 a0_0, .int .i64 a0_1, .int .i64 a0_2, .int .i64 a0_3] 129 (0, 0)) (by (with_reducible repeat (first | refine blk_drewN ?_ _ | refine blk_drew ?_ | refine blk_alloc ?_ _)); exact BK458.out) hb)
    have n1_ := Aside0.mk (below_step (by repeat (first | (with_reducible first | exact HB.out | apply below_alloc | apply pw_below_drewN | apply below_drew1 | refine below_set ?_ GE458.out) | exact HB.out)) hb)
    clear BK458
    clear HB
    have BK458 := n0_
    have HB := n1_
    clear n0_ n1_
    (try clear hb)
    (try clear hb2)
    (try clear hk)
    (try clear hi)
    refine hK.out _ _ ⟨(blk_cell BK458.out 0).trans rfl, (blk_cell BK458.out 1).trans rfl, (blk_cell BK458.out 2).trans rfl, (blk_cell BK458.out 3).trans rfl⟩ (fun hHeld => ?_)
    clear hK K
    refine norm_ (a' := ?_) ?_ ?_
    rotate_left
    · show Act.put _ (some 16) _ = _
      simp only [Act.put, List.setIfInBounds_toArray, List.set_cons_zero, List.set_cons_succ, i64_w, i32_w]
      rfl
    refine pure_ (i := 12) (N := some 17) (v := ?_) (a' := ?_) #[true, true, true, true, true, true, true, true, true, true, true, true, true, false, false] rfl rfl (any_of HT_.out (by kernel_rfl)) (fun _ _ _ h => h) (Or.inl ⟨by rfl, ?_⟩) ?_ ?_
    rotate_left
    · intro w'
      go_simp
      with_reducible rfl
    rotate_left
    · simp only [Act.put, List.setIfInBounds_toArray, List.set_cons_zero, List.set_cons_succ, i64_w, i32_w]
      rfl
    refine pure_ (i := 13) (N := some 18) (v := ?_) (a' := ?_) #[true, true, true, true, true, true, true, true, true, true, true, true, true, true, false] rfl rfl (any_of HT_.out (by kernel_rfl)) (fun _ _ _ h => h) (Or.inl ⟨by rfl, ?_⟩) ?_ ?_
    rotate_left
    · intro w'
      go_simp
      with_reducible rfl
    rotate_left
    · simp only [Act.put, List.setIfInBounds_toArray, List.set_cons_zero, List.set_cons_succ, i64_w, i32_w]
      rfl
    refine pure_ (i := 14) (N := some 4) (v := ?_) (a' := ?_) #[true, true, true, true, true, true, true, true, true, true, true, true, true, true, true] rfl rfl (any_of HT_.out (by kernel_rfl)) (fun _ _ _ h => h) (Or.inl ⟨by rfl, ?_⟩) ?_ ?_
    rotate_left
    · intro w'
      go_simp
      with_reducible rfl
    rotate_left
    · simp only [Act.put, List.setIfInBounds_toArray, List.set_cons_zero, List.set_cons_succ, i64_w, i32_w]
      rfl
    refine done_ (done_of HT_.out (by kernel_rfl)) ?_
    try go_wp2
    go_ret
    exact ⟨by first | rfl | (simp [errW_none, errW_some] <;> rfl) | (simp [*, errW_none, errW_some] <;> rfl), by repeat (first | (with_reducible first | exact HB.out | apply below_alloc | apply pw_below_drewN | apply below_drew1 | refine below_set ?_ GE458.out) | exact HB.out)⟩
end Go.Proofs.Ytlhfclpbodfmcaa.Pr
namespace Go.Proofs.Ytlhfclpbodfmcaa.Pr
open Go.RowKit Go.Proofs.YtlhfclpbodfmcaaW.PrintWords Go.Proofs.YtlhfclpbodfmcaaW.PrintLast Go.Proofs.YtlhfclpbodfmcaaW.PrintMore
set_option linter.unusedVariables false
/-- A literal row of numbers. -/
theorem litJ (W : World) (xs : List Int) (hm : xs.length ≤ 1000) : Kd.C (Kd.int .i64) (W.alloc (.cells (xs.map (.int .i64)).toArray 3 (0, 0))) (some ⟨W.heap.size, 0, none⟩) xs.length xs := by
  refine ⟨rfl, by omega, fun _ => ⟨⟨W.heap.size, 0, none⟩, rfl, fun j p hj => ⟨[.int .i64 p], rfl, rfl, fun i u hu => ?_⟩⟩⟩
  rcases i with _ | i
  · simp at hu
    subst hu
    obtain ⟨hl, hp⟩ := List.getElem?_eq_some_iff.1 hj
    have h2 := blk_cell (blk_new W (.cells (xs.map (.int .i64)).toArray 3 (0, 0))) j
    simp [add_plain, show (Kd.int IntKind.i64).sz = 1 from rfl, hj]
  · simp at hu
theorem nw_ (W : World) (C : Obj) : Aside0 ((W.alloc C).heap[W.heap.size]? = some C) := ⟨blk_new W C⟩
theorem ba_ (W : World) (C : Obj) : Below W.heap.size W (W.alloc C) := below_alloc (Below.refl _ _) _
/-- A row of the caller's, later. -/
theorem kc_ {α : Type} {d : Kd α} {w W : World} {A : Option Addr} {l : List α} (h : Aside0 (Kd.C d w A l.length l)) (hb : Aside0 (Below w.heap.size w W)) : Kd.C d W A l.length l := Kd.C_below h.out hb.out
end Go.Proofs.Ytlhfclpbodfmcaa.Pr
namespace Go.Proofs.Ytlhfclpbodfmcaa.Pr
open Go.RowKit Go.Proofs.YtlhfclpbodfmcaaW.PrintWords Go.Proofs.YtlhfclpbodfmcaaW.PrintLast Go.Proofs.YtlhfclpbodfmcaaW.PrintMore
open Go.Proofs.Ytlhfclpbodfmcaa.Vm
set_option linter.unusedVariables false
set_option linter.unusedSimpArgs false
theorem check_len {l : List S60} (h : checkC l = 0) : 2 ≤ l.length ∧ l.length ≤ 64 := by
  unfold checkC at h
  split at h
  · cases h
  · omega
set_option maxRecDepth 100000 in
set_option maxHeartbeats 1600000 in
theorem curve_asked.good (A0 : Option Addr) (c0 : Nat) (l0 : List S60) (x : Int) (w : World) (hr0 : Kd.C k60 w A0 l0.length l0) (hc0 : l0.length ≤ c0) (hk : checkC l0 = 0) (hw : curve_within.f l0 x = some true) :
    Calls Try.prog 111 #[.slice A0 l0.length c0, .int .i64 x] w fun e w' => e = .returned (.tuple #[.agg (LVc (firstL l0 x)), .int .i64 0]) ∧ Below w.heap.size w w' := by
  have hu129 := Try.underlying129
  have HR0 := Aside0.mk hr0
  have HC0 := Aside0.mk hc0
  have HK : Aside0 (curve_Check.f l0 = some 0) := ⟨congrArg some hk⟩
  have HW := Aside0.mk hw
  have HLN := Aside0.mk (check_len hk)
  have HB := Aside0.mk (Below.refl w.heap.size w)
  clear hr0 hc0 hk hw
  obtain ⟨F, hF⟩ : ∃ F, firstL l0 x = F := ⟨_, rfl⟩
  have HAT : Aside0 (∀ W, Below w.heap.size w W → Calls Try.prog 143 #[.slice A0 l0.length c0, .int .i64 x] W fun e w' => e = .returned (.agg #[.int .i64 F.1.f0, .int .i64 F.1.f1, .int .i64 F.2.f0, .int .i64 F.2.f1]) ∧ Below W.heap.size W w') := ⟨fun W hB => by
    have h := curve_at.run A0 c0 l0 x W (Kd.C_below HR0.out hB) HLN.out.1 HLN.out.2
    rw [hF] at h; exact h⟩
  rw [hF]
  clear hF
  go_enter Try.func111, Try.ntmps111
  go_wp2_with (first | ((with_reducible refine gate_dst (N := 4) rfl ?_); refine bx_ 4 #[.int .i64 0, .int .i64 0, .int .i64 0, .int .i64 0] 129 ?_; intro gr hg w1 hbox hb; have GEgr := ge_ hg HB; replace hb := nb_ HB hb; replace HB := bs_ HB hb; have BKgr := Aside0.mk hbox; clear hb hbox hg))
  refine (curve_Check.calls A0 c0 l0 0 _ (kc_ HR0 HB) HC0.out HK.out).mono ?_
  rintro e w2 ⟨rfl, hb⟩
  replace hb := nb_ HB hb
  replace BKgr := kb_ BKgr hb
  replace HB := bs_ HB hb
  clear hb
  go_wp2_with fail
  refine (curve_within.calls A0 c0 l0 x true _ (kc_ HR0 HB) HC0.out HW.out).mono ?_
  rintro e w3 ⟨rfl, hb⟩
  try replace hb := hb.below
  replace hb := nb_ HB hb
  replace BKgr := kb_ BKgr hb
  replace HB := bs_ HB hb
  clear hb
  go_wp2_with fail
  refine (HAT.out _ HB.out).mono ?_
  rintro e w4 ⟨rfl, hb⟩
  replace hb := nb_ HB hb
  replace BKgr := kb_ BKgr hb
  replace HB := bs_ HB hb
  clear hb
  have g0 := (blk_cell BKgr.out 0).trans rfl
  have g1 := (blk_cell BKgr.out 1).trans rfl
  have g2 := (blk_cell BKgr.out 2).trans rfl
  have g3 := (blk_cell BKgr.out 3).trans rfl
  have k0 := blk_frozen BKgr.out 0
  have k1 := blk_frozen BKgr.out 1
  have k2 := blk_frozen BKgr.out 2
  have k3 := blk_frozen BKgr.out 3
  go_wp2
  refine bodyPost_ret (results_ct rfl _ _ gr 129 #[.int .i64 F.1.f0, .int .i64 F.1.f1, .int .i64 F.2.f0, .int .i64 F.2.f1] (0, 0) _ rfl (set4_block BKgr.out) Try.underlying129 rfl (by kernel_rfl)) rfl ?_
  exact ⟨rfl, set4_below HB.out GEgr.out⟩
set_option maxRecDepth 100000 in
set_option maxHeartbeats 1600000 in
theorem curve_Low.good (A0 : Option Addr) (c0 : Nat) (l0 : List S60) (x r : Int) (w : World) (hr0 : Kd.C k60 w A0 l0.length l0) (hc0 : l0.length ≤ c0) (hk : checkC l0 = 0) (hw : curve_within.f l0 x = some true) (hr : curve_line_low.f (firstL l0 x).1.f0 (firstL l0 x).1.f1 (firstL l0 x).2.f0 (firstL l0 x).2.f1 x = some r) :
    Calls Try.prog 44 #[.slice A0 l0.length c0, .int .i64 x] w fun e w' => e = .returned (.tuple #[.int .i64 r, .int .i64 0]) ∧ Below w.heap.size w w' := by
  have hu129 := Try.underlying129
  have HA := Aside0.mk (curve_asked.good A0 c0 l0 x w hr0 hc0 hk hw)
  have HB := Aside0.mk (Below.refl w.heap.size w)
  clear hr0 hc0 hk hw
  generalize firstL l0 x = F at HA hr
  have HR := Aside0.mk hr
  clear hr
  go_enter Try.func44, Try.ntmps44
  go_wp2_with fail
  refine HA.out.mono ?_
  rintro e w2 ⟨rfl, hb⟩
  unfold LVc
  replace HB := bs_ HB hb
  clear hb HA
  go_wp2_with fail
  refine (curve_line_low.calls _ _ _ _ _ r _ HR.out).mono ?_
  rintro e w3 ⟨rfl, hb⟩
  try replace hb := hb.below
  replace hb := nb_ HB hb
  replace HB := bs_ HB hb
  clear hb
  go_wp2
  go_ret2
  exact ⟨rfl, HB.out⟩
set_option maxRecDepth 100000 in
set_option maxHeartbeats 1600000 in
theorem curve_High.good (A0 : Option Addr) (c0 : Nat) (l0 : List S60) (x r : Int) (w : World) (hr0 : Kd.C k60 w A0 l0.length l0) (hc0 : l0.length ≤ c0) (hk : checkC l0 = 0) (hw : curve_within.f l0 x = some true) (hr : curve_line_up.f (firstL l0 x).1.f0 (firstL l0 x).1.f1 (firstL l0 x).2.f0 (firstL l0 x).2.f1 x = some r) :
    Calls Try.prog 45 #[.slice A0 l0.length c0, .int .i64 x] w fun e w' => e = .returned (.tuple #[.int .i64 r, .int .i64 0]) ∧ Below w.heap.size w w' := by
  have hu129 := Try.underlying129
  have HA := Aside0.mk (curve_asked.good A0 c0 l0 x w hr0 hc0 hk hw)
  have HB := Aside0.mk (Below.refl w.heap.size w)
  clear hr0 hc0 hk hw
  generalize firstL l0 x = F at HA hr
  have HR := Aside0.mk hr
  clear hr
  go_enter Try.func45, Try.ntmps45
  go_wp2_with fail
  refine HA.out.mono ?_
  rintro e w2 ⟨rfl, hb⟩
  unfold LVc
  replace HB := bs_ HB hb
  clear hb HA
  go_wp2_with fail
  refine (curve_line_up.calls _ _ _ _ _ r _ HR.out).mono ?_
  rintro e w3 ⟨rfl, hb⟩
  try replace hb := hb.below
  replace hb := nb_ HB hb
  replace HB := bs_ HB hb
  clear hb
  go_wp2
  go_ret2
  exact ⟨rfl, HB.out⟩
end Go.Proofs.Ytlhfclpbodfmcaa.Pr
namespace Go.Proofs.Ytlhfclpbodfmcaa.Pr
open Go.RowKit Go.Proofs.YtlhfclpbodfmcaaW.PrintWords Go.Proofs.YtlhfclpbodfmcaaW.PrintLast Go.Proofs.YtlhfclpbodfmcaaW.PrintMore
open Go.Proofs.Ytlhfclpbodfmcaa.Vm
set_option linter.unusedVariables false
set_option linter.unusedSimpArgs false
set_option maxHeartbeats 1600000 in
set_option maxRecDepth 100000 in
theorem volume_drawn.calls (A0 : Option Addr) (c0 : Nat) (l0 : List S79) (r1 : List S60) (r2 : Int) (w : World) (hr0 : Kd.C k79 w A0 l0.length l0) (hc0 : l0.length ≤ c0) (h : drawF (·.f1) l0 = (r1, r2)) :
    Calls Try.prog 107 #[.slice A0 l0.length c0, .func (.func 108) #[] #[]] w fun e w' => ∃ v0_ : Value, e = .returned (.tuple #[v0_, .int .i64 r2]) ∧ Kd.R k60 60 w' w.heap.size (fun _ => True) v0_ r1 ∧ Below w.heap.size w w' := by
  have hu60 := Try.underlying60
  have hu157 := Try.underlying157
  have hu150 := Try.underlying150
  have HR0 := Aside0.mk hr0
  have HC0 := Aside0.mk hc0
  clear hr0 hc0
  have HB := Aside0.mk (Below.refl w.heap.size w)
  unfold drawF at h
  by_cases hv : validB l0 = true
  · rw [if_pos hv] at h
    obtain ⟨rfl, rfl⟩ : (ptsF (l0.map (·.f0)) (l0.map (·.f1)) (l0.length + 1)) = r1 ∧ checkC (ptsF (l0.map (·.f0)) (l0.map (·.f1)) (l0.length + 1)) = r2 := by simpa using h
    clear h
    have hK : vessel_Check.f 30 l0 = some 0 := by rw [vCheck]; unfold checkF; rw [hv]; rfl
    have HK := Aside0.mk hK
    have hG : GV (hsO l0) (vsO l0) (dsO l0) := valid_GV hv
    have hlen := hG.h.ln
    rw [List.length_map] at hlen
    have HN : Aside0 (l0.length ≤ 900) := ⟨by omega⟩
    have HLEN := Aside0.mk hlen
    clear hK hv hG hlen
    go_enter Try.func107, Try.ntmps107
    go_wp2_with (first | ((with_reducible refine gate_callee (f := 48) rfl ?_); refine gL_ (some 13) Try.func48 (vessel_Check.calls 30 A0 c0 l0 0 _ (Kd.C_below HR0.out HB.out) HC0.out HK.out) ?_; rintro e w2 ⟨rfl, hb⟩; refine ⟨.int .i64 0, rfl, ?_⟩; replace hb := nb_ HB hb; replace HB := bs_ HB hb; clear hb))
    refine (height_scaled.calls A0 c0 l0 _ (Kd.C_below HR0.out HB.out) HN.out).mono ?_
    rintro e w3 ⟨g1, rfl, s_, hb⟩
    replace hb := nb_ HB hb
    replace HB := bs_ HB hb
    have SC1 := Aside0.mk (ScX.sc s_)
    clear s_ hb
    go_wp2_with fail
    refine (volume_scaled.calls A0 c0 l0 _ (Kd.C_below HR0.out HB.out) HN.out).mono ?_
    rintro e w4 ⟨g2, rfl, s_, hb⟩
    replace hb := nb_ HB hb
    replace SC1 := Aside0.mk (Sc.below SC1.out hb)
    replace HB := bs_ HB hb
    have SC2 := Aside0.mk (ScX.sc s_)
    clear s_ hb
    obtain ⟨a1, a2, cc1, cc2, e1, e2, d1, d2, l1, l2⟩ := SC1.out
    obtain ⟨b1, b2, dd1, dd2, f1, f2, t1, t2, m1, m2⟩ := SC2.out
    have hlx : (sums 0 (l0.map (·.f0))).length = l0.length + 1 := by rw [sums_length, List.length_map]
    have hly : (sums 0 (l0.map (·.f1))).length = l0.length + 1 := by rw [sums_length, List.length_map]
    rw [hlx] at e2 d2 l2
    rw [hly] at f2 t2 m2
    have E2 := Aside0.mk e2
    have F2 := Aside0.mk f2
    have D2 := Aside0.mk d2
    have T2 := Aside0.mk t2
    have HLX := Aside0.mk hlx
    have HLY := Aside0.mk hly
    have HV := Aside0.mk (Below.refl w4.heap.size w4)
    have HWV := Aside0.mk HB.out.size
    clear e1 d1 l1 l2 f1 t1 m1 m2 d2 t2 hlx hly SC1 SC2 f2
    go_wp2
    clear e2
    have RO : Aside0 (Kd.R k60 60 w4 w4.heap.size (fun _ => True) (.slice none 0 0) (ptsF (l0.map (·.f0)) (l0.map (·.f1)) 0)) := ⟨Kd.R_nil _ _ _ _ _⟩
    go_loopg [9, 27] (l0.length + 1) (fun kq v9 v27 w' => ∃ (n : Nat), v27 = .int .i64 (n : Int) ∧ Aside0 (n + kq = l0.length + 1) ∧ Aside0 (Kd.R k60 60 w' w4.heap.size (fun _ => True) v9 (ptsF (l0.map (·.f0)) (l0.map (·.f1)) n)) ∧ Aside0 (Below w.heap.size w w') ∧ Aside0 (Below w4.heap.size w4 w'))
    case atStart => exact ⟨0, rfl, ⟨by omega⟩, RO, HB, HV⟩
    case round =>
      clear RO HB HV
      obtain ⟨n, rfl, HI, RO, HB, HV⟩ := hrel
      by_cases hij : n < l0.length + 1
      · have hd : decide ((n : Int) < ((l0.length + 1 : Nat) : Int)) = true := decide_eq_true (by omega)
        have hd3 : decide ((n : Int) < (l0.length : Int) + 1) = true := decide_eq_true (by omega)
        have hd2 : decide (n < l0.length + 1) = true := decide_eq_true hij
        have h0 : (0 : Int) ≤ (n : Int) := by omega
        have h1 : (n : Int) < ((l0.length + 1 : Nat) : Int) := by omega
        have h2 : (n : Int) < (l0.length : Int) + 1 := by omega
        obtain ⟨ad1, q1, x1⟩ := Kd.at_int D2.out (n : Int) h0 h1
        obtain ⟨ad2, q2, x2⟩ := Kd.at_int T2.out (n : Int) h0 h1
        subst q1 q2
        simp only [Int.toNat_natCast] at x1 x2
        have hn24 : n ≤ 24 := by have := HLEN.out; omega
        have HPL : Aside0 ((ptsF (l0.map (·.f0)) (l0.map (·.f1)) n).length ≤ 1000) := ⟨by rw [ptsF_length]; have := HLEN.out; omega⟩
        have X1 := pw_cell_below HV.out x1
        have X2 := pw_cell_below HV.out x2
        have X3 := pw_cell_below HV.out F2.out
        clear x1 x2
        replace h0 := eq_true h0
        replace h1 := eq_true h1
        replace h2 := eq_true h2
        have h3 : (n < l0.length + 1) = True := eq_true hij
        go_wp2_with (first | ((with_reducible refine gate_dst (N := 42) rfl ?_); refine litv_list ?hg (N := 42) ?hd (cs := #[.int .i64 (rd (sums 0 (l0.map (·.f0))) (n : Int)), .int .i64 (rd (sums 0 (l0.map (·.f1))) (n : Int))]) (E := 60) ?hr ?_; (case hd => rfl); (case hg => rfl); (case hr => first | (go_simp; done) | (go_simp; rfl)); intro ga hg w10 hbox hb; replace hb := nb_ HB hb; replace RO := Aside0.mk (Kd.R_below RO.out hb); replace HB := bs_ HB hb; replace HV := bs_ HV hb; have BKga := Aside0.mk hbox; clear hb hbox hg X1 X2 X3) | ((with_reducible refine gate_dst (N := 43) rfl ?_); refine app60_list (w := w4) ?hg (.tmp 32) (.tmp 42) 37 60 ?ho Try.underlying37 info60 u9 (ptsF (l0.map (·.f0)) (l0.map (·.f1)) n) ⟨rd (sums 0 (l0.map (·.f0))) (n : Int), rd (sums 0 (l0.map (·.f1))) (n : Int)⟩ ga ?hq1 ?hq2 RO.out BKga.out HV.out HPL.out ?_; (case hg => rfl); (case ho => rfl); (case hq1 => rfl); (case hq2 => rfl); intro u9_ w11 ho hb hg hat; have n0_ := Aside0.mk (pw_below_grown HB.out _ HB.out.size hg (fun k hk => Nat.le_trans HWV.out (Kd.R_base RO.out k hk))); have n1_ := Aside0.mk hb; rw [ptsF_succ] at ho; have n2_ := Aside0.mk ho; clear HB RO BKga HV; have HB := n0_; have HV := n1_; have RO := n2_; clear n0_ n1_ n2_ ho hb hg hat))
        go_roundg (gk - 1)
        case measure => have := HI.out; omega
        case rel => exact ⟨n + 1, by go_num, ⟨by have := HI.out; omega⟩, RO, HB, HV⟩
      · have hd : decide ((n : Int) < ((l0.length + 1 : Nat) : Int)) = false := decide_eq_false (by omega)
        have hd3 : decide ((n : Int) < (l0.length : Int) + 1) = false := decide_eq_false (by omega)
        have hd2 : decide (n < l0.length + 1) = false := decide_eq_false hij
        obtain rfl : n = l0.length + 1 := by have := HI.out; omega
        obtain ⟨A9, c9, rfl, l9, k9⟩ := Kd.R_reads RO.out
        have K9 := Aside0.mk k9
        have L9 := Aside0.mk l9
        clear k9 l9
        go_wp2_with (first | ((with_reducible refine gate_callee (f := 40) rfl ?_); refine gL_ (some 47) Try.func40 (curve_Check.calls A9 c9 (ptsF (l0.map (·.f0)) (l0.map (·.f1)) (l0.length + 1)) _ _ K9.out L9.out rfl) ?_; rintro e w12 ⟨rfl, hb⟩; refine ⟨.int .i64 (checkC (ptsF (l0.map (·.f0)) (l0.map (·.f1)) (l0.length + 1))), rfl, ?_⟩; replace hb := nb_ HB hb; replace RO := Aside0.mk (Kd.R_below RO.out hb); replace HB := bs_ HB hb; clear hb))
        go_ret2
        exact ⟨_, rfl, Kd.R_lower RO.out HWV.out, HB.out⟩
  · rw [if_neg hv] at h
    obtain ⟨rfl, rfl⟩ : ([] : List S60) = r1 ∧ (20 : Int) = r2 := by simpa using h
    clear h
    have hK : vessel_Check.f 30 l0 = some 20 := by rw [vCheck]; unfold checkF; rw [Bool.not_eq_true] at hv; rw [hv]; rfl
    have HK := Aside0.mk hK
    clear hK hv
    go_enter Try.func107, Try.ntmps107
    go_wp2_with (first | ((with_reducible refine gate_callee (f := 48) rfl ?_); refine gL_ (some 13) Try.func48 (vessel_Check.calls 30 A0 c0 l0 20 _ (Kd.C_below HR0.out HB.out) HC0.out HK.out) ?_; rintro e w2 ⟨rfl, hb⟩; refine ⟨.int .i64 20, rfl, ?_⟩; replace hb := nb_ HB hb; replace HB := bs_ HB hb; clear hb))
    go_ret2
    exact ⟨_, rfl, Kd.R_nil _ _ _ _ _, HB.out⟩
def vessel_Holding.f (l0 : List S79) : Option (List S60 × Int) := some (drawF (·.f1) l0)
set_option maxHeartbeats 1600000 in
set_option maxRecDepth 100000 in
theorem vessel_Holding.calls (A0 : Option Addr) (c0 : Nat) (l0 : List S79) (r1 : List S60) (r2 : Int) (w : World) (hr0 : Kd.C k79 w A0 l0.length l0) (hc0 : l0.length ≤ c0) (h : vessel_Holding.f l0 = some (r1, r2)) :
    Calls Try.prog 39 #[.slice A0 l0.length c0] w fun e w' => ∃ v0_ : Value, e = .returned (.tuple #[v0_, .int .i64 r2]) ∧ Kd.R k60 60 w' w.heap.size (fun _ => True) v0_ r1 ∧ Below w.heap.size w w' := by
  have HB := Aside0.mk (Below.refl w.heap.size w)
  have C1 := volume_drawn.calls A0 c0 l0 r1 r2 w hr0 hc0 (Option.some.inj h)
  clear hr0 hc0 h
  go_enter Try.func39, Try.ntmps39
  go_wp2_with (first | ((with_reducible refine gate_dst (N := 5) rfl ?_); refine goesL_ (some 5) rfl rfl Try.func107 (by kernel_rfl) rfl #[.slice A0 l0.length c0, .func (.func 108) #[] #[]] rfl (by (try simp only [List.map_toArray, List.map_cons, List.map_nil]); first | done | rfl) ?_; refine C1.mono ?_; rintro e w2 ⟨v0_, rfl, RO, hb⟩; refine ⟨_, rfl, ?_⟩))
  go_ret2
  exact ⟨_, rfl, RO, hb⟩
end Go.Proofs.Ytlhfclpbodfmcaa.Pr
namespace Go.Proofs.Ytlhfclpbodfmcaa.Pr
open Go.RowKit Go.Proofs.YtlhfclpbodfmcaaW.PrintWords Go.Proofs.YtlhfclpbodfmcaaW.PrintLast Go.Proofs.YtlhfclpbodfmcaaW.PrintMore
open Go.Proofs.Ytlhfclpbodfmcaa.Vm
set_option linter.unusedVariables false
/-- The points of a curve of sums. -/
def ptsS (hs fs : List Int) (n : Nat) : List S60 := (List.range n).map (fun (i : Nat) => (⟨sm (hs.take i), sm (fs.take i)⟩ : S60))
theorem ptsS_length (hs fs : List Int) (n : Nat) : (ptsS hs fs n).length = n := by simp [ptsS]
theorem ptsS_eq {hs fs : List Int} {A B : Int} (hh : GoodR hs A) (hf : GoodR fs B) (hA : A ≤ 100000) (hB : B ≤ 100000) (hl : hs.length = fs.length) : ptsF hs fs (hs.length + 1) = ptsS hs fs (hs.length + 1) := by
  unfold ptsF ptsS
  apply List.map_congr_left
  intro i hi
  have hi := List.mem_range.1 hi
  rw [hh.rd hA (by omega), hf.rd hB (by omega)]
theorem ptsS_get (hs fs : List Int) (n i : Nat) (h : i < n) : rd_T60 (ptsS hs fs n) (i : Int) = ⟨sm (hs.take i), sm (fs.take i)⟩ := by
  simp [rd_T60, ptsS, List.getD_eq_getElem?_getD, List.getElem?_map, List.getElem?_range h]
theorem checkC_S {hs fs : List Int} {A B : Int} (hh : GoodR hs A) (hf : GoodR fs B) (hA : sm hs ≤ 16777216) (hB : sm fs ≤ 16777216) (hl : hs.length = fs.length) : checkC (ptsS hs fs (hs.length + 1)) = 0 := by
  have bd : ∀ {xs : List Int} {C : Int}, GoodR xs C → sm xs ≤ 16777216 → ∀ i, 0 ≤ sm (xs.take i) ∧ sm (xs.take i) ≤ 16777216 := fun hx hC i => ⟨(hx.pos.take i).sum, Int.le_trans (sm_take_le_all hx.pos i) hC⟩
  have h1 : (ptsS hs fs (hs.length + 1)).all ptB = true := by
    rw [List.all_eq_true]
    intro x hx
    obtain ⟨i, hi, rfl⟩ := List.mem_map.1 hx
    have a := bd hh hA i
    have b := bd hf hB i
    simp only [ptB, coordB, Bool.and_eq_true, decide_eq_true_eq]
    exact ⟨⟨a.1, a.2⟩, ⟨b.1, b.2⟩⟩
  have h2 : incB (ptsS hs fs (hs.length + 1)) = true := by
    unfold incB
    rw [List.all_eq_true, ptsS_length]
    intro x hx
    obtain ⟨i, hi, rfl⟩ := List.mem_map.1 hx
    have hi := List.mem_range.1 hi
    have e : (i : Int) + 1 = ((i + 1 : Nat) : Int) := by omega
    unfold lineAt okLine
    rw [e, ptsS_get _ _ _ _ (by omega), ptsS_get _ _ _ _ (by omega)]
    have s1 := sm_take_succ hs i (by omega)
    have s2 := sm_take_succ fs i (by omega)
    have g1 := hh.gt (r := i) (by omega)
    have g2 := hf.gt (r := i) (by omega)
    simp only [Bool.and_eq_true, decide_eq_true_eq]
    omega
  have hn := hh.ne
  have hN := hh.ln
  unfold checkC
  rw [if_neg, if_pos h2]
  rw [ptsS_length, h1]
  simp
  omega
/-- What drawn hands back. -/
theorem draw_d {l : List S79} (h : validB l = true) : drawF (·.f2) l = (ptsS (hsO l) (dsO l) (l.length + 1), 0) := by
  have g := valid_GV h
  have S := g.sums
  have e := ptsS_eq g.h g.d (by decide) (by decide) g.hd
  have c := checkC_S g.h g.d (by omega) (by omega) g.hd
  rw [List.length_map] at e c
  unfold drawF
  rw [if_pos h, e, c]
theorem draw_v {l : List S79} (h : validB l = true) : drawF (·.f1) l = (ptsS (hsO l) (vsO l) (l.length + 1), 0) := by
  have g := valid_GV h
  have S := g.sums
  have e := ptsS_eq g.h g.v (by decide) (by decide) g.hv
  have c := checkC_S g.h g.v (by omega) (by omega) g.hv
  rw [List.length_map] at e c
  unfold drawF
  rw [if_pos h, e, c]
end Go.Proofs.Ytlhfclpbodfmcaa.Pr
namespace Go.Proofs.Ytlhfclpbodfmcaa.Pr
open Go.Proofs.Ytlhfclpbodfmcaa.Vm
set_option linter.unusedVariables false
def vT (l : List S79) (x : Rat) : Rat := conv (hsO l) (vsO l) x
def uT (l : List S79) (x : Rat) : Rat := conv (dsO l) (vsO l) x
theorem run_val {l : List S79} {lv m : Int} (h : VL l lv) (m0 : 0 ≤ m) (m1 : m ≤ 16777216) : RunF l lv m = rnd (vT l (lv : Rat) - uT l (leftM l lv m)) := by
  obtain ⟨r1, r2, _⟩ := runF_spec h.gv h.h0 h.h1 m0
  unfold RunF asks
  rw [if_pos h.v, h.lv, manyB_iff.2 ⟨m0, m1⟩]
  simp only [Bool.and_self, if_true]
  rw [okS_span r2, r1]
  rfl
section
variable {l : List S79}
end
end Go.Proofs.Ytlhfclpbodfmcaa.Pr
namespace Go.Proofs.Ytlhfclpbodfmcaa.Pr
open Go.Proofs.Ytlhfclpbodfmcaa.Vm
set_option linter.unusedVariables false
def runX (l : List S79) (lv m : Int) : Rat := vT l (lv : Rat) - uT l (leftM l lv m)
theorem run_val' {l : List S79} {lv m : Int} (h : VL l lv) (m0 : 0 ≤ m) (m1 : m ≤ 16777216) : RunF l lv m = rnd (runX l lv m) := run_val h m0 m1
theorem fl_nn {x : Rat} (h : 0 ≤ x) : 0 ≤ x.floor := Rat.le_floor_iff.2 (by simpa using h)
theorem fl_le {x : Rat} {n : Int} (h : x ≤ (n : Rat)) : x.floor ≤ n := by
  have := Rat.floor_le x
  exact Rat.intCast_le_intCast.1 (by grind)
section
variable {l : List S79}
theorem VL.fl {lv : Int} (h : VL l lv) {x : Rat} (h0 : 0 ≤ x) (h1 : x ≤ (sm (hsO l) : Rat)) : VL l x.floor := ⟨h.v, fl_nn h0, fl_le h1⟩
theorem uT_le {lv : Int} (h : VL l lv) {x y : Rat} (x0 : 0 ≤ x) (x1 : x ≤ (sm (dsO l) : Rat)) (y0 : 0 ≤ y) (y1 : y ≤ (sm (dsO l) : Rat)) : uT l x ≤ uT l y ↔ x ≤ y := conv_le_iff (h.gv.hd.symm.trans h.gv.hv) h.gv.d.pos h.gv.v.pos x0 x1 y0 y1
theorem uT_mT {lv : Int} (h : VL l lv) {x : Rat} (h0 : 0 ≤ x) (h1 : x ≤ (sm (hsO l) : Rat)) : uT l (mT l x) = vT l x := conv_conv h.gv.hd (h.gv.hd.symm.trans h.gv.hv) h.gv.h.pos h.gv.d.pos h.gv.v.pos h0 h1
theorem uT_zero {lv : Int} (h : VL l lv) : uT l 0 = 0 := conv_zero h.gv.d.pos
theorem vT_bd {lv : Int} (h : VL l lv) {x : Rat} (h0 : 0 ≤ x) (h1 : x ≤ (sm (hsO l) : Rat)) : 0 ≤ vT l x ∧ vT l x ≤ (sm (vsO l) : Rat) := conv_bounds h.gv.hv h.gv.h.pos h.gv.v.pos h0 h1
theorem run_bd {a m : Int} (h : VL l a) (m0 : 0 ≤ m) : 0 ≤ runX l a m ∧ runX l a m ≤ vT l (a : Rat) ∧ runX l a m ≤ (sm (vsO l) : Rat) := by
  have p := left_bd h m0
  have h1 := mT_bd h h.c0 h.c1
  have k := (uT_le h p.1 p.2.2 h1.1 h1.2).2 p.2.1
  have z := (uT_le h (Rat.le_refl) (by grind) p.1 p.2.2).2 p.1
  rw [uT_zero h] at z
  rw [uT_mT h h.c0 h.c1] at k
  have v := vT_bd h h.c0 h.c1
  unfold runX
  exact ⟨by grind, by grind, by grind⟩
end
end Go.Proofs.Ytlhfclpbodfmcaa.Pr
namespace Go.Proofs.Ytlhfclpbodfmcaa.Pr
open Go.Proofs.Ytlhfclpbodfmcaa.Vm
set_option linter.unusedVariables false
theorem rightP {l0 : List S79} {l1 l2 : List Int} (h : rightB l0 l1 l2 = true) : validB l0 = true ∧ (∀ n ∈ l2, 0 ≤ n ∧ n ≤ sm (hsO l0)) ∧ (∀ n ∈ l1, 0 ≤ n ∧ n ≤ 8388608) ∧ l0.length ≤ 40 := by
  unfold rightB fewB lvlB at h
  simp only [Bool.and_eq_true, decide_eq_true_eq, List.all_eq_true] at h
  exact ⟨h.2.1, h.2.2.1, h.2.2.2, h.1⟩
end Go.Proofs.Ytlhfclpbodfmcaa.Pr
namespace Go.Proofs.Ytlhfclpbodfmcaa.Pr
open Go.RowKit Go.Proofs.YtlhfclpbodfmcaaW.PrintWords Go.Proofs.YtlhfclpbodfmcaaW.PrintLast Go.Proofs.YtlhfclpbodfmcaaW.PrintMore
open Go.Proofs.Ytlhfclpbodfmcaa.Vm
set_option linter.unusedVariables false
set_option linter.unusedSimpArgs false
theorem wrp_ {n : Int} (h0 : -9223372036854775808 ≤ n) (h1 : n ≤ 9223372036854775807) : wrap64 n = n := wr h0 h1
end Go.Proofs.Ytlhfclpbodfmcaa.Pr
namespace Go.Proofs.Ytlhfclpbodfmcaa.Pr
open Go.RowKit Go.Proofs.YtlhfclpbodfmcaaW.PrintWords Go.Proofs.YtlhfclpbodfmcaaW.PrintLast Go.Proofs.YtlhfclpbodfmcaaW.PrintMore
open Go.Proofs.Ytlhfclpbodfmcaa.Vm
set_option linter.unusedVariables false
theorem split_at {hs : List Int} {i : Nat} (hi : i < hs.length) : hs = hs.take i ++ Vm.gt hs i :: hs.drop (i + 1) := by
  have e : Vm.gt hs i = hs[i] := by simp [Vm.gt, List.getD_eq_getElem?_getD, List.getElem?_eq_getElem hi]
  rw [e, ← List.drop_eq_getElem_cons hi, List.take_append_drop]
theorem conv_line {hs fs : List Int} {i : Nat} (hi : i < hs.length) (hl : hs.length = fs.length) (ph : Pos hs) (pf : Pos fs) {x : Rat} (h0 : (sm (hs.take i) : Rat) ≤ x) (h1 : x ≤ (sm (hs.take (i + 1)) : Rat)) :
    conv hs fs x = (sm (fs.take i) : Rat) + (x - (sm (hs.take i) : Rat)) * (Vm.gt fs i : Rat) / (Vm.gt hs i : Rat) := by
  have e1 := split_at hi
  have e2 := split_at (hs := fs) (i := i) (by omega)
  have q1 : Pos (hs.take i ++ Vm.gt hs i :: hs.drop (i + 1)) := by rw [← e1]; exact ph
  have q2 : Pos (fs.take i ++ Vm.gt fs i :: fs.drop (i + 1)) := by rw [← e2]; exact pf
  have := conv_at (x := x) (by simp; omega) q1 q2 h0 (by rw [sm_take_succ hs i hi, Rat.intCast_add] at h1; exact h1)
  rwa [← e1, ← e2] at this
theorem line_found {hs : List Int} (ph : Pos hs) {x : Int} (h0 : 0 ≤ x) : ∀ n, n ≤ hs.length → 1 ≤ n → x ≤ sm (hs.take n) → ∃ i, i < n ∧ sm (hs.take i) ≤ x ∧ x ≤ sm (hs.take (i + 1)) := by
  intro n
  induction n with
  | zero => intro _ h; omega
  | succ n ih =>
    intro hn _ hx
    by_cases h : n = 0
    · subst h; exact ⟨0, by omega, by simpa [sm] using h0, hx⟩
    · by_cases hy : x ≤ sm (hs.take n)
      · obtain ⟨i, a, b⟩ := ih (by omega) (by omega) hy
        exact ⟨i, by omega, b⟩
      · exact ⟨n, by omega, by omega, hx⟩
theorem first_line {hs fs : List Int} (ph : Pos hs) (hn : 1 ≤ hs.length) {x : Int} (h0 : 0 ≤ x) (h1 : x ≤ sm hs) :
    ∃ i, i < hs.length ∧ sm (hs.take i) ≤ x ∧ x ≤ sm (hs.take (i + 1)) ∧ firstL (ptsS hs fs (hs.length + 1)) x = (⟨sm (hs.take i), sm (fs.take i)⟩, ⟨sm (hs.take (i + 1)), sm (fs.take (i + 1))⟩) := by
  have hline : ∀ i, i < hs.length → lineAt (ptsS hs fs (hs.length + 1)) i = (⟨sm (hs.take i), sm (fs.take i)⟩, ⟨sm (hs.take (i + 1)), sm (fs.take (i + 1))⟩) := fun i hi => by
    have e : (i : Int) + 1 = ((i + 1 : Nat) : Int) := by omega
    unfold lineAt
    rw [e, ptsS_get _ _ _ _ (by omega), ptsS_get _ _ _ _ (by omega)]
  obtain ⟨j, j1, j2, j3⟩ := line_found ph h0 hs.length (Nat.le_refl _) hn (by rw [List.take_of_length_le (Nat.le_refl _)]; exact h1)
  have hmem : lineAt (ptsS hs fs (hs.length + 1)) j ∈ upto (lineAt (ptsS hs fs (hs.length + 1))) ((ptsS hs fs (hs.length + 1)).length - 1) := by
    simp only [upto, List.mem_map, List.mem_range, ptsS_length]
    exact ⟨j, by omega, rfl⟩
  have hj : hasB x (lineAt (ptsS hs fs (hs.length + 1)) j) = true := by rw [hline j j1]; simp [hasB, j2, j3]
  unfold firstL
  cases hf : (upto (lineAt (ptsS hs fs (hs.length + 1))) ((ptsS hs fs (hs.length + 1)).length - 1)).find? (hasB x) with
  | none => exact absurd hj (List.find?_eq_none.1 hf _ hmem)
  | some y =>
    have hy := List.find?_some hf
    have hm := List.mem_of_find?_eq_some hf
    simp only [upto, List.mem_map, List.mem_range, ptsS_length] at hm
    obtain ⟨i, hi, rfl⟩ := hm
    have hi' : i < hs.length := by omega
    rw [hline i hi'] at hy
    simp only [hasB, Bool.and_eq_true, decide_eq_true_eq] at hy
    exact ⟨i, hi', hy.1, hy.2, by rw [Option.getD_some]; exact hline i hi'⟩
theorem take_b2 {xs : List Int} (h : Pos xs) (i : Nat) : 0 ≤ sm (xs.take i) ∧ sm (xs.take i) ≤ sm xs := ⟨(h.take i).sum, sm_take_le_all h i⟩
theorem curve_vals {hs fs : List Int} {A B : Int} (hh : GoodR hs A) (hf : GoodR fs B) (hA : sm hs ≤ 16777216) (hB : sm fs ≤ 16777216) (hl : hs.length = fs.length) {x : Int} (h0 : 0 ≤ x) (h1 : x ≤ sm hs) :
    curve_within.f (ptsS hs fs (hs.length + 1)) x = some true ∧
    curve_line_low.f (firstL (ptsS hs fs (hs.length + 1)) x).1.f0 (firstL (ptsS hs fs (hs.length + 1)) x).1.f1 (firstL (ptsS hs fs (hs.length + 1)) x).2.f0 (firstL (ptsS hs fs (hs.length + 1)) x).2.f1 x = some (conv hs fs (x : Rat)).floor ∧
    curve_line_up.f (firstL (ptsS hs fs (hs.length + 1)) x).1.f0 (firstL (ptsS hs fs (hs.length + 1)) x).1.f1 (firstL (ptsS hs fs (hs.length + 1)) x).2.f0 (firstL (ptsS hs fs (hs.length + 1)) x).2.f1 x = some (conv hs fs (x : Rat)).ceil := by
  have ln := hh.ln
  refine ⟨?_, ?_⟩
  · unfold curve_within.f
    rw [ptsS_length]
    have e : wrap64 (((hs.length + 1 : Nat) : Int) - 1) = (hs.length : Int) := by rw [wrp_ (by omega) (by omega)]; omega
    have g0 : rd_T60 (ptsS hs fs (hs.length + 1)) 0 = ⟨sm (hs.take 0), sm (fs.take 0)⟩ := ptsS_get hs fs (hs.length + 1) 0 (by omega)
    have g1 := ptsS_get hs fs (hs.length + 1) hs.length (by omega)
    rw [if_pos (by omega), e, g0, g1, if_pos (by simp [sm]; exact h0), if_pos (by omega), if_pos (by omega), List.take_of_length_le (Nat.le_refl _), decide_eq_true h1]
  · obtain ⟨i, hi, x0, x1, e⟩ := first_line (fs := fs) hh.pos hh.ne h0 h1
    rw [e]
    simp only
    have a1 := hh.gt (r := i) hi
    have a2 := hf.gt (r := i) (by omega)
    have s1 := sm_take_succ hs i hi
    have s2 := sm_take_succ fs i (by omega)
    have t1 := take_b2 hh.pos i
    have t2 := take_b2 hf.pos i
    have t3 := take_b2 hh.pos (i + 1)
    have t4 := take_b2 hf.pos (i + 1)
    have cv := conv_line hi hl hh.pos hf.pos (x := (x : Rat)) (castLe x0) (castLe x1)
    generalize sm (hs.take (i + 1)) = bx at *
    generalize sm (fs.take (i + 1)) = b_y at *
    generalize sm (hs.take i) = ax at *
    generalize sm (fs.take i) = a_y at *
    generalize Vm.gt hs i = h at *
    generalize Vm.gt fs i = f at *
    have w1 : wrap64 (b_y - a_y) = f := by rw [wrp_ (by omega) (by omega)]; omega
    have w2 : wrap64 (bx - ax) = h := by rw [wrp_ (by omega) (by omega)]; omega
    have w3 : wrap64 (x - ax) = x - ax := wrp_ (by omega) (by omega)
    have m0 : 0 ≤ (x - ax) * f := Int.mul_nonneg (by omega) (by omega)
    have m1 : (x - ax) * f ≤ 16777216 * 16777216 := Int.mul_le_mul (by omega) (by omega) (by omega) (by omega)
    have w4 : wrap64 ((x - ax) * f) = (x - ax) * f := wrp_ (by omega) (by omega)
    have hne : ¬ h = 0 := by omega
    have v : conv hs fs (x : Rat) = ((a_y * h + (x - ax) * f : Int) : Rat) / (h : Rat) := by
      have hR := one_le a1.1
      rw [cv, Rat.intCast_add, Rat.intCast_mul, Rat.intCast_mul, Rat.intCast_sub]
      grind
    obtain ⟨o, ho⟩ : ∃ o, (x - ax) * f = o := ⟨_, rfl⟩
    rw [ho] at m0 m1 w4 v
    have q1 := Int.ediv_le_self h m0
    have q2 := Int.ediv_nonneg m0 (show 0 ≤ h by omega)
    have q3 := Int.ediv_le_self h (show 0 ≤ o + h - 1 by omega)
    have q4 := Int.ediv_nonneg (show 0 ≤ o + h - 1 by omega) (show 0 ≤ h by omega)
    have d1 : o.tdiv h = o / h := Int.tdiv_eq_ediv_of_nonneg m0
    have d2 : (o + h - 1).tdiv h = (o + h - 1) / h := Int.tdiv_eq_ediv_of_nonneg (by omega)
    have r1 : (a_y * h + o) / h = a_y + o / h := by rw [Int.add_comm (a_y * h) o, Int.add_mul_ediv_right _ _ hne]; omega
    have r2 : (a_y * h + o + h - 1) / h = a_y + (o + h - 1) / h := by
      have : a_y * h + o + h - 1 = (o + h - 1) + a_y * h := by omega
      rw [this, Int.add_mul_ediv_right _ _ hne]; omega
    refine ⟨?_, ?_⟩
    · unfold curve_line_low.f curve_line_over.f curve_line_high.f curve_line_wide.f
      simp only [Option.bind_some, w1, w2, w3, ho, w4]
      rw [if_neg hne, d1, wrp_ (n := o / h) (by omega) (by omega), wrp_ (by omega) (by omega), v, floor_div _ _ a1.1, r1]
    · unfold curve_line_up.f curve_line_over.f curve_line_high.f curve_line_wide.f
      simp only [Option.bind_some, w1, w2, w3, ho, w4]
      rw [if_neg hne, wrp_ (n := o + h) (by omega) (by omega), wrp_ (n := o + h - 1) (by omega) (by omega), d2, wrp_ (n := (o + h - 1) / h) (by omega) (by omega), wrp_ (by omega) (by omega), v, ceil_div _ _ a1.1, r2]
end Go.Proofs.Ytlhfclpbodfmcaa.Pr
namespace Go.Proofs.Ytlhfclpbodfmcaa.Pr
open Go.RowKit Go.Proofs.YtlhfclpbodfmcaaW.PrintWords Go.Proofs.YtlhfclpbodfmcaaW.PrintLast Go.Proofs.YtlhfclpbodfmcaaW.PrintMore
open Go.Proofs.Ytlhfclpbodfmcaa.Vm
set_option linter.unusedVariables false
set_option linter.unusedSimpArgs false
set_option maxRecDepth 100000 in
set_option maxHeartbeats 1600000 in
theorem curve_Exact.good (k : Nat) (A0 : Option Addr) (c0 : Nat) (l0 : List S60) (x r1 r2 : Int) (w : World) (hr0 : Kd.C k60 w A0 l0.length l0) (hc0 : l0.length ≤ c0) (hk : checkC l0 = 0) (hw : curve_within.f l0 x = some true) (hr : curve_line_exact.f k (firstL l0 x).1.f0 (firstL l0 x).1.f1 (firstL l0 x).2.f0 (firstL l0 x).2.f1 x = some (r1, r2)) :
    Calls Try.prog 41 #[.slice A0 l0.length c0, .int .i64 x] w fun e w' => e = .returned (.tuple #[.agg #[.int .i64 r1, .int .i64 r2], .int .i64 0]) ∧ Below w.heap.size w w' := by
  have hu129 := Try.underlying129
  have hu42 := Try.underlying42
  have HA : Aside0 (∀ W, Below w.heap.size w W → Calls Try.prog 111 #[.slice A0 l0.length c0, .int .i64 x] W fun e w' => e = .returned (.tuple #[.agg (LVc (firstL l0 x)), .int .i64 0]) ∧ Below W.heap.size W w') := ⟨fun W hB => curve_asked.good A0 c0 l0 x W (Kd.C_below hr0 hB) hc0 hk hw⟩
  have HB := Aside0.mk (Below.refl w.heap.size w)
  clear hr0 hc0 hk hw
  generalize firstL l0 x = F at HA hr
  have HR := Aside0.mk hr
  clear hr
  go_enter Try.func41, Try.ntmps41
  go_wp2_with (first | ((with_reducible refine gate_dst (N := 4) rfl ?_); refine bx_ 4 #[.int .i64 0, .int .i64 0] 42 ?_; intro gr hg w1 hbox hb; have GEgr := ge_ hg HB; replace hb := nb_ HB hb; replace HB := bs_ HB hb; have BKgr := Aside0.mk hbox; clear hb hbox hg))
  refine (HA.out _ HB.out).mono ?_
  rintro e w2 ⟨rfl, hb⟩
  unfold LVc
  replace hb := nb_ HB hb
  replace BKgr := kb_ BKgr hb
  replace HB := bs_ HB hb
  clear hb HA
  go_wp2_with fail
  refine (curve_line_exact.calls k _ _ _ _ _ r1 r2 _ HR.out).mono ?_
  rintro e w3 ⟨rfl, hb⟩
  try replace hb := hb.below
  replace hb := nb_ HB hb
  replace BKgr := kb_ BKgr (below_step (by repeat (first | exact Below.refl _ _ | apply below_alloc)) hb)
  replace HB := bs_ HB hb
  clear hb
  have g0 := (blk_cell BKgr.out 0).trans rfl
  have g1 := (blk_cell BKgr.out 1).trans rfl
  have k0 := blk_frozen BKgr.out 0
  have k1 := blk_frozen BKgr.out 1
  go_wp2_with (first | ((with_reducible refine gate_store (t := 42) (p := 4) rfl ?_); have hc_ := cf2_ BKgr; refine st2_ ?_; intro w4 hp_; clear hc_; clear g0 g1; replace BKgr := pp2_ BKgr hp_; replace HB := pb2_ GEgr HB hp_; clear hp_))
  try go_wp2
  refine bodyPost_ret (results_ct rfl _ _ gr 42 #[.int .i64 r1, .int .i64 r2] (0, 0) _ rfl BKgr.out Try.underlying42 rfl (by kernel_rfl)) rfl ?_
  exact ⟨rfl, HB.out⟩
end Go.Proofs.Ytlhfclpbodfmcaa.Pr
namespace Go.Proofs.Ytlhfclpbodfmcaa.Pr
open Go.Proofs.Ytlhfclpbodfmcaa.Vm
set_option linter.unusedVariables false
theorem frac_le {a b c d : Int} (hb : 1 ≤ b) (hd : 1 ≤ d) (h : a * d ≤ c * b) : (a : Rat) / (b : Rat) ≤ (c : Rat) / (d : Rat) := by
  have hbR : (1 : Rat) ≤ (b : Rat) := by have := castLe hb; simpa using this
  have hdR : (1 : Rat) ≤ (d : Rat) := by have := castLe hd; simpa using this
  have hR : (a : Rat) * (d : Rat) ≤ (c : Rat) * (b : Rat) := by have := castLe h; rwa [Rat.intCast_mul, Rat.intCast_mul] at this
  have i1 := inv_nn hbR
  have i2 := inv_nn hdR
  have := Rat.mul_le_mul_of_nonneg_right hR (mul_nn (Rat.le_of_lt i1) (Rat.le_of_lt i2))
  rw [Rat.div_def, Rat.div_def]
  have k1 : (b : Rat) * (b : Rat)⁻¹ = 1 := Rat.mul_inv_cancel _ (by grind)
  have k2 : (d : Rat) * (d : Rat)⁻¹ = 1 := Rat.mul_inv_cancel _ (by grind)
  have e1 : (a : Rat) * (d : Rat) * ((b : Rat)⁻¹ * (d : Rat)⁻¹) = (a : Rat) * (b : Rat)⁻¹ * ((d : Rat) * (d : Rat)⁻¹) := by grind
  have e2 : (c : Rat) * (b : Rat) * ((b : Rat)⁻¹ * (d : Rat)⁻¹) = (c : Rat) * (d : Rat)⁻¹ * ((b : Rat) * (b : Rat)⁻¹) := by grind
  rw [e1, e2, k1, k2, Rat.mul_one, Rat.mul_one] at this
  exact this
section
variable {v w : List S79} {n : Int}
end
end Go.Proofs.Ytlhfclpbodfmcaa.Pr
namespace Go.Proofs.Ytlhfclpbodfmcaa.Pr
open Go.RowKit Go.Proofs.YtlhfclpbodfmcaaW.PrintWords Go.Proofs.YtlhfclpbodfmcaaW.PrintLast Go.Proofs.YtlhfclpbodfmcaaW.PrintMore
open Go.Proofs.Ytlhfclpbodfmcaa.Vm
set_option linter.unusedVariables false
theorem frac_eq2 {a b c d : Int} (hb : 1 ≤ b) (hd : 1 ≤ d) (h : a * d = c * b) : (a : Rat) / (b : Rat) = (c : Rat) / (d : Rat) :=
  Rat.le_antisymm (frac_le hb hd (by omega)) (frac_le hd hb (by omega))
theorem low_loop (x0 x1 : Int) : ∀ (b a k : Nat), b + 1 ≤ k → (a ≠ 0 ∨ b ≠ 0) →
    curve_lowest.l0 k x0 x1 (a : Int) (b : Int) = some (wrap64 (Int.tdiv x0 (Nat.gcd a b : Int)), wrap64 (Int.tdiv x1 (Nat.gcd a b : Int))) := by
  intro b
  induction b using Nat.strongRecOn with
  | _ b ih =>
    intro a k hk hz
    obtain ⟨k, rfl⟩ : ∃ m, k = m + 1 := ⟨k - 1, by omega⟩
    simp only [curve_lowest.l0]
    by_cases hb : b = 0
    · subst hb
      rw [if_pos (by simp), if_neg (by omega), Nat.gcd_zero_right]
    · rw [if_neg (by omega)]
      have e : Int.tmod (a : Int) (b : Int) = ((a % b : Nat) : Int) := (Int.ofNat_tmod a b).symm
      rw [e, ih (a % b) (Nat.mod_lt _ (by omega)) b k (by have := Nat.mod_lt a (show 0 < b by omega); omega) (.inl hb)]
      rw [Nat.gcd_comm b (a % b), ← Nat.gcd_rec, Nat.gcd_comm]
theorem lowest_says {n d : Int} (n0 : 0 ≤ n) (n1 : n ≤ 1000000000000000) (d1 : 1 ≤ d) (d2 : d ≤ 1000) :
    ∃ N D : Int, curve_lowest.f 1100 n d = some (N, D) ∧ 0 ≤ N ∧ N ≤ n ∧ 1 ≤ D ∧ D ≤ d ∧ N * d = n * D := by
  obtain ⟨a, rfl⟩ := Int.eq_ofNat_of_zero_le n0
  obtain ⟨b, rfl⟩ := Int.eq_ofNat_of_zero_le (show 0 ≤ d by omega)
  have hl := low_loop (a : Int) (b : Int) b a 1100 (by omega) (.inr (by omega))
  have hg : 0 < Nat.gcd a b := Nat.gcd_pos_of_pos_right a (by omega)
  obtain ⟨u, hu⟩ := Nat.gcd_dvd_left a b
  obtain ⟨t, ht⟩ := Nat.gcd_dvd_right a b
  generalize Nat.gcd a b = g at *
  have e1 : Int.tdiv (a : Int) (g : Int) = (u : Int) := by
    rw [Int.tdiv_eq_ediv_of_nonneg (by omega), hu, Int.natCast_mul]
    exact Int.mul_ediv_cancel_left _ (by omega)
  have e2 : Int.tdiv (b : Int) (g : Int) = (t : Int) := by
    rw [Int.tdiv_eq_ediv_of_nonneg (by omega), ht, Int.natCast_mul]
    exact Int.mul_ediv_cancel_left _ (by omega)
  have k1 : u ≤ a := by rw [hu]; exact Nat.le_mul_of_pos_left u hg
  have k2 : t ≤ b := by rw [ht]; exact Nat.le_mul_of_pos_left t hg
  have k3 : 1 ≤ t := by
    apply Classical.byContradiction; intro hn
    have : t = 0 := by omega
    rw [this] at ht; simp at ht; omega
  refine ⟨u, t, ?_, by omega, by omega, by omega, by omega, ?_⟩
  · unfold curve_lowest.f
    rw [hl, e1, e2, wrp_ (by omega) (by omega), wrp_ (by omega) (by omega)]
  · rw [hu, ht, Int.natCast_mul, Int.natCast_mul]; grind
theorem curve_exact {hs fs : List Int} {B : Int} (hh : GoodR hs 1000) (hf : GoodR fs B) (hA : sm hs ≤ 16777216) (hB : sm fs ≤ 16777216) (hl : hs.length = fs.length) {x : Int} (h0 : 0 ≤ x) (h1 : x ≤ sm hs) :
    ∃ N D : Int, curve_line_exact.f 1100 (firstL (ptsS hs fs (hs.length + 1)) x).1.f0 (firstL (ptsS hs fs (hs.length + 1)) x).1.f1 (firstL (ptsS hs fs (hs.length + 1)) x).2.f0 (firstL (ptsS hs fs (hs.length + 1)) x).2.f1 x = some (N, D) ∧
      0 ≤ N ∧ N ≤ 33554432000 ∧ 1 ≤ D ∧ D ≤ 1000 ∧ conv hs fs (x : Rat) = (N : Rat) / (D : Rat) := by
  obtain ⟨i, hi, x0, x1, e⟩ := first_line (fs := fs) hh.pos hh.ne h0 h1
  rw [e]
  simp only
  have a1 := hh.gt (r := i) hi
  have a2 := hf.gt (r := i) (by omega)
  have s1 := sm_take_succ hs i hi
  have s2 := sm_take_succ fs i (by omega)
  have t1 := take_b2 hh.pos i
  have t2 := take_b2 hf.pos i
  have t3 := take_b2 hh.pos (i + 1)
  have t4 := take_b2 hf.pos (i + 1)
  have cv := conv_line hi hl hh.pos hf.pos (x := (x : Rat)) (castLe x0) (castLe x1)
  generalize sm (hs.take (i + 1)) = bx at *
  generalize sm (fs.take (i + 1)) = b_y at *
  generalize sm (hs.take i) = ax at *
  generalize sm (fs.take i) = a_y at *
  generalize Vm.gt hs i = h at *
  generalize Vm.gt fs i = f at *
  have w1 : wrap64 (b_y - a_y) = f := by rw [wrp_ (by omega) (by omega)]; omega
  have w2 : wrap64 (bx - ax) = h := by rw [wrp_ (by omega) (by omega)]; omega
  have w3 : wrap64 (x - ax) = x - ax := wrp_ (by omega) (by omega)
  have m0 : 0 ≤ (x - ax) * f := Int.mul_nonneg (by omega) (by omega)
  have m1 : (x - ax) * f ≤ 1000 * 16777216 := Int.mul_le_mul (by omega) (by omega) (by omega) (by omega)
  have m2 : 0 ≤ a_y * h := Int.mul_nonneg (by omega) (by omega)
  have m3 : a_y * h ≤ 16777216 * 1000 := Int.mul_le_mul (by omega) (by omega) (by omega) (by omega)
  have w4 : wrap64 ((x - ax) * f) = (x - ax) * f := wrp_ (by omega) (by omega)
  have w5 : wrap64 (a_y * h) = a_y * h := wrp_ (by omega) (by omega)
  have w6 : wrap64 (a_y * h + (x - ax) * f) = a_y * h + (x - ax) * f := wrp_ (by omega) (by omega)
  have v : conv hs fs (x : Rat) = ((a_y * h + (x - ax) * f : Int) : Rat) / (h : Rat) := by
    have hR := one_le a1.1
    rw [cv, Rat.intCast_add, Rat.intCast_mul, Rat.intCast_mul, Rat.intCast_sub]
    grind
  obtain ⟨N, D, L, n0, n1, d0, d1, E⟩ := lowest_says (n := a_y * h + (x - ax) * f) (d := h) (by omega) (by omega) a1.1 a1.2
  refine ⟨N, D, ?_, n0, by omega, d0, by omega, ?_⟩
  · unfold curve_line_exact.f curve_line_over.f curve_line_high.f curve_line_wide.f
    simp only [Option.bind_some, w1, w2, w3, w4, w5, w6, L]
  · rw [v]
    exact frac_eq2 a1.1 d0 (by omega)
end Go.Proofs.Ytlhfclpbodfmcaa.Pr
namespace Go.Proofs.Ytlhfclpbodfmcaa.Pr
open Go.RowKit Go.Proofs.YtlhfclpbodfmcaaW.PrintWords Go.Proofs.YtlhfclpbodfmcaaW.PrintLast Go.Proofs.YtlhfclpbodfmcaaW.PrintMore
open Go.Proofs.Ytlhfclpbodfmcaa.Vm
set_option linter.unusedVariables false
theorem less_says {a b c d : Int} (a0 : 0 ≤ a) (a1 : a ≤ 33554432000) (b0 : 1 ≤ b) (b1 : b ≤ 1000) (c0 : 0 ≤ c) (c1 : c ≤ 33554432000) (d0 : 1 ≤ d) (d1 : d ≤ 1000) (h : (c : Rat) / (d : Rat) ≤ (a : Rat) / (b : Rat)) :
    waterhourlaw02_less.f a b c d = some (((a : Rat) / (b : Rat) - (c : Rat) / (d : Rat)).floor, ((a : Rat) / (b : Rat) - (c : Rat) / (d : Rat)).ceil, true) := by
  have bR := one_le b0
  have dR := one_le d0
  have m1 : 0 ≤ a * d ∧ a * d ≤ 33554432000 * 1000 := ⟨Int.mul_nonneg a0 (by omega), Int.mul_le_mul a1 d1 (by omega) (by omega)⟩
  have m2 : 0 ≤ c * b ∧ c * b ≤ 33554432000 * 1000 := ⟨Int.mul_nonneg c0 (by omega), Int.mul_le_mul c1 b1 (by omega) (by omega)⟩
  have m3 := mul_b b0 b1 d0 d1
  have m4 : 1 ≤ b * d := by have := Int.mul_le_mul b0 d0 (by omega) (by omega); omega
  have v : (a : Rat) / (b : Rat) - (c : Rat) / (d : Rat) = ((a * d - c * b : Int) : Rat) / ((b * d : Int) : Rat) := by
    rw [Rat.intCast_sub, Rat.intCast_mul, Rat.intCast_mul, Rat.intCast_mul]
    grind
  have hn : 0 ≤ a * d - c * b := by
    have h1 : (0 : Rat) ≤ ((a * d - c * b : Int) : Rat) / ((b * d : Int) : Rat) := by rw [← v]; grind
    have mR := one_le m4
    have h2 := mul_nn h1 (show (0 : Rat) ≤ ((b * d : Int) : Rat) by grind)
    have h3 : ((a * d - c * b : Int) : Rat) / ((b * d : Int) : Rat) * ((b * d : Int) : Rat) = ((a * d - c * b : Int) : Rat) := by
      rw [Rat.div_def, Rat.mul_assoc, Rat.mul_comm (((b * d : Int) : Rat)⁻¹), Rat.mul_inv_cancel _ (by grind), Rat.mul_one]
    rw [h3] at h2
    exact Rat.intCast_le_intCast.1 (by simpa using h2)
  have w1 : wrap64 (a * d) = a * d := wrp_ (by omega) (by omega)
  have w2 : wrap64 (c * b) = c * b := wrp_ (by omega) (by omega)
  have w3 : wrap64 (b * d) = b * d := wrp_ (by omega) (by omega)
  rw [v, floor_div _ _ m4, ceil_div _ _ m4]
  unfold waterhourlaw02_less.f
  rw [if_neg (by omega), if_neg (by omega), if_neg (by omega), if_neg (by omega), if_neg (by omega), if_neg (by omega), if_neg (by omega), if_neg (by omega), w1, w2, w3]
  have hb2 : a * d - c * b ≤ 33554432000 * 1000 := by omega
  generalize a * d - c * b = n at *
  have he : b * d ≤ 1000 * 1000 := m3.2
  generalize b * d = e at *
  have q1 := Int.ediv_le_self e hn
  have q2 := Int.ediv_nonneg hn (show 0 ≤ e by omega)
  have q3 := Int.ediv_le_self e (show 0 ≤ n + e - 1 by omega)
  have q4 := Int.ediv_nonneg (show 0 ≤ n + e - 1 by omega) (show 0 ≤ e by omega)
  rw [if_neg (by omega), wrp_ (n := n) (by omega) (by omega), Int.tdiv_eq_ediv_of_nonneg hn, wrp_ (n := n + e) (by omega) (by omega), wrp_ (n := n + e - 1) (by omega) (by omega), Int.tdiv_eq_ediv_of_nonneg (show 0 ≤ n + e - 1 by omega), wrp_ (n := n / e) (by omega) (by omega), wrp_ (n := (n + e - 1) / e) (by omega) (by omega), decide_eq_true hn]
  rfl
end Go.Proofs.Ytlhfclpbodfmcaa.Pr
namespace Go.Proofs.Ytlhfclpbodfmcaa.Pr
open Go.Proofs.Ytlhfclpbodfmcaa.Vm
set_option linter.unusedVariables false
theorem run_vT {l : List S79} {a m : Int} (h : VL l a) (m0 : 0 ≤ m) : runX l a m = vT l (a : Rat) - vT l (afterX l a m) := by
  have b := after_bd h m0
  have e := uT_mT h b.1 b.2
  rw [mT_after h m0] at e
  unfold runX
  rw [e]
end Go.Proofs.Ytlhfclpbodfmcaa.Pr
namespace Go.Proofs.Ytlhfclpbodfmcaa.Pr
open Go.RowKit Go.Proofs.YtlhfclpbodfmcaaW.PrintWords Go.Proofs.YtlhfclpbodfmcaaW.PrintLast Go.Proofs.YtlhfclpbodfmcaaW.PrintMore
open Go.Proofs.Ytlhfclpbodfmcaa.Vm
set_option linter.unusedVariables false
set_option linter.unusedSimpArgs false
attribute [local go_sem] fld60_0 fld60_1
def swapS (p : S60) : S60 := ⟨p.f1, p.f0⟩
set_option maxRecDepth 100000 in
set_option maxHeartbeats 1600000 in
theorem turned_1.calls (x y : Int) (w : World) : Calls Try.prog 114 #[.agg #[.int .i64 x, .int .i64 y]] w fun e w' => e = .returned (.agg #[.int .i64 y, .int .i64 x]) ∧ Below w.heap.size w w' := by
  have hu60 := Try.underlying60
  have HB := Aside0.mk (Below.refl w.heap.size w)
  go_enter Try.func114, Try.ntmps114
  go_wp2_with (first | ((with_reducible refine gate_dst (N := 1) rfl ?_); refine bx_ 1 #[.int .i64 x, .int .i64 y] 60 ?_; intro gx hg w1 hbox hb; replace hb := nb_ HB hb; replace HB := bs_ HB hb; have BKgx := Aside0.mk hbox; obtain ⟨Ogx_0, Ogx_1⟩ := c2_ BKgx; clear hb hbox hg) | ((with_reducible refine gate_dst (N := 2) rfl ?_); refine bx_ 2 #[.int .i64 0, .int .i64 0] 60 ?_; intro gr hg w2 hbox hb; have GEgr := ge_ hg HB; replace hb := nb_ HB hb; replace BKgx := kb_ BKgx hb; replace HB := bs_ HB hb; have BKgr := Aside0.mk hbox; clear Ogx_0 Ogx_1; obtain ⟨Ogx_0, Ogx_1⟩ := c2_ BKgx; clear hb hbox hg) | ((with_reducible refine gate_store (t := 60) (p := 2) rfl ?_); have hc_ := cf2_ BKgr; refine st2_ ?_; intro w3 hp_; clear hc_ Ogx_0 Ogx_1; replace BKgr := pp2_ BKgr hp_; replace HB := pb2_ GEgr HB hp_; clear hp_))
  try go_wp2
  refine bodyPost_ret (results_cell_row rfl _ _ gr 60 #[.int .i64 y, .int .i64 x] (0, 0) _ rfl BKgr.out Try.underlying60 rfl (by kernel_rfl)) rfl ?_
  exact ⟨rfl, HB.out⟩
set_option maxRecDepth 100000 in
set_option maxHeartbeats 1600000 in
theorem changed_swap (A0 : Option Addr) (c0 : Nat) (l0 : List S60) (w : World) (hr0 : Kd.C k60 w A0 l0.length l0) (hn : l0.length ≤ 64) :
    Calls Try.prog 113 #[.slice A0 l0.length c0, .func (.func 114) #[] #[]] w fun e w' => ∃ v, e = .returned v ∧ Kd.R k60 60 w' w.heap.size (fun _ => True) v (l0.map swapS) ∧ Below w.heap.size w w' := by
  have hu60 := Try.underlying60
  have HR0 := Aside0.mk hr0
  have HLN := Aside0.mk hn
  clear hr0 hn
  have HB := Aside0.mk (Below.refl w.heap.size w)
  have RO : Aside0 (Kd.R k60 60 w w.heap.size (fun _ => True) (.slice none 0 0) ([] : List S60)) := ⟨Kd.R_nil _ _ _ _ _⟩
  go_enter Try.func113, Try.ntmps113
  go_wp2
  go_loopg [5, 10] l0.length (fun kq v5 v10 w' => ∃ (n : Nat) (done : List S60), v10 = .int .i64 (n : Int) ∧ Aside0 (n + kq = l0.length ∧ done = (l0.take n).map swapS) ∧ Aside0 (Kd.R k60 60 w' w.heap.size (fun _ => True) v5 done) ∧ Aside0 (Below w.heap.size w w'))
  case atStart => exact ⟨0, [], rfl, ⟨by omega, by simp⟩, RO, HB⟩
  case round =>
    clear RO HB
    obtain ⟨n, done, rfl, HI, RO, HB⟩ := hrel
    by_cases hij : n < l0.length
    · have hd : decide ((n : Int) < (l0.length : Int)) = true := decide_eq_true (by omega)
      have hd2 : decide (n < l0.length) = true := decide_eq_true hij
      have p1 : (0 : Int) ≤ (n : Int) := by omega
      have q1 : (n : Int) < (l0.length : Int) := by omega
      obtain ⟨ad, e9, x0, x1⟩ := at_T60 HR0.out (n : Int) p1 q1
      cases e9
      simp only [Int.toNat_natCast] at x0 x1
      replace x0 := pw_cell_below HB.out x0
      replace x1 := pw_cell_below HB.out x1
      have HDL : Aside0 (done.length ≤ 1000) := ⟨by rw [HI.out.2]; have := HLN.out; simp; omega⟩
      have HDN : Aside0 (done ++ [swapS (rd_T60 l0 (n : Int))] = (l0.take (n + 1)).map swapS) := ⟨by rw [HI.out.2, List.take_add_one, List.map_append]; simp [List.getElem?_eq_getElem hij, rd_T60, List.getD_eq_getElem?_getD]⟩
      have HIJ := Aside0.mk hij
      have hn64 : n ≤ 64 := by have := HLN.out; omega
      clear hij
      generalize rd_T60 l0 (n : Int) = rr at *
      obtain ⟨ra, rb⟩ := rr
      simp only at x0 x1
      go_wp2_with (first | ((with_reducible refine gate_dst (N := 7) rfl ?_); refine bx_ 7 #[.int .i64 0, .int .i64 0] 60 ?_; intro gr hg w5 hbox hb; have NOgr := Aside0.mk (show ∀ k, (u5 : Value).ownBlock = some k → k ≠ gr from fun k hk => by rw [hg]; exact Nat.ne_of_lt (Kd.R_lt RO.out k hk)); have GEgr := ge_ hg HB; replace hb := nb_ HB hb; replace RO := Aside0.mk (Kd.R_below RO.out hb); replace HB := bs_ HB hb; have BKgr := Aside0.mk hbox; obtain ⟨Ogr_0, Ogr_1⟩ := c2_ BKgr; replace x0 := pw_cell_below hb x0; replace x1 := pw_cell_below hb x1; clear hb hbox hg) | ((with_reducible refine gate_store (t := 60) (p := 7) rfl ?_); have hc_ := cf2_ BKgr; refine st2_ ?_; intro w6 hp_; clear hc_ x0 x1 Ogr_0 Ogr_1; replace RO : Aside0 (Kd.R k60 60 w6 w.heap.size (fun _ => True) u5 done) := ⟨by rw [← hp_.e]; exact Kd.R_mono (Kd.R_far (p := ⟨gr, 1, none⟩) (Kd.R_far (p := ⟨gr, 0, none⟩) (Kd.R_tight (d := k60) rfl RO.out) (fun k hk => NOgr.out k hk.symm) _) (fun k hk => NOgr.out k hk.symm) _) (fun _ _ => trivial)⟩; replace BKgr := pp2_ BKgr hp_; replace HB := pb2_ GEgr HB hp_; clear hp_; obtain ⟨Ogr_0, Ogr_1⟩ := c2_ BKgr))
      refine (turned_1.calls ra rb _).mono ?_
      rintro e w7 ⟨rfl, hb⟩
      replace hb := nb_ HB hb
      replace RO := Aside0.mk (Kd.R_below RO.out hb)
      replace HB := bs_ HB hb
      clear hb Ogr_0 Ogr_1 BKgr
      go_wp2_with (first | ((with_reducible refine gate_dst (N := 18) rfl ?_); refine litv_list ?hg (N := 18) ?hd (cs := #[.int .i64 rb, .int .i64 ra]) (E := 60) ?hr ?_; (case hd => rfl); (case hg => rfl); (case hr => first | (go_simp; done) | (go_simp; rfl)); intro ga hg wl hbox hb; replace hb := nb_ HB hb; replace RO := Aside0.mk (Kd.R_below RO.out hb); replace HB := bs_ HB hb; have BKga := Aside0.mk hbox; clear hb hbox hg) | ((with_reducible refine gate_dst (N := 19) rfl ?_); refine app60_list (w := w) ?hg (.tmp 14) (.tmp 18) 37 60 ?ho Try.underlying37 info60 u5 done ⟨rb, ra⟩ ga ?hs ?hx RO.out BKga.out HB.out HDL.out ?_; (case hg => rfl); (case ho => rfl); (case hs => rfl); (case hx => rfl); intro u9_ wa ho hb hg hat; have n1_ := Aside0.mk hb; have n2_ := Aside0.mk ho; clear HB RO BKga; have HB := n1_; have RO := n2_; clear n1_ n2_ ho hb hg hat))
      go_roundg (gk - 1)
      case measure => have := HI.out.1; have := HIJ.out; omega
      case rel => exact ⟨n + 1, done ++ [⟨rb, ra⟩], by go_num, ⟨by have := HI.out.1; have := HIJ.out; omega, HDN.out⟩, RO, HB⟩
    · have hd : decide ((n : Int) < (l0.length : Int)) = false := decide_eq_false (by omega)
      have hd2 : decide (n < l0.length) = false := decide_eq_false hij
      have HE : Aside0 (done = l0.map swapS) := ⟨by have h := HI.out; have e : n = l0.length := (by omega); rw [h.2, e, List.take_of_length_le (Nat.le_refl _)]⟩
      clear hij
      go_wp2
      go_ret
      exact ⟨_, rfl, by rw [← HE.out]; exact RO.out, HB.out⟩
set_option maxRecDepth 100000 in
set_option maxHeartbeats 1600000 in
theorem curve_Turned.good (A0 : Option Addr) (c0 : Nat) (l0 : List S60) (w : World) (hr0 : Kd.C k60 w A0 l0.length l0) (hc0 : l0.length ≤ c0) (hk : checkC l0 = 0) :
    Calls Try.prog 43 #[.slice A0 l0.length c0] w fun e w' => ∃ v, e = .returned (.tuple #[v, .int .i64 0]) ∧ Kd.R k60 60 w' w.heap.size (fun _ => True) v (l0.map swapS) ∧ Below w.heap.size w w' := by
  have HR0 := Aside0.mk hr0
  have HC0 := Aside0.mk hc0
  have HK : Aside0 (curve_Check.f l0 = some 0) := ⟨congrArg some hk⟩
  have HLN := Aside0.mk (check_len hk)
  have HB := Aside0.mk (Below.refl w.heap.size w)
  clear hr0 hc0 hk
  go_enter Try.func43, Try.ntmps43
  go_wp2_with fail
  refine (curve_Check.calls A0 c0 l0 0 _ (kc_ HR0 HB) HC0.out HK.out).mono ?_
  rintro e w2 ⟨rfl, hb⟩
  replace hb := nb_ HB hb
  replace HB := bs_ HB hb
  clear hb
  go_wp2_with fail
  refine (changed_swap A0 c0 l0 _ (kc_ HR0 HB) HLN.out.2).mono ?_
  rintro e w3 ⟨v3_, rfl, hr, hb⟩
  replace hb := nb_ HB hb
  have RO : Aside0 (Kd.R k60 60 w3 w.heap.size (fun _ => True) v3_ (l0.map swapS)) := ⟨Kd.R_lower hr (below_size HB.out)⟩
  replace HB := bs_ HB hb
  clear hb hr
  go_wp2
  go_ret2
  exact ⟨_, rfl, RO.out, HB.out⟩
end Go.Proofs.Ytlhfclpbodfmcaa.Pr
namespace Go.Proofs.Ytlhfclpbodfmcaa.Pr
open Go.Proofs.Ytlhfclpbodfmcaa.Vm
set_option linter.unusedVariables false
theorem swap_pts (hs fs : List Int) (n : Nat) : (ptsS hs fs n).map swapS = ptsS fs hs n := by simp [ptsS, swapS]
/-- What a curve is exactly, its points drawn. -/
def cvE (c : List S60) (x : Int) : Option (Int × Int) := curve_line_exact.f 1100 (firstL c x).1.f0 (firstL c x).1.f1 (firstL c x).2.f0 (firstL c x).2.f1 x
def cvL (c : List S60) (x : Int) : Option Int := curve_line_low.f (firstL c x).1.f0 (firstL c x).1.f1 (firstL c x).2.f0 (firstL c x).2.f1 x
def cvU (c : List S60) (x : Int) : Option Int := curve_line_up.f (firstL c x).1.f0 (firstL c x).1.f1 (firstL c x).2.f0 (firstL c x).2.f1 x
def CurvesS (l : List S79) (a b m : Int) (cd ch ct : List S60) : Prop :=
  ∃ s1 s2 f1 f2 r1 r2 N1 D1 N2 D2 : Int, SinkingF l a b = (s1, s2, 0) ∧ AfterF l a m = (f1, f2, 0) ∧ RunF l a m = (r1, r2, 0) ∧
    cvE cd a = some (N1, D1) ∧ cvE cd b = some (N2, D2) ∧ waterhourlaw02_less.f N1 D1 N2 D2 = some (s1, s2, true) ∧ 0 ≤ N1 ∧ N1 ≤ 33554432000 ∧
    (¬ D1 = 1 ∨ D1 = 1 ∧ (¬ m ≤ N1 ∨ m ≤ N1 ∧ curve_within.f ct (N1 - m) = some true ∧ cvL ct (N1 - m) = some f1 ∧ cvU ct (N1 - m) = some f2)) ∧
    (¬ f1 = f2 ∨ f1 = f2 ∧ 0 ≤ f1 ∧ f1 ≤ sm (hsO l) ∧ ∃ N3 D3 N4 D4 : Int, cvE ch a = some (N3, D3) ∧ cvE ch f1 = some (N4, D4) ∧ waterhourlaw02_less.f N3 D3 N4 D4 = some (r1, r2, true))
theorem curves_says {l : List S79} {a b m : Int} (hR : rightB l [m] [a, b] = true) (hba : b ≤ a) : CurvesS l a b m (ptsS (hsO l) (dsO l) ((hsO l).length + 1)) (ptsS (hsO l) (vsO l) ((hsO l).length + 1)) (ptsS (dsO l) (hsO l) ((dsO l).length + 1)) := by
  obtain ⟨hv, hl, hn, _⟩ := rightP hR
  have va : VL l a := ⟨hv, (hl a (by simp)).1, (hl a (by simp)).2⟩
  have vb : VL l b := ⟨hv, (hl b (by simp)).1, (hl b (by simp)).2⟩
  obtain ⟨m0, m1⟩ := hn m (by simp)
  have g := va.gv
  have S := g.sums
  obtain ⟨N1, D1, x1, n1, n1', d1, d1', v1⟩ := curve_exact g.h g.d (by omega) (by omega) g.hd va.h0 va.h1
  obtain ⟨N2, D2, x2, n2, n2', d2, d2', v2⟩ := curve_exact g.h g.d (by omega) (by omega) g.hd vb.h0 vb.h1
  have e1 : mT l (a : Rat) = (N1 : Rat) / (D1 : Rat) := v1
  have e2 : mT l (b : Rat) = (N2 : Rat) / (D2 : Rat) := v2
  have mono := (mT_le va vb.c0 vb.c1 va.c0 va.c1).2 (castLe hba)
  have ls := less_says n1 n1' d1 d1' n2 n2' d2 d2' (by rw [← e1, ← e2]; exact mono)
  rw [← e1, ← e2] at ls
  have hx := after_bd va m0
  refine ⟨_, _, _, _, _, _, N1, D1, N2, D2, sink_val va vb hba, after_val va m0 (by omega), run_val' va m0 (by omega), x1, x2, ls, n1, n1', ?_, ?_⟩
  · by_cases hD : D1 = 1
    · refine .inr ⟨hD, ?_⟩
      by_cases hm : m ≤ N1
      · refine .inr ⟨hm, ?_⟩
        have eN : mT l (a : Rat) = (N1 : Rat) := by rw [e1, hD]; have : ((1 : Int) : Rat) = 1 := rfl; rw [this]; grind
        have mb := mT_bd va va.c0 va.c1
        rw [eN] at mb
        have hN : N1 ≤ sm (dsO l) := Rat.intCast_le_intCast.1 mb.2
        have cv := curve_vals g.d g.h (by omega) (by omega) g.hd.symm (x := N1 - m) (by omega) (by omega)
        have el : leftM l a m = ((N1 - m : Int) : Rat) := by
          unfold leftM
          rw [eN, Rat.intCast_sub]
          split
          · rename_i h
            have : N1 = m := by have := Rat.intCast_le_intCast.1 h; omega
            rw [this]; grind
          · rfl
        have ea : afterX l a m = conv (dsO l) (hsO l) ((N1 - m : Int) : Rat) := by unfold afterX; rw [el]; rfl
        rw [ea]
        exact cv
      · exact .inl hm
    · exact .inl hD
  · by_cases hf : (afterX l a m).floor = (afterX l a m).ceil
    · refine .inr ⟨hf, ?_⟩
      have vf := va.fl hx.1 hx.2
      have ex : afterX l a m = ((afterX l a m).floor : Rat) := Rat.le_antisymm (by have := Rat.le_ceil (x := afterX l a m); rw [← hf] at this; exact this) (Rat.floor_le _)
      obtain ⟨N3, D3, x3, n3, n3', d3, d3', v3⟩ := curve_exact g.h g.v (by omega) (by omega) g.hv va.h0 va.h1
      obtain ⟨N4, D4, x4, n4, n4', d4, d4', v4⟩ := curve_exact g.h g.v (by omega) (by omega) g.hv vf.h0 vf.h1
      have e3 : vT l (a : Rat) = (N3 : Rat) / (D3 : Rat) := v3
      have e4 : vT l ((afterX l a m).floor : Rat) = (N4 : Rat) / (D4 : Rat) := v4
      have rb := run_bd va m0
      have rv := run_vT va m0
      rw [ex] at rv
      have l2 := less_says n3 n3' d3 d3' n4 n4' d4 d4' (by rw [← e3, ← e4]; grind)
      rw [← e3, ← e4, ← rv] at l2
      exact ⟨vf.h0, vf.h1, N3, D3, N4, D4, x3, x4, l2⟩
    · exact .inl hf
end Go.Proofs.Ytlhfclpbodfmcaa.Pr
namespace Go.Proofs.Ytlhfclpbodfmcaa.Pr
open Go.Proofs.Ytlhfclpbodfmcaa.Vm
set_option linter.unusedVariables false
theorem curves_all {l : List S79} {a b m : Int} (hR : rightB l [m] [a, b] = true) (hba : b ≤ a) : ∃ cd ch ct : List S60, cd.map swapS = ct ∧
    vessel_Emptying.f l = some (cd, 0) ∧ vessel_Holding.f l = some (ch, 0) ∧ checkC cd = 0 ∧ checkC ch = 0 ∧ checkC ct = 0 ∧
    curve_within.f cd a = some true ∧ curve_within.f cd b = some true ∧ curve_within.f ch a = some true ∧ (∀ x, 0 ≤ x → x ≤ sm (hsO l) → curve_within.f ch x = some true) ∧
    ∃ s1 s2 f1 f2 r1 r2 N1 D1 N2 D2 : Int, SinkingF l a b = (s1, s2, 0) ∧ AfterF l a m = (f1, f2, 0) ∧ RunF l a m = (r1, r2, 0) ∧
    cvE cd a = some (N1, D1) ∧ cvE cd b = some (N2, D2) ∧ waterhourlaw02_less.f N1 D1 N2 D2 = some (s1, s2, true) ∧ 0 ≤ N1 ∧ N1 ≤ 33554432000 ∧ 0 ≤ m ∧ m ≤ 8388608 ∧
    (¬ D1 = 1 ∨ D1 = 1 ∧ (¬ m ≤ N1 ∨ m ≤ N1 ∧ curve_within.f ct (N1 - m) = some true ∧ cvL ct (N1 - m) = some f1 ∧ cvU ct (N1 - m) = some f2)) ∧
    (¬ f1 = f2 ∨ f1 = f2 ∧ 0 ≤ f1 ∧ f1 ≤ sm (hsO l) ∧ ∃ N3 D3 N4 D4 : Int, cvE ch a = some (N3, D3) ∧ cvE ch f1 = some (N4, D4) ∧ waterhourlaw02_less.f N3 D3 N4 D4 = some (r1, r2, true)) := by
  obtain ⟨s1, s2, f1, f2, r1, r2, N1, D1, N2, D2, h1, h2, h3, x1, x2, l1, n0, n1, hq, hf⟩ := curves_says hR hba
  obtain ⟨hv, hl, hn, _⟩ := rightP hR
  have va : VL l a := ⟨hv, (hl a (by simp)).1, (hl a (by simp)).2⟩
  have vb : VL l b := ⟨hv, (hl b (by simp)).1, (hl b (by simp)).2⟩
  obtain ⟨m0, m1⟩ := hn m (by simp)
  have g := va.gv
  have S := g.sums
  have L1 : (hsO l).length = l.length := by simp [hsO]
  have L2 : (dsO l).length = (hsO l).length := g.hd.symm
  refine ⟨_, _, _, ?_, ?_, ?_, ?_, ?_, ?_, ?_, ?_, ?_, ?_, s1, s2, f1, f2, r1, r2, N1, D1, N2, D2, h1, h2, h3, x1, x2, l1, n0, n1, m0, m1, hq, hf⟩
  · rw [swap_pts, L2]
  · rw [L1]; exact congrArg some (draw_d hv)
  · rw [L1]; exact congrArg some (draw_v hv)
  · exact checkC_S g.h g.d (by omega) (by omega) g.hd
  · exact checkC_S g.h g.v (by omega) (by omega) g.hv
  · exact checkC_S g.d g.h (by omega) (by omega) g.hd.symm
  · exact (curve_vals g.h g.d (by omega) (by omega) g.hd va.h0 va.h1).1
  · exact (curve_vals g.h g.d (by omega) (by omega) g.hd vb.h0 vb.h1).1
  · exact (curve_vals g.h g.v (by omega) (by omega) g.hv va.h0 va.h1).1
  · exact fun x x0 x1 => (curve_vals g.h g.v (by omega) (by omega) g.hv x0 x1).1
end Go.Proofs.Ytlhfclpbodfmcaa.Pr
