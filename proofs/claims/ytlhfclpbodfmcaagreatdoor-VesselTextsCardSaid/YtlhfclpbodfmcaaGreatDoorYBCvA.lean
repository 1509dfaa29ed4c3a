/- A part of the proof: CvA. -/
import Derived.Test.YtlhfclpbodfmcaaGreatDoorYBTp
import Derived.Outline
namespace Go.Proofs.YtlhfclpbodfmcaaGreatDoor.Pr
open Go.RowKit Go.Proofs.YtlhfclpbodfmcaaGreatDoorW.PrintWords Go.Proofs.YtlhfclpbodfmcaaGreatDoorW.PrintLast Go.Proofs.YtlhfclpbodfmcaaGreatDoorW.PrintMore
open Go.Proofs.YtlhfclpbodfmcaaGreatDoor.Vm
set_option linter.unusedVariables false
set_option linter.unusedSimpArgs false
theorem all_first {α : Type} (p : α → Bool) (z : α) (l : List α) : ∃ r : Nat, r ≤ l.length ∧ (∀ i : Nat, i < r → p (l.getD (i : Int).toNat z) = true) ∧ (r < l.length → p (l.getD (r : Int).toNat z) = false) ∧ l.all p = decide (¬ r < l.length) := by
  induction l with
  | nil => exact ⟨0, by simp, by simp, by simp, by simp⟩
  | cons a t ih =>
    cases ha : p a with
    | false => exact ⟨0, by simp, by simp, by simp [ha], by simp [ha]⟩
    | true =>
      obtain ⟨r, h1, h2, h3, h4⟩ := ih
      refine ⟨r + 1, by simp; omega, ?_, ?_, by simp [ha, h4]⟩
      · intro i hi
        cases i with
        | zero => simpa using ha
        | succ i => have := h2 i (by omega); simpa using this
      · intro hr; have := h3 (by simp at hr; omega); simpa using this
def coordB (x : Int) : Bool := decide (0 ≤ x) && decide (x ≤ 16777216)
def ptB (p : S60) : Bool := coordB p.f0 && coordB p.f1
set_option maxHeartbeats 1600000 in
set_option maxRecDepth 100000 in
theorem curve_coord.calls (x : Int) (w : World) :
    Calls Tryz.prog 113 #[.int .i64 x] w fun e w' => e = .returned (.bool (coordB x)) ∧ Below w.heap.size w w' := by
  have HB := Aside0.mk (Below.refl w.heap.size w)
  unfold coordB
  cases hd : decide (0 ≤ x) with
  | true =>
    go_enter Tryz.func113, Tryz.ntmps113
    go_wp2
    go_ret
    exact ⟨by simp, HB.out⟩
  | false =>
    go_enter Tryz.func113, Tryz.ntmps113
    go_wp2
    go_ret
    exact ⟨by simp, HB.out⟩
set_option maxHeartbeats 1600000 in
set_option maxRecDepth 100000 in
theorem curve_right_1.calls (x y : Int) (w : World) :
    Calls Tryz.prog 112 #[.agg #[.int .i64 x, .int .i64 y]] w fun e w' => e = .returned (.bool (!(coordB x && coordB y))) ∧ Below w.heap.size w w' := by
  have hu60 := Tryz.underlying53
  have HB := Aside0.mk (Below.refl w.heap.size w)
  cases hx : coordB x with
  | true =>
    have C1 : ∀ W, Calls Tryz.prog 113 #[.int .i64 x] W fun e w' => e = .returned (.bool true) ∧ Below W.heap.size W w' := fun W => by have := curve_coord.calls x W; rwa [hx] at this
    have C2 : ∀ W, Calls Tryz.prog 113 #[.int .i64 y] W fun e w' => e = .returned (.bool (coordB y)) ∧ Below W.heap.size W w' := curve_coord.calls y
    generalize coordB y = b at C2
    clear hx
    go_enter Tryz.func112, Tryz.ntmps112
    go_wp2_with (first | ((with_reducible refine gate_dst (N := 1) rfl ?_); refine box_event ?hg (N := 1) ?hd (cs := #[.int .i64 x, .int .i64 y]) (t := 53) ?hr ?_; (case hd => rfl); (case hg => rfl); (case hr => first | (go_simp; done) | (go_simp; rfl)); intro gx hg w1 hbox hb; have GEgx : Aside0 (w.heap.size ≤ gx) := Aside0.mk (by rw [hg]; exact (below_size (by repeat (first | (with_reducible first | exact HB.out | apply below_alloc | apply pw_below_drewN | apply below_drew1) | exact HB.out)))); have n0_ := Aside0.mk (below_step (by repeat (first | (with_reducible first | exact HB.out | apply below_alloc | apply pw_below_drewN | apply below_drew1) | exact HB.out)) hb); clear HB; have HB := n0_; clear n0_; have BKgx := Aside0.mk hbox; have Ogx_0 := (blk_cell BKgx.out 0).trans rfl; have Ogx_1 := (blk_cell BKgx.out 1).trans rfl; clear hb hbox hg))
    go_wp2_with fail
    refine (C1 _).mono ?_
    rintro e w3 ⟨rfl, hb⟩
    clear Ogx_0 Ogx_1
    have n0_ := Aside0.mk (blk_below (g := gx) (o := .cells #[.int .i64 x, .int .i64 y] 53 (0, 0)) (by (with_reducible repeat (first | refine blk_drewN ?_ _ | refine blk_drew ?_ | refine blk_alloc ?_ _)); exact BKgx.out) hb)
    have n1_ := Aside0.mk (below_step (by repeat (first | (with_reducible first | exact HB.out | apply below_alloc | apply pw_below_drewN | apply below_drew1 | refine below_set ?_ GEgx.out) | exact HB.out)) hb)
    clear BKgx HB
    have BKgx := n0_
    have HB := n1_
    clear n0_ n1_
    clear hb
    have Ogx_0 := (blk_cell BKgx.out 0).trans rfl
    have Ogx_1 := (blk_cell BKgx.out 1).trans rfl
    go_wp2_with fail
    refine (C2 _).mono ?_
    rintro e w4 ⟨rfl, hb⟩
    clear Ogx_0 Ogx_1
    have n0_ := Aside0.mk (blk_below (g := gx) (o := .cells #[.int .i64 x, .int .i64 y] 53 (0, 0)) (by (with_reducible repeat (first | refine blk_drewN ?_ _ | refine blk_drew ?_ | refine blk_alloc ?_ _)); exact BKgx.out) hb)
    have n1_ := Aside0.mk (below_step (by repeat (first | (with_reducible first | exact HB.out | apply below_alloc | apply pw_below_drewN | apply below_drew1 | refine below_set ?_ GEgx.out) | exact HB.out)) hb)
    clear BKgx HB
    have BKgx := n0_
    have HB := n1_
    clear n0_ n1_
    clear hb
    have Ogx_0 := (blk_cell BKgx.out 0).trans rfl
    have Ogx_1 := (blk_cell BKgx.out 1).trans rfl
    go_wp2
    go_ret
    exact ⟨by cases b <;> rfl, HB.out⟩
  | false =>
    have C1 : ∀ W, Calls Tryz.prog 113 #[.int .i64 x] W fun e w' => e = .returned (.bool false) ∧ Below W.heap.size W w' := fun W => by have := curve_coord.calls x W; rwa [hx] at this
    clear hx
    go_enter Tryz.func112, Tryz.ntmps112
    go_wp2_with (first | ((with_reducible refine gate_dst (N := 1) rfl ?_); refine box_event ?hg (N := 1) ?hd (cs := #[.int .i64 x, .int .i64 y]) (t := 53) ?hr ?_; (case hd => rfl); (case hg => rfl); (case hr => first | (go_simp; done) | (go_simp; rfl)); intro gx hg w1 hbox hb; have GEgx : Aside0 (w.heap.size ≤ gx) := Aside0.mk (by rw [hg]; exact (below_size (by repeat (first | (with_reducible first | exact HB.out | apply below_alloc | apply pw_below_drewN | apply below_drew1) | exact HB.out)))); have n0_ := Aside0.mk (below_step (by repeat (first | (with_reducible first | exact HB.out | apply below_alloc | apply pw_below_drewN | apply below_drew1) | exact HB.out)) hb); clear HB; have HB := n0_; clear n0_; have BKgx := Aside0.mk hbox; have Ogx_0 := (blk_cell BKgx.out 0).trans rfl; have Ogx_1 := (blk_cell BKgx.out 1).trans rfl; clear hb hbox hg))
    go_wp2_with fail
    refine (C1 _).mono ?_
    rintro e w3 ⟨rfl, hb⟩
    clear Ogx_0 Ogx_1
    have n0_ := Aside0.mk (blk_below (g := gx) (o := .cells #[.int .i64 x, .int .i64 y] 53 (0, 0)) (by (with_reducible repeat (first | refine blk_drewN ?_ _ | refine blk_drew ?_ | refine blk_alloc ?_ _)); exact BKgx.out) hb)
    have n1_ := Aside0.mk (below_step (by repeat (first | (with_reducible first | exact HB.out | apply below_alloc | apply pw_below_drewN | apply below_drew1 | refine below_set ?_ GEgx.out) | exact HB.out)) hb)
    clear BKgx HB
    have BKgx := n0_
    have HB := n1_
    clear n0_ n1_
    clear hb
    have Ogx_0 := (blk_cell BKgx.out 0).trans rfl
    have Ogx_1 := (blk_cell BKgx.out 1).trans rfl
    go_wp2
    go_ret
    exact ⟨by simp, HB.out⟩
set_option maxHeartbeats 1600000 in
set_option maxRecDepth 100000 in
theorem curve_index.calls (A0 : Option Addr) (c0 : Nat) (l0 : List S60) (r : Nat) (w : World) (hr0 : Kd.C k60 w A0 l0.length l0) (hn : l0.length ≤ 1000) (hr : r ≤ l0.length) (hlt : ∀ i : Nat, i < r → ptB (rd_T60 l0 (i : Int)) = true) (hge : r < l0.length → ptB (rd_T60 l0 (r : Int)) = false) :
    Calls Tryz.prog 127 #[.slice A0 l0.length c0, .func (.func 112) #[] #[]] w fun e w' => e = .returned (.int .i64 (if r < l0.length then (r : Int) else -1)) ∧ Below w.heap.size w w' := by
  have hu60 := Tryz.underlying53
  have HB := Aside0.mk (Below.refl w.heap.size w)
  have HR0 := Aside0.mk hr0
  have HLT := Aside0.mk hlt
  have HGE := Aside0.mk hge
  have hmx := Kd.C_max hr0
  clear hr0 hlt hge
  go_enter Tryz.func127, Tryz.ntmps127
  go_wp2
  go_loopg [8] l0.length (fun kq v8 w' => ∃ i : Nat, v8 = .int .i64 (i : Int) ∧ Aside0 (i ≤ r ∧ i + kq = l0.length) ∧ Aside0 (Below w.heap.size w w'))
  case atStart => exact ⟨0, rfl, ⟨by omega, by omega⟩, HB⟩
  case round =>
    clear HB
    obtain ⟨i, rfl, HI, HB⟩ := hrel
    obtain ⟨h1, h2⟩ := HI.out
    by_cases hij : i < l0.length
    · have hd : decide ((i : Int) < (l0.length : Int)) = true := decide_eq_true (by omega)
      have hd2 : decide (i < l0.length) = true := decide_eq_true hij
      obtain ⟨ad, q1, x0, x1⟩ := at_T60 HR0.out (i : Int) (by omega) (by omega)
      subst q1
      replace x0 := pw_cell_below HB.out x0
      replace x1 := pw_cell_below HB.out x1
      simp only [Int.toNat_natCast] at x0 x1
      have C1 : ∀ W, Calls Tryz.prog 112 #[.agg #[.int .i64 (rd_T60 l0 (i : Int)).f0, .int .i64 (rd_T60 l0 (i : Int)).f1]] W fun e w' => e = .returned (.bool (!(ptB (rd_T60 l0 (i : Int))))) ∧ Below W.heap.size W w' := fun W => curve_right_1.calls _ _ W
      have p1 : (0 : Int) ≤ (i : Int) := by omega
      have q1 : (i : Int) < (l0.length : Int) := by omega
      by_cases hir : i < r
      · rw [HLT.out _ hir] at C1
        go_wp2_with fail
        refine (C1 _).mono ?_
        rintro e w3 ⟨rfl, hb⟩
        have n0_ := Aside0.mk (below_step (by repeat (first | (with_reducible first | exact HB.out | apply below_alloc | apply pw_below_drewN | apply below_drew1) | exact HB.out)) hb)
        clear HB
        have HB := n0_
        clear n0_
        clear hb
        clear x0 x1
        go_wp2
        go_roundg (gk - 1)
        case measure => omega
        case rel => exact ⟨i + 1, by go_num, ⟨by omega, by omega⟩, HB⟩
      · obtain rfl : i = r := by omega
        rw [HGE.out hij] at C1
        go_wp2_with fail
        refine (C1 _).mono ?_
        rintro e w3 ⟨rfl, hb⟩
        have n0_ := Aside0.mk (below_step (by repeat (first | (with_reducible first | exact HB.out | apply below_alloc | apply pw_below_drewN | apply below_drew1) | exact HB.out)) hb)
        clear HB
        have HB := n0_
        clear n0_
        clear hb
        clear x0 x1
        go_wp2
        go_ret
        exact ⟨by first | rfl | (simp [hij]), HB.out⟩
    · have hd : decide ((i : Int) < (l0.length : Int)) = false := decide_eq_false (by omega)
      have hd2 : decide (i < l0.length) = false := decide_eq_false hij
      go_wp2
      go_ret
      exact ⟨by first | rfl | (rw [if_neg (by omega)]) | (simp; omega), HB.out⟩
set_option maxHeartbeats 1600000 in
set_option maxRecDepth 100000 in
theorem curve_contains.calls (A0 : Option Addr) (c0 : Nat) (l0 : List S60) (w : World) (hr0 : Kd.C k60 w A0 l0.length l0) (hn : l0.length ≤ 1000) :
    Calls Tryz.prog 111 #[.slice A0 l0.length c0, .func (.func 112) #[] #[]] w fun e w' => e = .returned (.bool (!(l0.all ptB))) ∧ Below w.heap.size w w' := by
  have HB := Aside0.mk (Below.refl w.heap.size w)
  obtain ⟨r, h1, h2, h3, h4⟩ := all_first ptB z60 l0
  have C1 := fun W h => curve_index.calls A0 c0 l0 r W h hn h1 h2 h3
  have HR0 := Aside0.mk hr0
  rw [h4]
  clear hr0 h2 h3 h4
  by_cases hr : r < l0.length
  · rw [if_pos hr] at C1
    have hd : decide ((0 : Int) ≤ (r : Int)) = true := decide_eq_true (by omega)
    go_enter Tryz.func111, Tryz.ntmps111
    go_wp2_with fail
    refine (C1 _ (Kd.C_below HR0.out HB.out)).mono ?_
    rintro e w3 ⟨rfl, hb⟩
    have n0_ := Aside0.mk (below_step (by repeat (first | (with_reducible first | exact HB.out | apply below_alloc | apply pw_below_drewN | apply below_drew1) | exact HB.out)) hb)
    clear HB
    have HB := n0_
    clear n0_
    clear hb
    go_wp2
    go_ret
    exact ⟨by simp [hr], HB.out⟩
  · rw [if_neg hr] at C1
    go_enter Tryz.func111, Tryz.ntmps111
    go_wp2_with fail
    refine (C1 _ (Kd.C_below HR0.out HB.out)).mono ?_
    rintro e w3 ⟨rfl, hb⟩
    have n0_ := Aside0.mk (below_step (by repeat (first | (with_reducible first | exact HB.out | apply below_alloc | apply pw_below_drewN | apply below_drew1) | exact HB.out)) hb)
    clear HB
    have HB := n0_
    clear n0_
    clear hb
    go_wp2
    go_ret
    exact ⟨by simp [hr], HB.out⟩
set_option maxHeartbeats 1600000 in
set_option maxRecDepth 100000 in
theorem curve_right.calls (A0 : Option Addr) (c0 : Nat) (l0 : List S60) (w : World) (hr0 : Kd.C k60 w A0 l0.length l0) (hn : l0.length ≤ 1000) :
    Calls Tryz.prog 96 #[.slice A0 l0.length c0] w fun e w' => e = .returned (.bool (l0.all ptB)) ∧ Below w.heap.size w w' := by
  have HB := Aside0.mk (Below.refl w.heap.size w)
  have C1 := fun W h => curve_contains.calls A0 c0 l0 W h hn
  have HR0 := Aside0.mk hr0
  clear hr0
  go_enter Tryz.func96, Tryz.ntmps96
  go_wp2_with fail
  refine (C1 _ (Kd.C_below HR0.out HB.out)).mono ?_
  rintro e w3 ⟨rfl, hb⟩
  have n0_ := Aside0.mk (below_step (by repeat (first | (with_reducible first | exact HB.out | apply below_alloc | apply pw_below_drewN | apply below_drew1) | exact HB.out)) hb)
  clear HB
  have HB := n0_
  clear n0_
  clear hb
  go_wp2
  go_ret
  exact ⟨by simp, HB.out⟩
end Go.Proofs.YtlhfclpbodfmcaaGreatDoor.Pr
