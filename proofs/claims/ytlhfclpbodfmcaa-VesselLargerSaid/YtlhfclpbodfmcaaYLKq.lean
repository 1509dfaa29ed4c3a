/- A part of the proof: Kq, Lb, Lc, Le, Kl, Ld, Pl, Lf. -/
import Derived.Test.YtlhfclpbodfmcaaZLb
import Derived.Test.YtlhfclpbodfmcaaYLWWords
import Derived.Test.YtlhfclpbodfmcaaYLVm
import Derived.Test.YtlhfclpbodfmcaaZRt
namespace Go.Proofs.Ytlhfclpbodfmcaa.Pr
open Go.RowKit Go.Proofs.YtlhfclpbodfmcaaW.PrintWords Go.Proofs.YtlhfclpbodfmcaaW.PrintLast Go.Proofs.YtlhfclpbodfmcaaW.PrintMore
set_option linter.unusedVariables false
section
variable {P : Program} {ops : Array Oper} {Q : Exit → Act → World → Prop} {md : Region.Mode} {S : World → Prop} {ds : List Nat}
end
theorem fb_ {n : Nat} {w W X : World} (HB : Aside0 (Below n w W)) (h : Below W.heap.size W X := by repeat (first | exact Below.refl _ _ | apply below_alloc | apply pw_below_drewN | apply below_drew1)) (hn : n ≤ W.heap.size := by first | exact HB.out.size | exact Nat.le_refl _) : Below n w X := HB.out.trans (h.mono hn)
section
variable {P : Program} {ops : Array Oper} {Q : Exit → Act → World → Prop}
end
end Go.Proofs.Ytlhfclpbodfmcaa.Pr
namespace Go.Proofs.Ytlhfclpbodfmcaa.Pr
open Go.Proofs.Ytlhfclpbodfmcaa.Vm
set_option linter.unusedVariables false
def vT (l : List S79) (x : Rat) : Rat := conv (hsO l) (vsO l) x
def uT (l : List S79) (x : Rat) : Rat := conv (dsO l) (vsO l) x
theorem run_val {l : List S79} {lv m : Int} (h : VL l lv) (m0 : 0 ≤ m) (m1 : m ≤ 16777216) : RunF l lv m = rnd (vT l (lv : Rat) - uT l (leftM l lv m)) := by
  obtain ⟨r1, r2, _⟩ := runF_spec h.gv h.h0 h.h1 m0
  unfold RunF asks
  rw [if_pos h.v, h.lv, manyB_iff.2 ⟨m0, m1⟩]
  simp only [Bool.and_self, if_true]
  rw [okS_span r2, r1]
  rfl
section
variable {l : List S79}
end
end Go.Proofs.Ytlhfclpbodfmcaa.Pr
namespace Go.Proofs.Ytlhfclpbodfmcaa.Pr
open Go.Proofs.Ytlhfclpbodfmcaa.Vm
set_option linter.unusedVariables false
def runX (l : List S79) (lv m : Int) : Rat := vT l (lv : Rat) - uT l (leftM l lv m)
theorem run_val' {l : List S79} {lv m : Int} (h : VL l lv) (m0 : 0 ≤ m) (m1 : m ≤ 16777216) : RunF l lv m = rnd (runX l lv m) := run_val h m0 m1
theorem fl_mul {k : Int} (hk : 0 ≤ k) (x : Rat) : k * x.floor ≤ (x * (k : Rat)).floor := Rat.le_floor_iff.2 (by
  have h1 := Rat.floor_le x
  have h2 := Rat.mul_le_mul_of_nonneg_right h1 (c := (k : Rat)) (by have := castLe hk; simpa using this)
  rw [Rat.intCast_mul]; grind)
theorem ce_mul {k : Int} (hk : 0 ≤ k) (x : Rat) : (x * (k : Rat)).ceil ≤ k * x.ceil := Rat.ceil_le_iff.2 (by
  have h1 := Rat.le_ceil (x := x)
  have h2 := Rat.mul_le_mul_of_nonneg_right h1 (c := (k : Rat)) (by have := castLe hk; simpa using this)
  rw [Rat.intCast_mul]; grind)
theorem fl_nn {x : Rat} (h : 0 ≤ x) : 0 ≤ x.floor := Rat.le_floor_iff.2 (by simpa using h)
theorem ce_le {x : Rat} {n : Int} (h : x ≤ (n : Rat)) : x.ceil ≤ n := Rat.ceil_le_iff.2 h
section
variable {l : List S79}
theorem uT_le {lv : Int} (h : VL l lv) {x y : Rat} (x0 : 0 ≤ x) (x1 : x ≤ (sm (dsO l) : Rat)) (y0 : 0 ≤ y) (y1 : y ≤ (sm (dsO l) : Rat)) : uT l x ≤ uT l y ↔ x ≤ y := conv_le_iff (h.gv.hd.symm.trans h.gv.hv) h.gv.d.pos h.gv.v.pos x0 x1 y0 y1
theorem uT_mT {lv : Int} (h : VL l lv) {x : Rat} (h0 : 0 ≤ x) (h1 : x ≤ (sm (hsO l) : Rat)) : uT l (mT l x) = vT l x := conv_conv h.gv.hd (h.gv.hd.symm.trans h.gv.hv) h.gv.h.pos h.gv.d.pos h.gv.v.pos h0 h1
theorem uT_zero {lv : Int} (h : VL l lv) : uT l 0 = 0 := conv_zero h.gv.d.pos
theorem vT_bd {lv : Int} (h : VL l lv) {x : Rat} (h0 : 0 ≤ x) (h1 : x ≤ (sm (hsO l) : Rat)) : 0 ≤ vT l x ∧ vT l x ≤ (sm (vsO l) : Rat) := conv_bounds h.gv.hv h.gv.h.pos h.gv.v.pos h0 h1
theorem run_bd {a m : Int} (h : VL l a) (m0 : 0 ≤ m) : 0 ≤ runX l a m ∧ runX l a m ≤ vT l (a : Rat) ∧ runX l a m ≤ (sm (vsO l) : Rat) := by
  have p := left_bd h m0
  have h1 := mT_bd h h.c0 h.c1
  have k := (uT_le h p.1 p.2.2 h1.1 h1.2).2 p.2.1
  have z := (uT_le h (Rat.le_refl) (by grind) p.1 p.2.2).2 p.1
  rw [uT_zero h] at z
  rw [uT_mT h h.c0 h.c1] at k
  have v := vT_bd h h.c0 h.c1
  unfold runX
  exact ⟨by grind, by grind, by grind⟩
end
end Go.Proofs.Ytlhfclpbodfmcaa.Pr
namespace Go.Proofs.Ytlhfclpbodfmcaa.Pr
open Go.Proofs.Ytlhfclpbodfmcaa.Vm
set_option linter.unusedVariables false
theorem rightP {l0 : List S79} {l1 l2 : List Int} (h : rightB l0 l1 l2 = true) : validB l0 = true ∧ (∀ n ∈ l2, 0 ≤ n ∧ n ≤ sm (hsO l0)) ∧ (∀ n ∈ l1, 0 ≤ n ∧ n ≤ 8388608) ∧ l0.length ≤ 40 := by
  unfold rightB fewB lvlB at h
  simp only [Bool.and_eq_true, decide_eq_true_eq, List.all_eq_true] at h
  exact ⟨h.2.1, h.2.2.1, h.2.2.2, h.1⟩
theorem sink_bd {l : List S79} {a b : Int} (ha : VL l a) (hb : VL l b) (h : b ≤ a) : 0 ≤ (mT l (a : Rat) - mT l (b : Rat)).floor ∧ (mT l (a : Rat) - mT l (b : Rat)).ceil ≤ 480000 := by
  have h1 := ha.gv.sums.2.2
  have h2 := mT_bd ha ha.c0 ha.c1
  have h3 := mT_bd ha hb.c0 hb.c1
  have h5 := (mT_le ha hb.c0 hb.c1 ha.c0 ha.c1).2 (castLe h)
  have h6 := castLe h1
  exact ⟨fl_nn (by grind), ce_le (by grind)⟩
theorem fl_ce (x : Rat) : x.floor ≤ x.ceil := (rnd_bd x).1
end Go.Proofs.Ytlhfclpbodfmcaa.Pr
namespace Go.Proofs.Ytlhfclpbodfmcaa.Pr
open Go.RowKit Go.Proofs.YtlhfclpbodfmcaaW.PrintWords Go.Proofs.YtlhfclpbodfmcaaW.PrintLast Go.Proofs.YtlhfclpbodfmcaaW.PrintMore
set_option linter.unusedVariables false
/-- A literal row of numbers. -/
theorem litJ (W : World) (xs : List Int) (hm : xs.length ≤ 1000) : Kd.C (Kd.int .i64) (W.alloc (.cells (xs.map (.int .i64)).toArray 3 (0, 0))) (some ⟨W.heap.size, 0, none⟩) xs.length xs := by
  refine ⟨rfl, by omega, fun _ => ⟨⟨W.heap.size, 0, none⟩, rfl, fun j p hj => ⟨[.int .i64 p], rfl, rfl, fun i u hu => ?_⟩⟩⟩
  rcases i with _ | i
  · simp at hu
    subst hu
    obtain ⟨hl, hp⟩ := List.getElem?_eq_some_iff.1 hj
    have h2 := blk_cell (blk_new W (.cells (xs.map (.int .i64)).toArray 3 (0, 0))) j
    simp [add_plain, show (Kd.int IntKind.i64).sz = 1 from rfl, hj]
  · simp at hu
theorem nw_ (W : World) (C : Obj) : Aside0 ((W.alloc C).heap[W.heap.size]? = some C) := ⟨blk_new W C⟩
theorem ba_ (W : World) (C : Obj) : Below W.heap.size W (W.alloc C) := below_alloc (Below.refl _ _) _
/-- A row of the caller's, later. -/
theorem kc_ {α : Type} {d : Kd α} {w W : World} {A : Option Addr} {l : List α} (h : Aside0 (Kd.C d w A l.length l)) (hb : Aside0 (Below w.heap.size w W)) : Kd.C d W A l.length l := Kd.C_below h.out hb.out
end Go.Proofs.Ytlhfclpbodfmcaa.Pr
namespace Go.Proofs.Ytlhfclpbodfmcaa.Pr
open Go.Proofs.Ytlhfclpbodfmcaa.Vm
set_option linter.unusedVariables false
def bigF (kh kv kd : Int) (l : List S79) : List S79 := l.map fun r => ⟨r.f0 * kh, r.f1 * kv, r.f2 * kd⟩
theorem hsO_big (kh kv kd : Int) (l : List S79) : hsO (bigF kh kv kd l) = (hsO l).map (· * kh) := by simp [hsO, bigF]
theorem vsO_big (kh kv kd : Int) (l : List S79) : vsO (bigF kh kv kd l) = (vsO l).map (· * kv) := by simp [vsO, bigF]
theorem dsO_big (kh kv kd : Int) (l : List S79) : dsO (bigF kh kv kd l) = (dsO l).map (· * kd) := by simp [dsO, bigF]
theorem map_one (l : List Int) : l.map (· * 1) = l := by simp
section
variable {l : List S79} {a b m k : Int}
theorem big_d (h : VL l a) (hk : 1 ≤ k) (hw : validB (bigF 1 1 k l) = true) : VL (bigF 1 1 k l) a := ⟨hw, h.h0, by rw [hsO_big, map_one]; exact h.h1⟩
theorem mT_d (x : Rat) : mT (bigF 1 1 k l) x = mT l x * (k : Rat) := by unfold mT; rw [hsO_big, dsO_big, map_one, conv_scale_right]
theorem hT_d (hk : 1 ≤ k) (h : VL l a) (x : Rat) : hT (bigF 1 1 k l) (x * (k : Rat)) = hT l x := by unfold hT; rw [hsO_big, dsO_big, map_one, conv_scale_left k hk h.gv.d.pos]
theorem mul_le_iff {x y c : Rat} (hc : 1 ≤ c) : x * c ≤ y * c ↔ x ≤ y := ⟨fun h => Rat.le_of_mul_le_mul_right h (by grind), fun h => Rat.mul_le_mul_of_nonneg_right h (by grind)⟩
theorem left_d (hk : 1 ≤ k) : leftM (bigF 1 1 k l) a (k * m) = leftM l a m * (k : Rat) := by
  have pk := one_le hk
  unfold leftM
  rw [mT_d, Rat.intCast_mul]
  have e : (k : Rat) * (m : Rat) = (m : Rat) * (k : Rat) := by grind
  rw [e]
  by_cases h : mT l (a : Rat) ≤ (m : Rat)
  · rw [if_pos h, if_pos ((mul_le_iff pk).2 h)]; grind
  · rw [if_neg h, if_neg (fun h2 => h ((mul_le_iff pk).1 h2))]; grind
theorem after_d (h : VL l a) (hk : 1 ≤ k) : afterX (bigF 1 1 k l) a (k * m) = afterX l a m := by unfold afterX; rw [left_d hk, hT_d hk h]
theorem big_v (h : VL l a) (hw : validB (bigF 1 k 1 l) = true) : VL (bigF 1 k 1 l) a := ⟨hw, h.h0, by rw [hsO_big, map_one]; exact h.h1⟩
theorem vT_v (x : Rat) : vT (bigF 1 k 1 l) x = vT l x * (k : Rat) := by unfold vT; rw [hsO_big, vsO_big, map_one, conv_scale_right]
theorem uT_v (x : Rat) : uT (bigF 1 k 1 l) x = uT l x * (k : Rat) := by unfold uT; rw [dsO_big, vsO_big, map_one, conv_scale_right]
theorem mT_v (x : Rat) : mT (bigF 1 k 1 l) x = mT l x := by unfold mT; rw [hsO_big, dsO_big, map_one, map_one]
theorem hT_v (x : Rat) : hT (bigF 1 k 1 l) x = hT l x := by unfold hT; rw [hsO_big, dsO_big, map_one, map_one]
theorem left_v : leftM (bigF 1 k 1 l) a m = leftM l a m := by unfold leftM; rw [mT_v]
theorem after_v : afterX (bigF 1 k 1 l) a m = afterX l a m := by unfold afterX; rw [left_v, hT_v]
theorem run_v : runX (bigF 1 k 1 l) a m = runX l a m * (k : Rat) := by unfold runX; rw [left_v, vT_v, uT_v]; grind
theorem big_h (h : VL l a) (hk : 1 ≤ k) (hw : validB (bigF k 1 1 l) = true) : VL (bigF k 1 1 l) (k * a) := ⟨hw, Int.mul_nonneg (by omega) h.h0, by rw [hsO_big, sm_map, Int.mul_comm]; exact Int.mul_le_mul_of_nonneg_right h.h1 (by omega)⟩
theorem mT_h (h : VL l a) (hk : 1 ≤ k) (x : Rat) : mT (bigF k 1 1 l) (x * (k : Rat)) = mT l x := by unfold mT; rw [hsO_big, dsO_big, map_one, conv_scale_left k hk h.gv.h.pos]
theorem hT_h (x : Rat) : hT (bigF k 1 1 l) x = hT l x * (k : Rat) := by unfold hT; rw [hsO_big, dsO_big, map_one, conv_scale_right]
theorem cast_h : ((k * a : Int) : Rat) = (a : Rat) * (k : Rat) := by rw [Rat.intCast_mul]; grind
theorem left_h (h : VL l a) (hk : 1 ≤ k) : leftM (bigF k 1 1 l) (k * a) m = leftM l a m := by unfold leftM; rw [cast_h, mT_h h hk]
theorem after_h (h : VL l a) (hk : 1 ≤ k) : afterX (bigF k 1 1 l) (k * a) m = afterX l a m * (k : Rat) := by unfold afterX; rw [left_h h hk, hT_h]
theorem sink_h (h : VL l a) (hk : 1 ≤ k) : mT (bigF k 1 1 l) ((k * a : Int) : Rat) - mT (bigF k 1 1 l) ((k * b : Int) : Rat) = mT l (a : Rat) - mT l (b : Rat) := by rw [cast_h, cast_h, mT_h h hk, mT_h h hk]
theorem sink_d : mT (bigF 1 1 k l) (a : Rat) - mT (bigF 1 1 k l) (b : Rat) = (mT l (a : Rat) - mT l (b : Rat)) * (k : Rat) := by rw [mT_d, mT_d]; grind
end
end Go.Proofs.Ytlhfclpbodfmcaa.Pr
namespace Go.Proofs.Ytlhfclpbodfmcaa.Pr
open Go.RowKit Go.Proofs.YtlhfclpbodfmcaaW.PrintWords Go.Proofs.YtlhfclpbodfmcaaW.PrintLast Go.Proofs.YtlhfclpbodfmcaaW.PrintMore
attribute [local go_sem] fld79_0 fld79_1 fld79_2 fld27_0 fld27_1 fld90_0 fld90_1 fld90_2 fld105_0 fld105_1 fld105_2 fld96_0 fld96_1 fld96_2 fld60_0 fld60_1 fld42_0 fld42_1 max2_int min2_int max_two min_two max_three min_three max_four min_four   -- for this text's walks alone
set_option linter.unusedVariables false
set_option linter.unusedSimpArgs false
def waterhourlaw02_larger.l0 : Nat → Int → Int → Int → List (S79) → List (S79) → Int → Int → Option ((List (S79)))
  | 0, _, _, _, _, _, _, _ => none
  | k + 1, x1, x2, x3, x9, x12, x13, x14 => if x14 < x13 then (if 0 ≤ x14 then (if x14 < (x12.length : Int) then (if x9.length < 5864062014805 then (waterhourlaw02_larger.l0 k x1 x2 x3 (x9 ++ [(⟨wrap64 (((rd_T79 x12 x14).f0) * x1), wrap64 (((rd_T79 x12 x14).f1) * x2), wrap64 (((rd_T79 x12 x14).f2) * x3)⟩ : S79)]) x12 x13 (wrap64 (x14 + 1))) else (none)) else (none)) else (none)) else (some x9)
def waterhourlaw02_larger.f (k : Nat) (l0 : List (S79)) (a1 : Int) (a2 : Int) (a3 : Int) : Option ((List (S79))) := waterhourlaw02_larger.l0 k a1 a2 a3 ([] : List (S79)) l0 (l0.length : Int) 0
set_option maxHeartbeats 8000000 in
set_option maxRecDepth 100000 in
theorem waterhourlaw02_larger.calls (k : Nat) (A0 : Option Addr) (c0 : Nat) (l0 : List (S79)) (a1 : Int) (a2 : Int) (a3 : Int) (r : List (S79)) (w : World) (hr0 : Kd.C k79 w A0 l0.length l0) (hc0 : l0.length ≤ c0) (h : waterhourlaw02_larger.f k l0 a1 a2 a3 = some r) :
    Calls Try.prog 47 #[.slice A0 l0.length c0, .int .i64 a1, .int .i64 a2, .int .i64 a3] w fun e w' => ∃ v0_ : Value, e = .returned (v0_) ∧ Kd.R k79 79 w' w.heap.size (fun _ => True) v0_ r ∧ Below w.heap.size w w' := by
  have hu79 := Try.underlying79
  have HR0 := Aside0.mk hr0
  have HC0 := Aside0.mk hc0
  clear hr0 hc0
  have HB := Aside0.mk (Below.refl w.heap.size w)
  have H : (waterhourlaw02_larger.l0 k a1 a2 a3 ([] : List (S79)) l0 (l0.length : Int) 0) = some r := h
  clear h
  have H' := Aside0.mk H
  clear H
  go_enter Try.func47, Try.ntmps47
  go_wp2
  go_loopg [9, 14] k (fun kq v9 v14 w' => ∃ (x9_1 : List (S79)) (x14_1 : Int), v14 = .int .i64 x14_1 ∧ Aside0 (waterhourlaw02_larger.l0 kq a1 a2 a3 x9_1 l0 (l0.length : Int) x14_1 = some r) ∧ Aside0 (kq ≤ k) ∧ Aside0 (Kd.R k79 79 w' w.heap.size (fun _ => True) v9 x9_1) ∧ Aside0 (Below w.heap.size w w'))
  case atStart => exact ⟨(([] : List (S79))), (0), (by first | rfl | (simp; done) | (simp [*]; done)), H', ⟨Nat.le_refl _⟩, ⟨by first | exact Kd.R_nil _ _ _ _ _ | exact Kd.N_nil _ _ _ _ _ | exact Kd.V_nil _ _ _ _ _ | exact Kd.Q_nil _ _ _ _ _ | exact Kd.S_nil _ _ _ _ _⟩, ⟨by repeat (first | (with_reducible first | exact HB.out | apply below_alloc | apply pw_below_drewN | apply below_drew1) | exact HB.out)⟩⟩
  case round =>
    clear H'
    try clear p2
    try clear c4
    obtain ⟨x9_1, x14_1, rfl, HA, HK1, HO_9, HB⟩ := hrel
    cases gk with
    | zero => exact absurd HA.out (by simp [waterhourlaw02_larger.l0])
    | succ k1 =>
      have H := HA.out
      clear HA
      simp only [waterhourlaw02_larger.l0] at H
      by_cases c5 : x14_1 < (l0.length : Int)
      · rw [if_pos c5] at H
        have c5b0 : decide (x14_1 < (l0.length : Int)) = true := decide_eq_true c5
        clear c5
        by_cases c6 : 0 ≤ x14_1
        · rw [if_pos c6] at H
          have c6b0 : decide (0 ≤ x14_1) = true := decide_eq_true c6
          clear c6
          by_cases c7 : x14_1 < (l0.length : Int)
          · rw [if_pos c7] at H
            have c7b0 : decide (x14_1 < (l0.length : Int)) = true := decide_eq_true c7
            clear c7
            by_cases c8 : x9_1.length < 5864062014805
            · rw [if_pos c8] at H
              have LMc8 := Aside0.mk c8
              clear c8
              obtain ⟨y464, hy464⟩ : ∃ y_ : List (S79), y_ = (x9_1 ++ [(⟨wrap64 (((rd_T79 l0 x14_1).f0) * a1), wrap64 (((rd_T79 l0 x14_1).f1) * a2), wrap64 (((rd_T79 l0 x14_1).f2) * a3)⟩ : S79)]) := ⟨_, rfl⟩
              replace H : (waterhourlaw02_larger.l0 k1 a1 a2 a3 y464 l0 (l0.length : Int) (wrap64 (x14_1 + 1))) = some r := by first | (rw [hy464]; with_reducible exact H) | (have H2_ := (Option.bind_some _ _).symm.trans H; rw [hy464]; with_reducible exact H2_) | (have H2_ := (Option.bind_some _ _).symm.trans H; with_reducible exact H2_) | with_reducible exact H | (rw [hy464]; exact H) | exact H
              have Ny464 := Aside0.mk hy464
              clear hy464
              have H' := Aside0.mk H
              clear H
              have p462 : 0 ≤ (x14_1 : Int) := of_decide_eq_true (by first | (with_reducible assumption) | assumption)
              have q462 : x14_1 < (l0.length : Int) := of_decide_eq_true (by first | (with_reducible assumption) | assumption)
              obtain ⟨ad462, e462, hx462_0, hx462_1, hx462_2⟩ := at_T79 HR0.out x14_1 p462 q462
              cases e462
              replace hx462_0 := (HB.out.cell (World.block_lt_of_cell? w _ hx462_0)).trans hx462_0
              replace hx462_1 := (HB.out.cell (World.block_lt_of_cell? w _ hx462_1)).trans hx462_1
              replace hx462_2 := (HB.out.cell (World.block_lt_of_cell? w _ hx462_2)).trans hx462_2
              replace p462 := eq_true p462
              replace q462 := eq_true q462
              go_wp2_with (first | ((with_reducible refine gate_dst (N := 11) rfl ?_); refine box_event ?hg (N := 11) ?hd (cs := #[.int .i64 0, .int .i64 0, .int .i64 0]) (t := 79) ?hr ?_; (case hd => rfl); (case hg => rfl); (case hr => first | (go_simp; done) | (go_simp; rfl)); intro gb463 hg w9 hbox hb; have n0_ := Aside0.mk (Kd.R_below (Kd.R_elderB (by (with_reducible repeat (first | apply Kd.R_alloc | apply Kd.R_drewN | apply Kd.R_drew)); exact HO_9.out) gb463 (Nat.le_of_eq hg.symm)) hb); have n1_ := Aside0.mk (below_step (by repeat (first | (with_reducible first | exact HB.out | apply below_alloc | apply pw_below_drewN | apply below_drew1) | exact HB.out)) hb); have n2_ := Aside0.mk (hbox); have n3_ := Aside0.mk ((by rw [hg]; exact (below_size (by repeat (first | (with_reducible first | exact HB.out | apply below_alloc | apply pw_below_drewN | apply below_drew1) | exact HB.out))) : w.heap.size ≤ gb463)); have n4_ := Aside0.mk ((by rw [hg]; exact (below_size (by repeat (first | (with_reducible first | exact HB.out | apply below_alloc | apply pw_below_drewN | apply below_drew1) | exact HB.out))) : w.heap.size ≤ gb463)); clear HO_9; clear HB; have HO_9 := n0_; have HB := n1_; have BK463 := n2_; have GW463 := n3_; have GE463 := n4_; clear n0_ n1_ n2_ n3_ n4_; clear hb hbox hg; have hcz10_0 : w9.cell? ⟨gb463, 0, none⟩ = some (.int .i64 0) := (blk_cell BK463.out 0).trans rfl; have hcz10_1 : w9.cell? ⟨gb463, 1, none⟩ = some (.int .i64 0) := (blk_cell BK463.out 1).trans rfl; have hcz10_2 : w9.cell? ⟨gb463, 2, none⟩ = some (.int .i64 0) := (blk_cell BK463.out 2).trans rfl; have hfz10_0 := blk_frozen BK463.out 0; have hfz10_1 := blk_frozen BK463.out 1; have hfz10_2 := blk_frozen BK463.out 2) | ((with_reducible refine gate_builtin (b := .append) (xs := #[.tmp 18, .tmp 32]) rfl ?_); at_builtin; refine Kd.R_append k79 (w0 := w) w.heap.size rfl (.tmp 18) (.tmp 32) 23 79 (.agg #[(.int .i64 0), (.int .i64 0), (.int .i64 0)]) 24 rfl Try.underlying23 info79 rfl (by decide) (by omega) u9 x9_1 (⟨wrap64 (((rd_T79 l0 x14_1).f0) * a1), wrap64 (((rd_T79 l0 x14_1).f1) * a2), wrap64 (((rd_T79 l0 x14_1).f2) * a3)⟩ : S79) [.int .i64 (wrap64 (((rd_T79 l0 x14_1).f0) * a1)), .int .i64 (wrap64 (((rd_T79 l0 x14_1).f1) * a2)), .int .i64 (wrap64 (((rd_T79 l0 x14_1).f2) * a3))] (fun k_ => k_ ≠ gb463) (fun _ => False) rfl (by first | (go_simp; done) | (go_simp; rfl)) ?aP (fun _ hk => hk.elim) ?aF ?aO ?aB ?aS ?aL ?_; (case aP => exact k79_mkM _ _ _ (⟨wrap64 (((rd_T79 l0 x14_1).f0) * a1), wrap64 (((rd_T79 l0 x14_1).f1) * a2), wrap64 (((rd_T79 l0 x14_1).f2) * a3)⟩ : S79)); (case aB => exact (by repeat (first | (with_reducible first | exact HB.out | apply below_alloc | apply pw_below_drewN | apply below_drew1 | refine below_set ?_ GE463.out) | exact HB.out))); (case aF => exact (fun k_ hk => Kd.freshB (g := gb463) (o := .cells #[.int .i64 ((rd_T79 l0 x14_1).f0), .int .i64 ((rd_T79 l0 x14_1).f1), .int .i64 ((rd_T79 l0 x14_1).f2)] 79 (0, 0)) (by (with_reducible repeat (first | refine blk_drewN ?_ _ | refine blk_drew ?_ | refine blk_alloc ?_ _)); refine blk_put (cs := #[.int .i64 ((rd_T79 l0 x14_1).f0), .int .i64 ((rd_T79 l0 x14_1).f1), .int .i64 0]) ?_ 2 _ rfl; (with_reducible repeat (first | refine blk_drewN ?_ _ | refine blk_drew ?_ | refine blk_alloc ?_ _)); refine blk_put (cs := #[.int .i64 ((rd_T79 l0 x14_1).f0), .int .i64 0, .int .i64 0]) ?_ 1 _ rfl; (with_reducible repeat (first | refine blk_drewN ?_ _ | refine blk_drew ?_ | refine blk_alloc ?_ _)); refine blk_put (cs := #[.int .i64 0, .int .i64 0, .int .i64 0]) ?_ 0 _ rfl; (with_reducible repeat (first | refine blk_drewN ?_ _ | refine blk_drew ?_ | refine blk_alloc ?_ _)); exact BK463.out) k_ hk)); (case aO => exact (by (with_reducible repeat (first | apply Kd.R_alloc | apply Kd.R_drewN | apply Kd.R_drew)); exact Kd.R_mono (Kd.R_far (p := ⟨gb463, 2, none⟩) (Kd.R_far (p := ⟨gb463, 1, none⟩) (Kd.R_far (p := ⟨gb463, 0, none⟩) (Kd.R_mono HO_9.out (fun k_ hk => (⟨hk, hk.2⟩ : _ ∧ k_ ≠ gb463))) (fun _ hk => hk.2) (.int .i64 ((rd_T79 l0 x14_1).f0))) (fun _ hk => hk.2) (.int .i64 ((rd_T79 l0 x14_1).f1))) (fun _ hk => hk.2) (.int .i64 ((rd_T79 l0 x14_1).f2))) (fun _ hk => hk.1.2))); (case aS => exact (below_size (by repeat (first | (with_reducible first | exact HB.out | apply below_alloc | apply pw_below_drewN | apply below_drew1 | refine below_set ?_ GE463.out) | exact HB.out)))); (case aL => have := LMc8.out; omega); intro v465 w11 ho hb hg hat; rw [← Ny464.out] at ho; have n0_ := Aside0.mk (blk_grown (g := gb463) (o := .cells #[.int .i64 ((rd_T79 l0 x14_1).f0), .int .i64 ((rd_T79 l0 x14_1).f1), .int .i64 ((rd_T79 l0 x14_1).f2)] 79 (0, 0)) (by (with_reducible repeat (first | refine blk_drewN ?_ _ | refine blk_drew ?_ | refine blk_alloc ?_ _)); refine blk_put (cs := #[.int .i64 ((rd_T79 l0 x14_1).f0), .int .i64 ((rd_T79 l0 x14_1).f1), .int .i64 0]) ?_ 2 _ rfl; (with_reducible repeat (first | refine blk_drewN ?_ _ | refine blk_drew ?_ | refine blk_alloc ?_ _)); refine blk_put (cs := #[.int .i64 ((rd_T79 l0 x14_1).f0), .int .i64 0, .int .i64 0]) ?_ 1 _ rfl; (with_reducible repeat (first | refine blk_drewN ?_ _ | refine blk_drew ?_ | refine blk_alloc ?_ _)); refine blk_put (cs := #[.int .i64 0, .int .i64 0, .int .i64 0]) ?_ 0 _ rfl; (with_reducible repeat (first | refine blk_drewN ?_ _ | refine blk_drew ?_ | refine blk_alloc ?_ _)); exact BK463.out) hg (Kd.R_away HO_9.out (fun _ hk => hk.2))); have n1_ := Aside0.mk (hb); have n2_ := Aside0.mk (ho); clear BK463; clear HB; clear HO_9; have BK463 := n0_; have HB := n1_; have HO466 := n2_; clear n0_ n1_ n2_; clear ho hb hg hat))
              go_roundg k1
              case measure => have := HK1.out; omega
              case rel => exact ⟨(y464), (wrap64 (x14_1 + 1)), (by first | rfl | (simp; done) | (simp [*]; done)), H', ⟨by have := HK1.out; omega⟩, ⟨by (with_reducible repeat (first | apply Kd.R_alloc | apply Kd.R_drewN | apply Kd.R_drew)); exact Kd.R_mono HO466.out (fun _ hk => trivial)⟩, ⟨by repeat (first | (with_reducible first | exact HB.out | apply below_alloc | apply pw_below_drewN | apply below_drew1 | refine below_set ?_ GE463.out) | exact HB.out)⟩⟩
            · rw [if_neg c8] at H
              exact absurd H (by simp)
          · rw [if_neg c7] at H
            exact absurd H (by simp)
        · rw [if_neg c6] at H
          exact absurd H (by simp)
      · rw [if_neg c5] at H
        have c5b0 : decide (x14_1 < (l0.length : Int)) = false := decide_eq_false c5
        clear c5
        obtain rfl := Option.some.inj H
        go_wp2
        go_ret
        exact ⟨_, by first | rfl | (simp [errW_none, errW_some] <;> rfl) | (simp [*, errW_none, errW_some] <;> rfl), by (with_reducible repeat (first | apply Kd.R_alloc | apply Kd.R_drewN | apply Kd.R_drew)); exact HO_9.out, by repeat (first | (with_reducible first | exact HB.out | apply below_alloc | apply pw_below_drewN | apply below_drew1) | exact HB.out)⟩
end Go.Proofs.Ytlhfclpbodfmcaa.Pr
namespace Go.Proofs.Ytlhfclpbodfmcaa.Pr
open Go.RowKit Go.Proofs.YtlhfclpbodfmcaaW.PrintWords Go.Proofs.YtlhfclpbodfmcaaW.PrintLast Go.Proofs.YtlhfclpbodfmcaaW.PrintMore
open Go.Proofs.Ytlhfclpbodfmcaa.Vm
set_option linter.unusedVariables false
theorem rd79_get (l : List S79) (i : Nat) (h : i < l.length) : rd_T79 l (i : Int) = l[i] := by
  simp [rd_T79, List.getD_eq_getElem?_getD, List.getElem?_eq_getElem h]
theorem mulB {k x B : Int} (h0 : 1 ≤ k) (h1 : k ≤ 1000) (x0 : 0 ≤ x) (x1 : x ≤ B) : 0 ≤ k * x ∧ k * x ≤ 1000 * B := ⟨Int.mul_nonneg (by omega) x0, Int.mul_le_mul h1 x1 x0 (by omega)⟩
theorem larger_loop (l : List S79) (hl : l.length ≤ 1000) (hr : ∀ r, r ∈ l → ringB r = true) (kh kv kd : Int) (h0 : 1 ≤ kh ∧ kh ≤ 1000) (h1 : 1 ≤ kv ∧ kv ≤ 1000) (h2 : 1 ≤ kd ∧ kd ≤ 1000) :
    ∀ (n i k : Nat) (acc : List S79), n + i = l.length → n < k → acc.length = i → waterhourlaw02_larger.l0 k kh kv kd acc l (l.length : Int) (i : Int) = some (acc ++ bigF kh kv kd (l.drop i)) := by
  intro n
  induction n with
  | zero =>
    intro i k acc hn hk ha
    obtain ⟨k, rfl⟩ : ∃ z, k = z + 1 := ⟨k - 1, by omega⟩
    simp only [waterhourlaw02_larger.l0]
    rw [if_neg (by omega), List.drop_of_length_le (by omega)]
    simp [bigF]
  | succ n ih =>
    intro i k acc hn hk ha
    obtain ⟨k, rfl⟩ : ∃ z, k = z + 1 := ⟨k - 1, by omega⟩
    have hi : i < l.length := by omega
    simp only [waterhourlaw02_larger.l0]
    rw [if_pos (by omega), if_pos (by omega), if_pos (by omega), if_pos (by omega), rd79_get l i hi]
    have rr := ringB_iff.1 (hr l[i] (List.getElem_mem hi))
    have b0 := mul_b rr.1 rr.2.1 h0.1 h0.2
    have b1 := mul_b rr.2.2.1 rr.2.2.2.1 h1.1 h1.2
    have b2 := mul_b rr.2.2.2.2.1 rr.2.2.2.2.2 h2.1 h2.2
    rw [wr (n := l[i].f0 * kh) (by omega) (by omega), wr (n := l[i].f1 * kv) (by omega) (by omega), wr (n := l[i].f2 * kd) (by omega) (by omega), wr (n := (i : Int) + 1) (by omega) (by omega)]
    have := ih (i + 1) k (acc ++ [⟨l[i].f0 * kh, l[i].f1 * kv, l[i].f2 * kd⟩]) (by omega) (by omega) (by simp; omega)
    rw [show ((i : Int) + 1) = ((i + 1 : Nat) : Int) by omega, this, List.drop_eq_getElem_cons hi, List.append_assoc]
    rfl
theorem larger_eq {l : List S79} (hv : validB l = true) (kh kv kd : Int) (h0 : 1 ≤ kh ∧ kh ≤ 1000) (h1 : 1 ≤ kv ∧ kv ≤ 1000) (h2 : 1 ≤ kd ∧ kd ≤ 1000) : waterhourlaw02_larger.f 2000 l kh kv kd = some (bigF kh kv kd l) := by
  unfold validB at hv
  rw [Bool.and_eq_true, decide_eq_true_iff] at hv
  have := larger_loop l (by omega) (chain_ring hv.2) kh kv kd h0 h1 h2 l.length 0 2000 [] (by omega) (by omega) rfl
  simpa [waterhourlaw02_larger.f] using this
def LargD (l : List S79) (a b m k xl xh sl sh : Int) : Prop :=
  ∃ z, waterhourlaw02_larger.f 2000 l 1 1 k = some z ∧ (vessel_Check.f 30 z = some 20 ∨ vessel_Check.f 30 z = some 0 ∧ (16777216 < k * m ∨ k * m ≤ 16777216 ∧
    ∃ yl yh, AfterF z a (k * m) = (xl, xh, 0) ∧ SinkingF z a b = (yl, yh, 0) ∧ k * sl ≤ yl ∧ yh ≤ k * sh))
def LargV (l : List S79) (a m k xl xh rl rh : Int) : Prop :=
  ∃ z, waterhourlaw02_larger.f 2000 l 1 k 1 = some z ∧ (vessel_Check.f 30 z = some 20 ∨ vessel_Check.f 30 z = some 0 ∧
    ∃ yl yh, AfterF z a m = (xl, xh, 0) ∧ RunF z a m = (yl, yh, 0) ∧ k * rl ≤ yl ∧ yh ≤ k * rh)
def LargH (l : List S79) (a b m k xl xh sl sh : Int) : Prop :=
  ∃ z, waterhourlaw02_larger.f 2000 l k 1 1 = some z ∧ (vessel_Check.f 30 z = some 20 ∨ vessel_Check.f 30 z = some 0 ∧
    ∃ yl yh, AfterF z (k * a) m = (yl, yh, 0) ∧ SinkingF z (k * a) (k * b) = (sl, sh, 0) ∧ k * xl ≤ yl ∧ yh ≤ k * xh)
def LargS (l : List S79) (a b m k : Int) : Prop :=
  ∃ xl xh sl sh rl rh : Int, AfterF l a m = (xl, xh, 0) ∧ SinkingF l a b = (sl, sh, 0) ∧ RunF l a m = (rl, rh, 0) ∧ LargD l a b m k xl xh sl sh ∧ LargV l a m k xl xh rl rh ∧ LargH l a b m k xl xh sl sh ∧
    wrap64 (k * m) = k * m ∧ wrap64 (k * sl) = k * sl ∧ wrap64 (k * sh) = k * sh ∧ wrap64 (k * rl) = k * rl ∧ wrap64 (k * rh) = k * rh ∧ wrap64 (k * a) = k * a ∧ wrap64 (k * b) = k * b ∧ wrap64 (k * xl) = k * xl ∧ wrap64 (k * xh) = k * xh
theorem check_cases (z : List S79) : vessel_Check.f 30 z = some 20 ∨ vessel_Check.f 30 z = some 0 ∧ validB z = true := by
  rw [vCheck]; unfold checkF
  by_cases h : validB z = true
  · rw [if_pos h]; exact .inr ⟨rfl, h⟩
  · rw [if_neg h]; exact .inl rfl
theorem larg_says {l : List S79} {a b m k : Int} (hR : rightB l [m] [a, b] = true) (hab : b ≤ a) (k0 : 1 ≤ k) (k1 : k ≤ 1000) : LargS l a b m k := by
  obtain ⟨hv, hl, hn, _⟩ := rightP hR
  have va : VL l a := ⟨hv, (hl a (by simp)).1, (hl a (by simp)).2⟩
  have vb : VL l b := ⟨hv, (hl b (by simp)).1, (hl b (by simp)).2⟩
  obtain ⟨m0, m1⟩ := hn m (by simp)
  have hS := va.gv.sums
  have hk0 : 0 ≤ k := by omega
  have sb := sink_bd va vb hab
  have sf := fl_ce (mT l (a : Rat) - mT l (b : Rat))
  have rb := run_bd va m0
  have r5 := castLe hS.2.1
  have rl0 := fl_nn rb.1
  have rh1 : (runX l a m).ceil ≤ 2400000 := ce_le (by grind)
  have rf := fl_ce (runX l a m)
  have ab := after_bd va m0
  have a5 := castLe hS.1
  have xl0 := fl_nn ab.1
  have xh1 : (afterX l a m).ceil ≤ 24000 := ce_le (by grind)
  have xf := fl_ce (afterX l a m)
  have km := mulB k0 k1 m0 m1
  have ka := mulB k0 k1 va.h0 (Int.le_trans va.h1 hS.1)
  have kb := mulB k0 k1 vb.h0 (Int.le_trans vb.h1 hS.1)
  have w1 := mulB k0 k1 sb.1 (show _ ≤ (480000 : Int) by omega)
  have w2 := mulB k0 k1 (show 0 ≤ (mT l (a : Rat) - mT l (b : Rat)).ceil by omega) sb.2
  have w3 := mulB k0 k1 rl0 (show _ ≤ (2400000 : Int) by omega)
  have w4 := mulB k0 k1 (show 0 ≤ (runX l a m).ceil by omega) rh1
  have w5 := mulB k0 k1 xl0 (show _ ≤ (24000 : Int) by omega)
  have w6 := mulB k0 k1 (show 0 ≤ (afterX l a m).ceil by omega) xh1
  refine ⟨_, _, _, _, _, _, after_val va m0 (by omega), sink_val va vb hab, run_val' va m0 (by omega), ⟨_, larger_eq hv 1 1 k (by omega) (by omega) ⟨k0, k1⟩, ?_⟩, ⟨_, larger_eq hv 1 k 1 (by omega) ⟨k0, k1⟩ (by omega), ?_⟩, ⟨_, larger_eq hv k 1 1 ⟨k0, k1⟩ (by omega) (by omega), ?_⟩,
    wr (by omega) (by omega), wr (by omega) (by omega), wr (by omega) (by omega), wr (by omega) (by omega), wr (by omega) (by omega), wr (by omega) (by omega), wr (by omega) (by omega), wr (by omega) (by omega), wr (by omega) (by omega)⟩
  · rcases check_cases (bigF 1 1 k l) with h | ⟨h, hz⟩
    · exact .inl h
    · refine .inr ⟨h, ?_⟩
      by_cases hm : 16777216 < k * m
      · exact .inl hm
      · have vz := big_d va k0 hz
        have vy := big_d vb k0 hz
        refine .inr ⟨by omega, _, _, ?_, sink_val vz vy hab, ?_, ?_⟩
        · rw [after_val vz km.1 (by omega), after_d va k0]; rfl
        · rw [sink_d]; exact fl_mul hk0 _
        · rw [sink_d]; exact ce_mul hk0 _
  · rcases check_cases (bigF 1 k 1 l) with h | ⟨h, hz⟩
    · exact .inl h
    · have vz := big_v va hz
      refine .inr ⟨h, _, _, ?_, run_val' vz m0 (by omega), ?_, ?_⟩
      · rw [after_val vz m0 (by omega), after_v]; rfl
      · rw [run_v]; exact fl_mul hk0 _
      · rw [run_v]; exact ce_mul hk0 _
  · rcases check_cases (bigF k 1 1 l) with h | ⟨h, hz⟩
    · exact .inl h
    · have vz := big_h va k0 hz
      have vy := big_h vb k0 hz
      refine .inr ⟨h, _, _, after_val vz m0 (by omega), ?_, ?_, ?_⟩
      · rw [sink_val vz vy (Int.mul_le_mul_of_nonneg_left hab hk0), sink_h va k0]; rfl
      · rw [after_h va k0]; exact fl_mul hk0 _
      · rw [after_h va k0]; exact ce_mul hk0 _
end Go.Proofs.Ytlhfclpbodfmcaa.Pr
