/- A part of the proof: Kq, Tp, Lb, Lc, Le, Ln, Pr23, Ca, Pr24, Kl, Cb, Dr, Fa, Ra, Cc. -/
import Derived.Test.YtlhfclpbodfmcaaXDr
import Derived.Test.YtlhfclpbodfmcaaXLb
import Derived.Test.YtlhfclpbodfmcaaYAWShare
import Derived.Test.YtlhfclpbodfmcaaYAVm
import Derived.Test.YtlhfclpbodfmcaaXRt
namespace Go.Proofs.Ytlhfclpbodfmcaa.Pr
open Go.RowKit Go.Proofs.YtlhfclpbodfmcaaW.PrintWords Go.Proofs.YtlhfclpbodfmcaaW.PrintLast Go.Proofs.YtlhfclpbodfmcaaW.PrintMore
set_option linter.unusedVariables false
section
variable {P : Program} {ops : Array Oper} {Q : Exit → Act → World → Prop} {md : Region.Mode} {S : World → Prop} {ds : List Nat}
end
theorem fb_ {n : Nat} {w W X : World} (HB : Aside0 (Below n w W)) (h : Below W.heap.size W X := by repeat (first | exact Below.refl _ _ | apply below_alloc | apply pw_below_drewN | apply below_drew1)) (hn : n ≤ W.heap.size := by first | exact HB.out.size | exact Nat.le_refl _) : Below n w X := HB.out.trans (h.mono hn)
section
variable {P : Program} {ops : Array Oper} {Q : Exit → Act → World → Prop}
end
end Go.Proofs.Ytlhfclpbodfmcaa.Pr
namespace Go.Proofs.Ytlhfclpbodfmcaa.Pr
open Go.RowKit Go.Proofs.YtlhfclpbodfmcaaW.PrintWords Go.Proofs.YtlhfclpbodfmcaaW.PrintLast Go.Proofs.YtlhfclpbodfmcaaW.PrintMore
open Go.Proofs.Ytlhfclpbodfmcaa.Vm
theorem above_lt {a : Ex} (ha : a.ok) {n : Int} (h : aboveF a n = true) : (n : Rat) < a.v := by
  unfold aboveF at h
  rw [decide_eq_true_iff] at h
  have d1 : (1 : Int) ≤ a.d := by have := ha.1; have := ha.2; omega
  have hw := w_le_v ha
  rcases h with h | ⟨h, h2⟩
  · have h3 := castLt h
    grind
  · unfold Ex.v
    rw [h]
    have := Rat.mul_pos (castLt h2) (inv_nn (one_le d1))
    rw [Rat.div_def]
    grind
end Go.Proofs.Ytlhfclpbodfmcaa.Pr
namespace Go.Proofs.Ytlhfclpbodfmcaa.Pr
open Go.Proofs.Ytlhfclpbodfmcaa.Vm
set_option linter.unusedVariables false
def vT (l : List S79) (x : Rat) : Rat := conv (hsO l) (vsO l) x
def uT (l : List S79) (x : Rat) : Rat := conv (dsO l) (vsO l) x
def mV (l : List S79) (x : Rat) : Rat := conv (vsO l) (dsO l) x
theorem run_val {l : List S79} {lv m : Int} (h : VL l lv) (m0 : 0 ≤ m) (m1 : m ≤ 16777216) : RunF l lv m = rnd (vT l (lv : Rat) - uT l (leftM l lv m)) := by
  obtain ⟨r1, r2, _⟩ := runF_spec h.gv h.h0 h.h1 m0
  unfold RunF asks
  rw [if_pos h.v, h.lv, manyB_iff.2 ⟨m0, m1⟩]
  simp only [Bool.and_self, if_true]
  rw [okS_span r2, r1]
  rfl
section
variable {l : List S79}
end
end Go.Proofs.Ytlhfclpbodfmcaa.Pr
namespace Go.Proofs.Ytlhfclpbodfmcaa.Pr
open Go.Proofs.Ytlhfclpbodfmcaa.Vm
set_option linter.unusedVariables false
def runX (l : List S79) (lv m : Int) : Rat := vT l (lv : Rat) - uT l (leftM l lv m)
theorem run_val' {l : List S79} {lv m : Int} (h : VL l lv) (m0 : 0 ≤ m) (m1 : m ≤ 16777216) : RunF l lv m = rnd (runX l lv m) := run_val h m0 m1
theorem poured_val {l : List S79} {lv n : Int} (h : VL l lv) (m0 : 0 ≤ n) (m1 : n ≤ 16777216) :
    PouredF l lv n = if (sm (vsO l) : Rat) < vT l (lv : Rat) + (n : Rat) then erS 4 else rnd (hV l (vT l (lv : Rat) + (n : Rat))) := by
  have g := h.gv
  obtain ⟨_, _, t1, t2, t3, t4, t5⟩ := timeF_spec g.h g.v g.hv h.h0 h.h1
  obtain ⟨p1, p2, p3⟩ := plusF_spec t2 n
  have hv : (pouredE l lv n).v = vT l (lv : Rat) + (n : Rat) := by unfold pouredE; rw [p2, t1]; rfl
  unfold PouredF asks
  rw [if_pos h.v, h.lv, manyB_iff.2 ⟨m0, m1⟩]
  simp only [Bool.and_self, if_true]
  cases ha : aboveF (pouredE l lv n) (sm (vsO l)) with
  | true =>
    have hx := above_lt (a := pouredE l lv n) p1 ha
    rw [hv] at hx
    rw [if_pos rfl, if_pos hx]
  | false =>
    have hx := not_above (a := pouredE l lv n) p1 ha
    rw [hv] at hx
    rw [if_neg (by simp), if_neg (by grind)]
    have hw : 0 ≤ (pouredE l lv n).w := by show 0 ≤ (timeF (hsO l) (vsO l) lv).w + n; omega
    have q := tell g.v g.h g.hv.symm (e := pouredE l lv n) p1 hw (by rw [hv]; exact hx) (M := 1000) t3
    rw [okS_span q.2.2.2.1, q.2.2.1, hv]; rfl
theorem untilR_val {hs vs ds : List Int} (g : GV hs vs ds) {lv : Int} (h0 : 0 ≤ lv) (h1 : lv ≤ sm hs) {c : Ex} (hc : c.ok) (hd : c.d ≤ 1000) (h2 : 0 ≤ c.w) :
    (conv hs vs (lv : Rat) < c.v ∧ (untilR hs vs ds lv c).2 = false) ∨
    (c.v ≤ conv hs vs (lv : Rat) ∧ (untilR hs vs ds lv c).2 = true ∧ (untilR hs vs ds lv c).1.ok ∧ (untilR hs vs ds lv c).1.v = conv hs ds (lv : Rat) - conv vs ds (conv hs vs (lv : Rat) - c.v)) := by
  obtain ⟨r1, r2, r3, r4⟩ := restF_spec g.h g.v g.hv h0 h1 hc hd h2
  have wl := w_le_v r2
  unfold untilR
  by_cases hw : (restF hs vs lv c).w < 0
  · left
    have h3 := castLe (show (restF hs vs lv c).w + 1 ≤ 0 by omega)
    rw [Rat.intCast_add] at h3
    have z0 : ((0 : Int) : Rat) = 0 := rfl
    have z1 : ((1 : Int) : Rat) = 1 := rfl
    rw [if_pos hw]
    exact ⟨by grind, rfl⟩
  · right
    rw [if_neg hw]
    have h3 := castLe (show 0 ≤ (restF hs vs lv c).w by omega)
    have z0 : ((0 : Int) : Rat) = 0 := rfl
    obtain ⟨_, _, _, _, _, _, u1, u2⟩ := untilF_spec g h0 h1 hc hd h2 (by omega)
    exact ⟨by grind, rfl, u2, u1⟩
theorem until_val {l : List S79} {lv n : Int} (h : VL l lv) (n0 : 0 ≤ n) (n1 : n ≤ 16777216) :
    UntilF l lv n = if vT l (lv : Rat) < (n : Rat) then erS 4 else rnd (mT l (lv : Rat) - mV l (vT l (lv : Rat) - (n : Rat))) := by
  obtain ⟨w1, w2⟩ := wholeF_ok n
  unfold UntilF asks
  rw [if_pos h.v, h.lv, manyB_iff.2 ⟨n0, n1⟩]
  simp only [Bool.and_self, if_true]
  rcases untilR_val h.gv h.h0 h.h1 w1 (by simp [wholeF]) (by simpa [wholeF] using n0) with ⟨a, b⟩ | ⟨a, b, c, d⟩
  · rw [w2] at a
    rw [b, if_neg (by simp), if_pos (show vT l (lv : Rat) < (n : Rat) from a)]
  · rw [w2] at a d
    rw [b, if_pos rfl, if_neg (by show ¬ conv (hsO l) (vsO l) (lv : Rat) < (n : Rat); grind), okS_span c, d]
    rfl
theorem fl_mono {x y : Rat} (h : x ≤ y) : x.floor ≤ y.floor := Rat.le_floor_iff.2 (by have := Rat.floor_le x; grind)
theorem ce_mono {x y : Rat} (h : x ≤ y) : x.ceil ≤ y.ceil := Rat.ceil_le_iff.2 (by have := Rat.le_ceil (x := y); grind)
theorem fl_nn {x : Rat} (h : 0 ≤ x) : 0 ≤ x.floor := Rat.le_floor_iff.2 (by simpa using h)
theorem fl_le {x : Rat} {n : Int} (h : x ≤ (n : Rat)) : x.floor ≤ n := by
  have := Rat.floor_le x
  exact Rat.intCast_le_intCast.1 (by grind)
theorem ce_le {x : Rat} {n : Int} (h : x ≤ (n : Rat)) : x.ceil ≤ n := Rat.ceil_le_iff.2 h
theorem le_ce {x : Rat} {n : Int} (h : (n : Rat) ≤ x) : n ≤ x.ceil := by
  have := Rat.le_ceil (x := x)
  exact Rat.intCast_le_intCast.1 (by grind)
theorem ce_nn {x : Rat} (h : 0 ≤ x) : 0 ≤ x.ceil := le_ce (by simpa using h)
section
variable {l : List S79}
theorem VL.fl {lv : Int} (h : VL l lv) {x : Rat} (h0 : 0 ≤ x) (h1 : x ≤ (sm (hsO l) : Rat)) : VL l x.floor := ⟨h.v, fl_nn h0, fl_le h1⟩
theorem VL.ce {lv : Int} (h : VL l lv) {x : Rat} (h0 : 0 ≤ x) (h1 : x ≤ (sm (hsO l) : Rat)) : VL l x.ceil := ⟨h.v, ce_nn h0, ce_le h1⟩
theorem uT_le {lv : Int} (h : VL l lv) {x y : Rat} (x0 : 0 ≤ x) (x1 : x ≤ (sm (dsO l) : Rat)) (y0 : 0 ≤ y) (y1 : y ≤ (sm (dsO l) : Rat)) : uT l x ≤ uT l y ↔ x ≤ y := conv_le_iff (h.gv.hd.symm.trans h.gv.hv) h.gv.d.pos h.gv.v.pos x0 x1 y0 y1
theorem uT_mT {lv : Int} (h : VL l lv) {x : Rat} (h0 : 0 ≤ x) (h1 : x ≤ (sm (hsO l) : Rat)) : uT l (mT l x) = vT l x := conv_conv h.gv.hd (h.gv.hd.symm.trans h.gv.hv) h.gv.h.pos h.gv.d.pos h.gv.v.pos h0 h1
theorem uT_zero {lv : Int} (h : VL l lv) : uT l 0 = 0 := conv_zero h.gv.d.pos
theorem vT_bd {lv : Int} (h : VL l lv) {x : Rat} (h0 : 0 ≤ x) (h1 : x ≤ (sm (hsO l) : Rat)) : 0 ≤ vT l x ∧ vT l x ≤ (sm (vsO l) : Rat) := conv_bounds h.gv.hv h.gv.h.pos h.gv.v.pos h0 h1
theorem vT_le {lv : Int} (h : VL l lv) {x y : Rat} (x0 : 0 ≤ x) (x1 : x ≤ (sm (hsO l) : Rat)) (y0 : 0 ≤ y) (y1 : y ≤ (sm (hsO l) : Rat)) : vT l x ≤ vT l y ↔ x ≤ y := conv_le_iff h.gv.hv h.gv.h.pos h.gv.v.pos x0 x1 y0 y1
theorem hV_vT {lv : Int} (h : VL l lv) {x : Rat} (h0 : 0 ≤ x) (h1 : x ≤ (sm (hsO l) : Rat)) : hV l (vT l x) = x := conv_back h.gv.hv h.gv.h.pos h.gv.v.pos h0 h1
theorem hV_le {lv : Int} (h : VL l lv) {x y : Rat} (x0 : 0 ≤ x) (x1 : x ≤ (sm (vsO l) : Rat)) (y0 : 0 ≤ y) (y1 : y ≤ (sm (vsO l) : Rat)) : hV l x ≤ hV l y ↔ x ≤ y := conv_le_iff h.gv.hv.symm h.gv.v.pos h.gv.h.pos x0 x1 y0 y1
theorem mV_bd {lv : Int} (h : VL l lv) {x : Rat} (h0 : 0 ≤ x) (h1 : x ≤ (sm (vsO l) : Rat)) : 0 ≤ mV l x ∧ mV l x ≤ (sm (dsO l) : Rat) := conv_bounds (h.gv.hv.symm.trans h.gv.hd) h.gv.v.pos h.gv.d.pos h0 h1
theorem uT_mV {lv : Int} (h : VL l lv) {x : Rat} (h0 : 0 ≤ x) (h1 : x ≤ (sm (vsO l) : Rat)) : uT l (mV l x) = x := conv_back (h.gv.hv.symm.trans h.gv.hd) h.gv.v.pos h.gv.d.pos h0 h1
theorem run_bd {a m : Int} (h : VL l a) (m0 : 0 ≤ m) : 0 ≤ runX l a m ∧ runX l a m ≤ vT l (a : Rat) ∧ runX l a m ≤ (sm (vsO l) : Rat) := by
  have p := left_bd h m0
  have h1 := mT_bd h h.c0 h.c1
  have k := (uT_le h p.1 p.2.2 h1.1 h1.2).2 p.2.1
  have z := (uT_le h (Rat.le_refl) (by grind) p.1 p.2.2).2 p.1
  rw [uT_zero h] at z
  rw [uT_mT h h.c0 h.c1] at k
  have v := vT_bd h h.c0 h.c1
  unfold runX
  exact ⟨by grind, by grind, by grind⟩
theorem received_iff {a m : Int} (h : VL l a) (m0 : 0 ≤ m) {c : Rat} (c0 : 0 ≤ c) (c1 : c ≤ vT l (a : Rat)) : c ≤ runX l a m ↔ (mT l (a : Rat) - mV l (vT l (a : Rat) - c)).ceil ≤ m := by
  have v := vT_bd h h.c0 h.c1
  have r0 : 0 ≤ vT l (a : Rat) - c := by grind
  have r1 : vT l (a : Rat) - c ≤ (sm (vsO l) : Rat) := by grind
  have p := left_bd h m0
  have q := mV_bd h r0 r1
  rw [Rat.ceil_le_iff]
  have e : uT l (leftM l a m) ≤ vT l (a : Rat) - c ↔ leftM l a m ≤ mV l (vT l (a : Rat) - c) := by
    rw [← uT_le h p.1 p.2.2 q.1 q.2, uT_mV h r0 r1]
  have e2 : c ≤ runX l a m ↔ uT l (leftM l a m) ≤ vT l (a : Rat) - c := by unfold runX; constructor <;> intro _ <;> grind
  rw [e2, e]
  unfold leftM
  split <;> grind
end
end Go.Proofs.Ytlhfclpbodfmcaa.Pr
namespace Go.Proofs.Ytlhfclpbodfmcaa.Pr
open Go.Proofs.Ytlhfclpbodfmcaa.Vm
set_option linter.unusedVariables false
theorem rightP {l0 : List S79} {l1 l2 : List Int} (h : rightB l0 l1 l2 = true) : validB l0 = true ∧ (∀ n ∈ l2, 0 ≤ n ∧ n ≤ sm (hsO l0)) ∧ (∀ n ∈ l1, 0 ≤ n ∧ n ≤ 8388608) ∧ l0.length ≤ 40 := by
  unfold rightB fewB lvlB at h
  simp only [Bool.and_eq_true, decide_eq_true_eq, List.all_eq_true] at h
  exact ⟨h.2.1, h.2.2.1, h.2.2.2, h.1⟩
end Go.Proofs.Ytlhfclpbodfmcaa.Pr
namespace Go.Proofs.Ytlhfclpbodfmcaa.Pr
open Go.Proofs.Ytlhfclpbodfmcaa.Vm
set_option linter.unusedVariables false
theorem run_vT {l : List S79} {a m : Int} (h : VL l a) (m0 : 0 ≤ m) : runX l a m = vT l (a : Rat) - vT l (afterX l a m) := by
  have b := after_bd h m0
  have e := uT_mT h b.1 b.2
  rw [mT_after h m0] at e
  unfold runX
  rw [e]
theorem mV_vT {l : List S79} {a : Int} (h : VL l a) : mV l (vT l (a : Rat)) = mT l (a : Rat) := conv_conv h.gv.hv (h.gv.hv.symm.trans h.gv.hd) h.gv.h.pos h.gv.v.pos h.gv.d.pos h.c0 h.c1
def WaterS (l : List S79) (a m n k : Int) : Prop :=
  ∃ r1 r2 a1 a2 u1 u2 e1 t1 t2 t3 t4 x1 x2 e2 y1 y2 e3 : Int, RunF l a m = (r1, r2, 0) ∧ AfterF l a m = (a1, a2, 0) ∧ UntilF l a n = (u1, u2, e1) ∧
    (e1 = 0 ∧ decide (n ≤ r1) = decide (u2 ≤ m) ∧ (¬ n = 0 ∨ n = 0 ∧ u1 = 0 ∧ u2 = 0) ∨ e1 = 4 ∧ r1 < n) ∧
    ((vT l (a : Rat)).floor = t1 ∧ (vT l (a : Rat)).ceil = t2 ∧ (vT l (a1 : Rat)).floor = t3 ∧ (vT l (a2 : Rat)).ceil = t4) ∧ (t1 - t4 ≤ r1 ∧ r2 ≤ t2 - t3) ∧ (0 ≤ t1 ∧ t1 ≤ 2400000 ∧ 0 ≤ t2 ∧ t2 ≤ 2400000 ∧ 0 ≤ t3 ∧ t3 ≤ 2400000 ∧ 0 ≤ t4 ∧ t4 ≤ 2400000) ∧
    (0 ≤ a1 ∧ a1 ≤ sm (hsO l) ∧ 0 ≤ a2 ∧ a2 ≤ sm (hsO l) ∧ 0 ≤ a ∧ a ≤ sm (hsO l)) ∧
    PouredF l a n = (x1, x2, e2) ∧ PouredF l a (n + k) = (y1, y2, e3) ∧ PouredF l a 0 = (a, a, 0) ∧ (e2 = 0 ∧ (e3 = 0 ∧ x1 ≤ y1 ∧ x2 ≤ y2 ∨ e3 = 4) ∨ e2 = 4 ∧ e3 = 4) ∧ 0 ≤ n ∧ n ≤ 8388608 ∧ 0 ≤ k ∧ k ≤ 8388608
theorem water_says {l : List S79} {a m n k : Int} (hR : rightB l [m, n, k] [a] = true) : WaterS l a m n k := by
  obtain ⟨hv, hl, hn, _⟩ := rightP hR
  have va : VL l a := ⟨hv, (hl a (by simp)).1, (hl a (by simp)).2⟩
  obtain ⟨m0, m1⟩ := hn m (by simp)
  obtain ⟨n0, n1⟩ := hn n (by simp)
  obtain ⟨k0, k1⟩ := hn k (by simp)
  have hx := after_bd va m0
  have v1 := va.fl hx.1 hx.2
  have v2 := va.ce hx.1 hx.2
  have rb := run_bd va m0
  have er := run_vT va m0
  have S := castLe va.gv.sums.2.1
  have ha := vT_bd va va.c0 va.c1
  have h1 := vT_bd va v1.c0 v1.c1
  have h2 := vT_bd va v2.c0 v2.c1
  have f1 := (vT_le va v1.c0 v1.c1 hx.1 hx.2).2 (Rat.floor_le _)
  have f2 := (vT_le va hx.1 hx.2 v2.c0 v2.c1).2 (Rat.le_ceil (x := afterX l a m))
  have n0R : (0 : Rat) ≤ (n : Rat) := by have := castLe n0; simpa using this
  have k0R : (0 : Rat) ≤ (k : Rat) := by have := castLe k0; simpa using this
  have hU : ∃ u1 u2 e1 : Int, UntilF l a n = (u1, u2, e1) ∧ (e1 = 0 ∧ decide (n ≤ (runX l a m).floor) = decide (u2 ≤ m) ∧ (¬ n = 0 ∨ n = 0 ∧ u1 = 0 ∧ u2 = 0) ∨ e1 = 4 ∧ (runX l a m).floor < n) := by
    have u := until_val va n0 (show n ≤ 16777216 by omega)
    by_cases hc : vT l (a : Rat) < (n : Rat)
    · rw [if_pos hc] at u
      refine ⟨_, _, _, u, .inr ⟨rfl, ?_⟩⟩
      have := Rat.floor_le (runX l a m)
      exact Rat.intCast_lt_intCast.1 (by grind)
    · rw [if_neg hc] at u
      refine ⟨_, _, _, u, .inl ⟨rfl, ?_, ?_⟩⟩
      · have := received_iff va m0 n0R (by grind)
        rw [Bool.eq_iff_iff, decide_eq_true_iff, decide_eq_true_iff, ← this]
        exact Rat.le_floor_iff
      · by_cases hz : n = 0
        · refine .inr ⟨hz, ?_⟩
          have z : mT l (a : Rat) - mV l (vT l (a : Rat) - (n : Rat)) = ((0 : Int) : Rat) := by
            have e : (n : Rat) = 0 := by rw [hz]; rfl
            have e2 : vT l (a : Rat) - (n : Rat) = vT l (a : Rat) := by rw [e]; grind
            rw [e2, mV_vT va]
            have : ((0 : Int) : Rat) = 0 := rfl
            rw [this]; grind
          rw [z, Rat.floor_intCast, Rat.ceil_intCast]
          exact ⟨rfl, rfl⟩
        · exact .inl hz
  have hP : ∃ x1 x2 e2 y1 y2 e3 : Int, PouredF l a n = (x1, x2, e2) ∧ PouredF l a (n + k) = (y1, y2, e3) ∧ (e2 = 0 ∧ (e3 = 0 ∧ x1 ≤ y1 ∧ x2 ≤ y2 ∨ e3 = 4) ∨ e2 = 4 ∧ e3 = 4) := by
    have p := poured_val va n0 (show n ≤ 16777216 by omega)
    have q := poured_val va (show 0 ≤ n + k by omega) (show n + k ≤ 16777216 by omega)
    rw [Rat.intCast_add] at q
    by_cases hc : (sm (vsO l) : Rat) < vT l (a : Rat) + (n : Rat)
    · rw [if_pos hc] at p
      rw [if_pos (by grind)] at q
      exact ⟨_, _, _, _, _, _, p, q, .inr ⟨rfl, rfl⟩⟩
    · rw [if_neg hc] at p
      by_cases hd : (sm (vsO l) : Rat) < vT l (a : Rat) + ((n : Rat) + (k : Rat))
      · rw [if_pos hd] at q
        exact ⟨_, _, _, _, _, _, p, q, .inl ⟨rfl, .inr rfl⟩⟩
      · rw [if_neg hd] at q
        have mono := (hV_le va (x := vT l (a : Rat) + (n : Rat)) (y := vT l (a : Rat) + ((n : Rat) + (k : Rat))) (by grind) (by grind) (by grind) (by grind)).2 (by grind)
        exact ⟨_, _, _, _, _, _, p, q, .inl ⟨rfl, .inl ⟨rfl, fl_mono mono, ce_mono mono⟩⟩⟩
  have hZ : PouredF l a 0 = (a, a, 0) := by
    have p := poured_val va (Int.le_refl 0) (by decide)
    have e : vT l (a : Rat) + ((0 : Int) : Rat) = vT l (a : Rat) := by have : ((0 : Int) : Rat) = 0 := rfl; rw [this]; grind
    rw [e, if_neg (by grind), hV_vT va va.c0 va.c1] at p
    rw [p]
    unfold rnd
    rw [Rat.floor_intCast, Rat.ceil_intCast]
  obtain ⟨u1, u2, e1, U1, U2⟩ := hU
  obtain ⟨x1, x2, e2, y1, y2, e3, P1, P2, P3⟩ := hP
  refine ⟨_, _, _, _, u1, u2, e1, _, _, _, _, x1, x2, e2, y1, y2, e3, run_val' va m0 (by omega), after_val va m0 (by omega), U1, U2, ⟨rfl, rfl, rfl, rfl⟩, ⟨?_, ?_⟩, ⟨fl_nn ha.1, fl_le (by grind), ce_nn ha.1, ce_le (by grind), fl_nn h1.1, fl_le (by grind), ce_nn h2.1, ce_le (by grind)⟩, ⟨v1.h0, v1.h1, v2.h0, v2.h1, va.h0, va.h1⟩, P1, P2, hZ, P3, n0, n1, k0, k1⟩
  · refine Rat.le_floor_iff.2 ?_
    rw [Rat.intCast_sub, er]
    have := Rat.floor_le (vT l (a : Rat))
    have := Rat.le_ceil (x := vT l ((afterX l a m).ceil : Rat))
    grind
  · refine Rat.ceil_le_iff.2 ?_
    rw [Rat.intCast_sub, er]
    have := Rat.le_ceil (x := vT l (a : Rat))
    have := Rat.floor_le (vT l ((afterX l a m).floor : Rat))
    grind
end Go.Proofs.Ytlhfclpbodfmcaa.Pr
namespace Go.Proofs.Ytlhfclpbodfmcaa.Pr
open Go.RowKit Go.Proofs.YtlhfclpbodfmcaaW.PrintWords Go.Proofs.YtlhfclpbodfmcaaW.PrintLast Go.Proofs.YtlhfclpbodfmcaaW.PrintMore
attribute [local go_sem] fld79_0 fld79_1 fld79_2 fld27_0 fld27_1 fld90_0 fld90_1 fld90_2 fld105_0 fld105_1 fld105_2 fld96_0 fld96_1 fld96_2 fld60_0 fld60_1 fld42_0 fld42_1 max2_int min2_int max_two min_two max_three min_three max_four min_four   -- for this text's walks alone
set_option linter.unusedVariables false
set_option linter.unusedSimpArgs false
def curve_within.f (l0 : List (S60)) (a1 : Int) : Option (Bool) := if 0 < (l0.length : Int) then (if a1 ≥ ((rd_T60 l0 0).f0) then (if 0 ≤ (wrap64 ((l0.length : Int) - 1)) then (if (wrap64 ((l0.length : Int) - 1)) < (l0.length : Int) then (some (decide (a1 ≤ ((rd_T60 l0 (wrap64 ((l0.length : Int) - 1))).f0)))) else (none)) else (none)) else (some false)) else (none)
set_option maxHeartbeats 8000000 in
set_option maxRecDepth 100000 in
theorem curve_within.calls (A0 : Option Addr) (c0 : Nat) (l0 : List (S60)) (a1 : Int) (r : Bool) (w : World) (hr0 : Kd.C k60 w A0 l0.length l0) (hc0 : l0.length ≤ c0) (h : curve_within.f l0 a1 = some r) :
    Calls Try.prog 142 #[.slice A0 l0.length c0, .int .i64 a1] w fun e w' => e = .returned (.bool r) ∧ Drawn0 w w' := by
  have HR0 := Aside0.mk hr0
  have HC0 := Aside0.mk hc0
  clear hr0 hc0
  have H : (if 0 < (l0.length : Int) then (if a1 ≥ ((rd_T60 l0 0).f0) then (if 0 ≤ (wrap64 ((l0.length : Int) - 1)) then (if (wrap64 ((l0.length : Int) - 1)) < (l0.length : Int) then (some (decide (a1 ≤ ((rd_T60 l0 (wrap64 ((l0.length : Int) - 1))).f0)))) else (none)) else (none)) else (some false)) else (none)) = some r := h
  clear h
  by_cases c3 : 0 < (l0.length : Int)
  · rw [if_pos c3] at H
    have c3b0 : decide (0 < (l0.length : Int)) = true := decide_eq_true c3
    have c3b1 : decide (0 < l0.length) = true := decide_eq_true (by omega)
    clear c3
    by_cases c4 : a1 ≥ ((rd_T60 l0 0).f0)
    · rw [if_pos c4] at H
      have c4b0 : decide (((rd_T60 l0 0).f0) ≤ a1) = true := decide_eq_true c4
      clear c4
      obtain ⟨ji5, hji5⟩ : ∃ j_ : Int, (wrap64 ((l0.length : Int) - 1)) = j_ := ⟨_, rfl⟩
      replace H : (if 0 ≤ (ji5) then (if (ji5) < (l0.length : Int) then (some (decide (a1 ≤ ((rd_T60 l0 (ji5)).f0)))) else (none)) else (none)) = some r := by first | (rw [hji5] at H; exact H) | (simp only [hji5] at H ⊢; exact H)
      have hji5w : (IntKind.i64.wrap ((l0.length : Int) - 1)) = ji5 := (i64_w _).trans hji5
      by_cases c6 : 0 ≤ (ji5)
      · rw [if_pos c6] at H
        have c6b0 : decide (0 ≤ (ji5)) = true := decide_eq_true c6
        clear c6
        by_cases c7 : (ji5) < (l0.length : Int)
        · rw [if_pos c7] at H
          have c7b0 : decide ((ji5) < (l0.length : Int)) = true := decide_eq_true c7
          clear c7
          obtain rfl := Option.some.inj H
          have p433 : 0 ≤ (0 : Int) := (by omega)
          have q433 : 0 < (l0.length : Int) := of_decide_eq_true (by first | (with_reducible assumption) | assumption)
          obtain ⟨ad433, e433, hx433_0, hx433_1⟩ := at_T60 HR0.out 0 p433 q433
          cases e433
          have qi433 : (0 < l0.length) = True := eq_true (by omega)
          (try rw [show ((0 : Int)).toNat = 0 from rfl] at hx433_0)
          (try rw [show 0 * 2 = 0 from rfl] at hx433_0)
          (try rw [Addr.add_zero'] at hx433_0)
          (try rw [show ((0 : Int)).toNat = 0 from rfl] at hx433_1)
          (try rw [show 0 * 2 = 0 from rfl] at hx433_1)
          (try rw [Addr.add_zero'] at hx433_1)
          replace p433 := eq_true p433
          replace q433 := eq_true q433
          have p434 : 0 ≤ ((ji5) : Int) := of_decide_eq_true (by first | (with_reducible assumption) | assumption)
          have q434 : (ji5) < (l0.length : Int) := of_decide_eq_true (by first | (with_reducible assumption) | assumption)
          obtain ⟨ad434, e434, hx434_0, hx434_1⟩ := at_T60 HR0.out (ji5) p434 q434
          obtain rfl : ad433 = ad434 := (by injection e434)
          replace p434 := eq_true p434
          replace q434 := eq_true q434
          go_enter Try.func142, Try.ntmps142
          go_wp2
          go_ret
          exact ⟨by first | rfl | (simp; done) | (simp only [← hji5] <;> (first | rfl | simp)) | (simp [*]; done), by repeat (first | exact Drawn0.refl _ | apply Drawn0.step)⟩
        · rw [if_neg c7] at H
          exact absurd H (by simp)
      · rw [if_neg c6] at H
        exact absurd H (by simp)
    · rw [if_neg c4] at H
      have c4b0 : decide (((rd_T60 l0 0).f0) ≤ a1) = false := decide_eq_false c4
      clear c4
      obtain rfl := Option.some.inj H
      have p433 : 0 ≤ (0 : Int) := (by omega)
      have q433 : 0 < (l0.length : Int) := of_decide_eq_true (by first | (with_reducible assumption) | assumption)
      obtain ⟨ad433, e433, hx433_0, hx433_1⟩ := at_T60 HR0.out 0 p433 q433
      cases e433
      have qi433 : (0 < l0.length) = True := eq_true (by omega)
      (try rw [show ((0 : Int)).toNat = 0 from rfl] at hx433_0)
      (try rw [show 0 * 2 = 0 from rfl] at hx433_0)
      (try rw [Addr.add_zero'] at hx433_0)
      (try rw [show ((0 : Int)).toNat = 0 from rfl] at hx433_1)
      (try rw [show 0 * 2 = 0 from rfl] at hx433_1)
      (try rw [Addr.add_zero'] at hx433_1)
      replace p433 := eq_true p433
      replace q433 := eq_true q433
      go_enter Try.func142, Try.ntmps142
      go_wp2
      go_ret
      exact ⟨by first | rfl | (simp; done) | (simp [*]; done), by repeat (first | exact Drawn0.refl _ | apply Drawn0.step)⟩
  · rw [if_neg c3] at H
    exact absurd H (by simp)
def curve_line_has.f (a0_0 : Int) (a0_1 : Int) (a0_2 : Int) (a0_3 : Int) (a1 : Int) : Option (Bool) := if a1 ≥ a0_0 then (some (decide (a1 ≤ a0_2))) else (some false)
set_option maxHeartbeats 8000000 in
set_option maxRecDepth 100000 in
theorem curve_line_has.calls (a0_0 : Int) (a0_1 : Int) (a0_2 : Int) (a0_3 : Int) (a1 : Int) (r : Bool) (w : World) (h : curve_line_has.f a0_0 a0_1 a0_2 a0_3 a1 = some r) :
    Calls Try.prog 149 #[.agg #[.int .i64 a0_0, .int .i64 a0_1, .int .i64 a0_2, .int .i64 a0_3], .int .i64 a1] w fun e w' => e = .returned (.bool r) ∧ Below w.heap.size w w' := by
  have hu129 := Try.underlying129
  have HB := Aside0.mk (Below.refl w.heap.size w)
  have H : (if a1 ≥ a0_0 then (some (decide (a1 ≤ a0_2))) else (some false)) = some r := h
  clear h
  by_cases c3 : a1 ≥ a0_0
  · rw [if_pos c3] at H
    have c3b0 : decide (a0_0 ≤ a1) = true := decide_eq_true c3
    clear c3
    obtain rfl := Option.some.inj H
    go_enter Try.func149, Try.ntmps149
    go_wp2_with (first | ((with_reducible refine gate_dst (N := 2) rfl ?_); refine box_event ?hg (N := 2) ?hd (cs := #[.int .i64 a0_0, .int .i64 a0_1, .int .i64 a0_2, .int .i64 a0_3]) (t := 129) ?hr ?_; (case hd => rfl); (case hg => rfl); (case hr => first | (go_simp; done) | (go_simp; rfl)); intro gb435 hg w4 hbox hb; have n0_ := Aside0.mk (below_step (by repeat (first | (with_reducible first | exact HB.out | apply below_alloc | apply pw_below_drewN | apply below_drew1) | exact HB.out)) hb); have n1_ := Aside0.mk (hbox); have n2_ := Aside0.mk ((by rw [hg]; exact (below_size (by repeat (first | (with_reducible first | exact HB.out | apply below_alloc | apply pw_below_drewN | apply below_drew1) | exact HB.out))) : w.heap.size ≤ gb435)); have n3_ := Aside0.mk ((by rw [hg]; exact (below_size (by repeat (first | (with_reducible first | exact HB.out | apply below_alloc | apply pw_below_drewN | apply below_drew1) | exact HB.out))) : w.heap.size ≤ gb435)); clear HB; have HB := n0_; have BK435 := n1_; have GW435 := n2_; have GE435 := n3_; clear n0_ n1_ n2_ n3_; clear hb hbox hg; have hcz5_0 : w4.cell? ⟨gb435, 0, none⟩ = some (.int .i64 a0_0) := (blk_cell BK435.out 0).trans rfl; have hcz5_1 : w4.cell? ⟨gb435, 1, none⟩ = some (.int .i64 a0_1) := (blk_cell BK435.out 1).trans rfl; have hcz5_2 : w4.cell? ⟨gb435, 2, none⟩ = some (.int .i64 a0_2) := (blk_cell BK435.out 2).trans rfl; have hcz5_3 : w4.cell? ⟨gb435, 3, none⟩ = some (.int .i64 a0_3) := (blk_cell BK435.out 3).trans rfl; have hfz5_0 := blk_frozen BK435.out 0; have hfz5_1 := blk_frozen BK435.out 1; have hfz5_2 := blk_frozen BK435.out 2; have hfz5_3 := blk_frozen BK435.out 3))
    go_ret
    exact ⟨by first | rfl | (simp [errW_none, errW_some] <;> rfl) | (simp [*, errW_none, errW_some] <;> rfl), by repeat (first | (with_reducible first | exact HB.out | apply below_alloc | apply pw_below_drewN | apply below_drew1 | refine below_set ?_ GE435.out) | exact HB.out)⟩
  · rw [if_neg c3] at H
    have c3b0 : decide (a0_0 ≤ a1) = false := decide_eq_false c3
    clear c3
    obtain rfl := Option.some.inj H
    go_enter Try.func149, Try.ntmps149
    go_wp2_with (first | ((with_reducible refine gate_dst (N := 2) rfl ?_); refine box_event ?hg (N := 2) ?hd (cs := #[.int .i64 a0_0, .int .i64 a0_1, .int .i64 a0_2, .int .i64 a0_3]) (t := 129) ?hr ?_; (case hd => rfl); (case hg => rfl); (case hr => first | (go_simp; done) | (go_simp; rfl)); intro gb435 hg w6 hbox hb; have n0_ := Aside0.mk (below_step (by repeat (first | (with_reducible first | exact HB.out | apply below_alloc | apply pw_below_drewN | apply below_drew1) | exact HB.out)) hb); have n1_ := Aside0.mk (hbox); have n2_ := Aside0.mk ((by rw [hg]; exact (below_size (by repeat (first | (with_reducible first | exact HB.out | apply below_alloc | apply pw_below_drewN | apply below_drew1) | exact HB.out))) : w.heap.size ≤ gb435)); have n3_ := Aside0.mk ((by rw [hg]; exact (below_size (by repeat (first | (with_reducible first | exact HB.out | apply below_alloc | apply pw_below_drewN | apply below_drew1) | exact HB.out))) : w.heap.size ≤ gb435)); clear HB; have HB := n0_; have BK435 := n1_; have GW435 := n2_; have GE435 := n3_; clear n0_ n1_ n2_ n3_; clear hb hbox hg; have hcz7_0 : w6.cell? ⟨gb435, 0, none⟩ = some (.int .i64 a0_0) := (blk_cell BK435.out 0).trans rfl; have hcz7_1 : w6.cell? ⟨gb435, 1, none⟩ = some (.int .i64 a0_1) := (blk_cell BK435.out 1).trans rfl; have hcz7_2 : w6.cell? ⟨gb435, 2, none⟩ = some (.int .i64 a0_2) := (blk_cell BK435.out 2).trans rfl; have hcz7_3 : w6.cell? ⟨gb435, 3, none⟩ = some (.int .i64 a0_3) := (blk_cell BK435.out 3).trans rfl; have hfz7_0 := blk_frozen BK435.out 0; have hfz7_1 := blk_frozen BK435.out 1; have hfz7_2 := blk_frozen BK435.out 2; have hfz7_3 := blk_frozen BK435.out 3))
    go_ret
    exact ⟨by first | rfl | (simp [errW_none, errW_some] <;> rfl) | (simp [*, errW_none, errW_some] <;> rfl), by repeat (first | (with_reducible first | exact HB.out | apply below_alloc | apply pw_below_drewN | apply below_drew1 | refine below_set ?_ GE435.out) | exact HB.out)⟩
def curve_line_wide.f (a0_0 : Int) (a0_1 : Int) (a0_2 : Int) (a0_3 : Int) : Option (Int) := some (wrap64 (a0_2 - a0_0))
set_option maxHeartbeats 8000000 in
set_option maxRecDepth 100000 in
theorem curve_line_wide.calls (a0_0 : Int) (a0_1 : Int) (a0_2 : Int) (a0_3 : Int) (r : Int) (w : World) (h : curve_line_wide.f a0_0 a0_1 a0_2 a0_3 = some r) :
    Calls Try.prog 145 #[.agg #[.int .i64 a0_0, .int .i64 a0_1, .int .i64 a0_2, .int .i64 a0_3]] w fun e w' => e = .returned (.int .i64 r) ∧ Below w.heap.size w w' := by
  have hu129 := Try.underlying129
  have HB := Aside0.mk (Below.refl w.heap.size w)
  have H : (some (wrap64 (a0_2 - a0_0))) = some r := h
  clear h
  obtain rfl := Option.some.inj H
  go_enter Try.func145, Try.ntmps145
  go_wp2_with (first | ((with_reducible refine gate_dst (N := 1) rfl ?_); refine box_event ?hg (N := 1) ?hd (cs := #[.int .i64 a0_0, .int .i64 a0_1, .int .i64 a0_2, .int .i64 a0_3]) (t := 129) ?hr ?_; (case hd => rfl); (case hg => rfl); (case hr => first | (go_simp; done) | (go_simp; rfl)); intro gb438 hg w2 hbox hb; have n0_ := Aside0.mk (below_step (by repeat (first | (with_reducible first | exact HB.out | apply below_alloc | apply pw_below_drewN | apply below_drew1) | exact HB.out)) hb); have n1_ := Aside0.mk (hbox); have n2_ := Aside0.mk ((by rw [hg]; exact (below_size (by repeat (first | (with_reducible first | exact HB.out | apply below_alloc | apply pw_below_drewN | apply below_drew1) | exact HB.out))) : w.heap.size ≤ gb438)); have n3_ := Aside0.mk ((by rw [hg]; exact (below_size (by repeat (first | (with_reducible first | exact HB.out | apply below_alloc | apply pw_below_drewN | apply below_drew1) | exact HB.out))) : w.heap.size ≤ gb438)); clear HB; have HB := n0_; have BK438 := n1_; have GW438 := n2_; have GE438 := n3_; clear n0_ n1_ n2_ n3_; clear hb hbox hg; have hcz3_0 : w2.cell? ⟨gb438, 0, none⟩ = some (.int .i64 a0_0) := (blk_cell BK438.out 0).trans rfl; have hcz3_1 : w2.cell? ⟨gb438, 1, none⟩ = some (.int .i64 a0_1) := (blk_cell BK438.out 1).trans rfl; have hcz3_2 : w2.cell? ⟨gb438, 2, none⟩ = some (.int .i64 a0_2) := (blk_cell BK438.out 2).trans rfl; have hcz3_3 : w2.cell? ⟨gb438, 3, none⟩ = some (.int .i64 a0_3) := (blk_cell BK438.out 3).trans rfl; have hfz3_0 := blk_frozen BK438.out 0; have hfz3_1 := blk_frozen BK438.out 1; have hfz3_2 := blk_frozen BK438.out 2; have hfz3_3 := blk_frozen BK438.out 3))
  go_ret
  exact ⟨by first | rfl | (simp [errW_none, errW_some] <;> rfl) | (simp [*, errW_none, errW_some] <;> rfl), by repeat (first | (with_reducible first | exact HB.out | apply below_alloc | apply pw_below_drewN | apply below_drew1 | refine below_set ?_ GE438.out) | exact HB.out)⟩
def curve_line_high.f (a0_0 : Int) (a0_1 : Int) (a0_2 : Int) (a0_3 : Int) : Option (Int) := some (wrap64 (a0_3 - a0_1))
set_option maxHeartbeats 8000000 in
set_option maxRecDepth 100000 in
theorem curve_line_high.calls (a0_0 : Int) (a0_1 : Int) (a0_2 : Int) (a0_3 : Int) (r : Int) (w : World) (h : curve_line_high.f a0_0 a0_1 a0_2 a0_3 = some r) :
    Calls Try.prog 150 #[.agg #[.int .i64 a0_0, .int .i64 a0_1, .int .i64 a0_2, .int .i64 a0_3]] w fun e w' => e = .returned (.int .i64 r) ∧ Below w.heap.size w w' := by
  have hu129 := Try.underlying129
  have HB := Aside0.mk (Below.refl w.heap.size w)
  have H : (some (wrap64 (a0_3 - a0_1))) = some r := h
  clear h
  obtain rfl := Option.some.inj H
  go_enter Try.func150, Try.ntmps150
  go_wp2_with (first | ((with_reducible refine gate_dst (N := 1) rfl ?_); refine box_event ?hg (N := 1) ?hd (cs := #[.int .i64 a0_0, .int .i64 a0_1, .int .i64 a0_2, .int .i64 a0_3]) (t := 129) ?hr ?_; (case hd => rfl); (case hg => rfl); (case hr => first | (go_simp; done) | (go_simp; rfl)); intro gb439 hg w2 hbox hb; have n0_ := Aside0.mk (below_step (by repeat (first | (with_reducible first | exact HB.out | apply below_alloc | apply pw_below_drewN | apply below_drew1) | exact HB.out)) hb); have n1_ := Aside0.mk (hbox); have n2_ := Aside0.mk ((by rw [hg]; exact (below_size (by repeat (first | (with_reducible first | exact HB.out | apply below_alloc | apply pw_below_drewN | apply below_drew1) | exact HB.out))) : w.heap.size ≤ gb439)); have n3_ := Aside0.mk ((by rw [hg]; exact (below_size (by repeat (first | (with_reducible first | exact HB.out | apply below_alloc | apply pw_below_drewN | apply below_drew1) | exact HB.out))) : w.heap.size ≤ gb439)); clear HB; have HB := n0_; have BK439 := n1_; have GW439 := n2_; have GE439 := n3_; clear n0_ n1_ n2_ n3_; clear hb hbox hg; have hcz3_0 : w2.cell? ⟨gb439, 0, none⟩ = some (.int .i64 a0_0) := (blk_cell BK439.out 0).trans rfl; have hcz3_1 : w2.cell? ⟨gb439, 1, none⟩ = some (.int .i64 a0_1) := (blk_cell BK439.out 1).trans rfl; have hcz3_2 : w2.cell? ⟨gb439, 2, none⟩ = some (.int .i64 a0_2) := (blk_cell BK439.out 2).trans rfl; have hcz3_3 : w2.cell? ⟨gb439, 3, none⟩ = some (.int .i64 a0_3) := (blk_cell BK439.out 3).trans rfl; have hfz3_0 := blk_frozen BK439.out 0; have hfz3_1 := blk_frozen BK439.out 1; have hfz3_2 := blk_frozen BK439.out 2; have hfz3_3 := blk_frozen BK439.out 3))
  go_ret
  exact ⟨by first | rfl | (simp [errW_none, errW_some] <;> rfl) | (simp [*, errW_none, errW_some] <;> rfl), by repeat (first | (with_reducible first | exact HB.out | apply below_alloc | apply pw_below_drewN | apply below_drew1 | refine below_set ?_ GE439.out) | exact HB.out)⟩
def curve_line_over.f (a0_0 : Int) (a0_1 : Int) (a0_2 : Int) (a0_3 : Int) (a1 : Int) : Option (Int) := (curve_line_high.f a0_0 a0_1 a0_2 a0_3).bind fun t441 => (some (wrap64 ((wrap64 (a1 - a0_0)) * t441)))
def curve_line_over.T1 : Bool × List (List Nat × List Nat) := (true, [([], []), ([], []), ([1], [1]), ([2], [2]), ([0, 3], [0, 3]), ([], []), ([5], [5]), ([4, 6], [4, 6]), ([7, 6, 0, 1, 2, 3, 4, 5, 6, 7], [7])])
def curve_line_over.B1 : List Nat := [0, 0, 2, 6, 15, 0, 32, 127, 255]
theorem curve_line_over.tab1 : rtab .any (opsOf Try.f146 1) = curve_line_over.T1 := by kernel_rfl
theorem curve_line_over.bits1 : waitsOk curve_line_over.T1.2 curve_line_over.B1 = true := by kernel_rfl
set_option maxHeartbeats 8000000 in
set_option maxRecDepth 100000 in
theorem curve_line_over.calls (a0_0 : Int) (a0_1 : Int) (a0_2 : Int) (a0_3 : Int) (a1 : Int) (r : Int) (w : World) (h : curve_line_over.f a0_0 a0_1 a0_2 a0_3 a1 = some r) :
    Calls Try.prog 146 #[.agg #[.int .i64 a0_0, .int .i64 a0_1, .int .i64 a0_2, .int .i64 a0_3], .int .i64 a1] w fun e w' => e = .returned (.int .i64 r) ∧ Below w.heap.size w w' := by
  have hu129 := Try.underlying129
  have HB := Aside0.mk (Below.refl w.heap.size w)
  have H : ((curve_line_high.f a0_0 a0_1 a0_2 a0_3).bind fun t441 => (some (wrap64 ((wrap64 (a1 - a0_0)) * t441)))) = some r := h
  clear h
  replace H := Option.bind_eq_some_iff.mp H
  obtain ⟨t441, A30, H⟩ := H
  replace H : (some (wrap64 ((wrap64 (a1 - a0_0)) * t441))) = some r := H
  have A3 := Aside0.mk A30
  clear A30
  obtain rfl := Option.some.inj H
  go_enter Try.func146, Try.ntmps146
  try go_wp2_with (first | ((with_reducible refine gate_dst (N := 2) rfl ?_); refine box_event ?hg (N := 2) ?hd (cs := #[.int .i64 a0_0, .int .i64 a0_1, .int .i64 a0_2, .int .i64 a0_3]) (t := 129) ?hr ?_; (case hd => rfl); (case hg => rfl); (case hr => first | (go_simp; done) | (go_simp; rfl)); intro gb440 hg w4 hbox hb; have n0_ := Aside0.mk (below_step (by repeat (first | (with_reducible first | exact HB.out | apply below_alloc | apply pw_below_drewN | apply below_drew1) | exact HB.out)) hb); have n1_ := Aside0.mk (hbox); have n2_ := Aside0.mk ((by rw [hg]; exact (below_size (by repeat (first | (with_reducible first | exact HB.out | apply below_alloc | apply pw_below_drewN | apply below_drew1) | exact HB.out))) : w.heap.size ≤ gb440)); have n3_ := Aside0.mk ((by rw [hg]; exact (below_size (by repeat (first | (with_reducible first | exact HB.out | apply below_alloc | apply pw_below_drewN | apply below_drew1) | exact HB.out))) : w.heap.size ≤ gb440)); clear HB; have HB := n0_; have BK440 := n1_; have GW440 := n2_; have GE440 := n3_; clear n0_ n1_ n2_ n3_; clear hb hbox hg))
  have n0_ := Aside0.mk (blk_drew BK440.out)
  have n1_ := Aside0.mk (below_drew1 HB.out)
  clear BK440
  clear HB
  have BK440 := n0_
  have HB := n1_
  clear n0_ n1_
  refine start_ (n := 9) (S := fun w' => w'.cell? ⟨gb440, 0, none⟩ = some (.int .i64 a0_0) ∧ w'.cell? ⟨gb440, 1, none⟩ = some (.int .i64 a0_1) ∧ w'.cell? ⟨gb440, 2, none⟩ = some (.int .i64 a0_2) ∧ w'.cell? ⟨gb440, 3, none⟩ = some (.int .i64 a0_3)) (ds := []) #[false, false, false, false, false, false, false, false, false] (by kernel_rfl) rfl rfl ⟨(blk_cell BK440.out 0).trans rfl, (blk_cell BK440.out 1).trans rfl, (blk_cell BK440.out 2).trans rfl, (blk_cell BK440.out 3).trans rfl⟩ (fun hHeld => ?_); refine with_tabW curve_line_over.tab1 curve_line_over.bits1 (fun HT_ HW_ => ?_)
  generalize w4.drew = w5 at BK440 HB hHeld ⊢
  refine pure_ (i := 0) (N := some 5) (v := ?_) (a' := ?_) #[true, false, false, false, false, false, false, false, false] rfl rfl (any_of HT_.out (by kernel_rfl)) (fun _ _ _ h => h) (Or.inl ⟨by rfl, ?_⟩) ?_ ?_
  rotate_left
  · intro w'
    go_simp
    with_reducible rfl
  rotate_left
  · simp only [Act.put, List.setIfInBounds_toArray, List.set_cons_zero, List.set_cons_succ, i64_w, i32_w]
    rfl
  refine pure_ (i := 1) (N := some 6) (v := ?_) (a' := ?_) #[true, true, false, false, false, false, false, false, false] rfl rfl (any_of HT_.out (by kernel_rfl)) (fun _ _ _ h => h) (Or.inl ⟨by rfl, ?_⟩) ?_ ?_
  rotate_left
  · intro w'
    go_simp
    with_reducible rfl
  rotate_left
  · simp only [Act.put, List.setIfInBounds_toArray, List.set_cons_zero, List.set_cons_succ, i64_w, i32_w]
    rfl
  refine pure_ (i := 2) (N := some 7) (v := ?_) (a' := ?_) #[true, true, true, false, false, false, false, false, false] rfl rfl (any_of HT_.out (by kernel_rfl)) (fun _ _ _ h => h) (Or.inl ⟨by rfl, ?_⟩) ?_ ?_
  rotate_left
  · intro w'
    go_simp
    with_reducible rfl
  rotate_left
  · simp only [Act.put, List.setIfInBounds_toArray, List.set_cons_zero, List.set_cons_succ, i64_w, i32_w]
    rfl
  refine take_ (i := 3) (N := some 8) (v := ?_) (a' := ?_) #[true, true, true, true, false, false, false, false, false] rfl rfl (take_ofW HT_.out HW_.out (by kernel_rfl)) (fun _ _ _ h => h) (Or.inl ⟨by rfl, ?_⟩) hHeld ?_ ?_
  rotate_left
  · rintro w' ⟨s0, s1, s2, s3⟩
    go_simp
    with_reducible rfl
  rotate_left
  · simp only [Act.put, List.setIfInBounds_toArray, List.set_cons_zero, List.set_cons_succ, i64_w, i32_w]
    rfl
  refine pure_ (i := 4) (N := some 9) (v := ?_) (a' := ?_) #[true, true, true, true, true, false, false, false, false] rfl rfl (any_of HT_.out (by kernel_rfl)) (fun _ _ _ h => h) (Or.inl ⟨by rfl, ?_⟩) ?_ ?_
  rotate_left
  · intro w'
    go_simp
    with_reducible rfl
  rotate_left
  · simp only [Act.put, List.setIfInBounds_toArray, List.set_cons_zero, List.set_cons_succ, i64_w, i32_w]
    rfl
  refine take_ (i := 5) (N := some 10) (v := ?_) (a' := ?_) #[true, true, true, true, true, true, false, false, false] rfl rfl (take_ofW HT_.out HW_.out (by kernel_rfl)) (fun _ _ _ h => h) (Or.inl ⟨by rfl, ?_⟩) hHeld ?_ ?_
  rotate_left
  · rintro w' ⟨s0, s1, s2, s3⟩
    go_simp
    with_reducible rfl
  rotate_left
  · simp only [Act.put, List.setIfInBounds_toArray, List.set_cons_zero, List.set_cons_succ, i64_w, i32_w]
    rfl
  refine one_ (i := 6) (N := some 11) #[true, true, true, true, true, true, true, false, false] rfl rfl (one_of HT_.out (by kernel_rfl)) (by decide) (fun K hK => ?_)
  refine goes_ Try.func150 (by kernel_rfl) rfl #[.agg #[.int .i64 a0_0, .int .i64 a0_1, .int .i64 a0_2, .int .i64 a0_3]] (by rfl) rfl rfl (by (try simp only [List.map_toArray, List.map_cons, List.map_nil]); first | done | rfl | (simp only [List.length_drop, List.length_take]; rfl)) ?_
  with_reducible refine (curve_line_high.calls a0_0 a0_1 a0_2 a0_3 t441 _ A3.out).mono ?_
  rintro e w6 ⟨rfl, hb⟩
  refine ⟨_, rfl, ?_⟩
  have n0_ := Aside0.mk (blk_below (g := gb440) (o := .cells #[.int .i64 a0_0, .int .i64 a0_1, .int .i64 a0_2, .int .i64 a0_3] 129 (0, 0)) (by (with_reducible repeat (first | refine blk_drewN ?_ _ | refine blk_drew ?_ | refine blk_alloc ?_ _)); exact BK440.out) hb)
  have n1_ := Aside0.mk (below_step (by repeat (first | (with_reducible first | exact HB.out | apply below_alloc | apply pw_below_drewN | apply below_drew1 | refine below_set ?_ GE440.out) | exact HB.out)) hb)
  clear BK440
  clear HB
  have BK440 := n0_
  have HB := n1_
  clear n0_ n1_
  (try clear hb)
  (try clear hb2)
  (try clear hk)
  (try clear hi)
  refine hK.out _ _ ⟨(blk_cell BK440.out 0).trans rfl, (blk_cell BK440.out 1).trans rfl, (blk_cell BK440.out 2).trans rfl, (blk_cell BK440.out 3).trans rfl⟩ (fun hHeld => ?_)
  clear hK K
  refine norm_ (a' := ?_) ?_ ?_
  rotate_left
  · show Act.put _ (some 11) _ = _
    simp only [Act.put, List.setIfInBounds_toArray, List.set_cons_zero, List.set_cons_succ, i64_w, i32_w]
    rfl
  refine pure_ (i := 7) (N := some 12) (v := ?_) (a' := ?_) #[true, true, true, true, true, true, true, true, false] rfl rfl (any_of HT_.out (by kernel_rfl)) (fun _ _ _ h => h) (Or.inl ⟨by rfl, ?_⟩) ?_ ?_
  rotate_left
  · intro w'
    go_simp
    with_reducible rfl
  rotate_left
  · simp only [Act.put, List.setIfInBounds_toArray, List.set_cons_zero, List.set_cons_succ, i64_w, i32_w]
    rfl
  refine pure_ (i := 8) (N := some 4) (v := ?_) (a' := ?_) #[true, true, true, true, true, true, true, true, true] rfl rfl (any_of HT_.out (by kernel_rfl)) (fun _ _ _ h => h) (Or.inl ⟨by rfl, ?_⟩) ?_ ?_
  rotate_left
  · intro w'
    go_simp
    with_reducible rfl
  rotate_left
  · simp only [Act.put, List.setIfInBounds_toArray, List.set_cons_zero, List.set_cons_succ, i64_w, i32_w]
    rfl
  refine done_ (done_of HT_.out (by kernel_rfl)) ?_
  try go_wp2
  go_ret
  exact ⟨by first | rfl | (simp [errW_none, errW_some] <;> rfl) | (simp [*, errW_none, errW_some] <;> rfl), by repeat (first | (with_reducible first | exact HB.out | apply below_alloc | apply pw_below_drewN | apply below_drew1 | refine below_set ?_ GE440.out) | exact HB.out)⟩
end Go.Proofs.Ytlhfclpbodfmcaa.Pr
namespace Go.Proofs.Ytlhfclpbodfmcaa.Pr
open Go.RowKit Go.Shelf Go.Proofs.YtlhfclpbodfmcaaW.PrintWords Go.Proofs.YtlhfclpbodfmcaaW.PrintLast Go.Proofs.YtlhfclpbodfmcaaW.PrintMore
open Go.Proofs.Ytlhfclpbodfmcaa.Vm
set_option linter.unusedVariables false
set_option linter.unusedSimpArgs false
attribute [local go_sem] Oper.semAt_some
def hasB (x : Int) (y : S60 × S60) : Bool := decide (y.1.f0 ≤ x) && decide (x ≤ y.2.f0)
def firstL (l : List S60) (x : Int) : S60 × S60 := ((upto (lineAt l) (l.length - 1)).find? (hasB x)).getD (z60, z60)
def LVc (y : S60 × S60) : Array Value := #[.int .i64 y.1.f0, .int .i64 y.1.f1, .int .i64 y.2.f0, .int .i64 y.2.f1]
theorem has_eq (x : Int) (y : S60 × S60) : curve_line_has.f y.1.f0 y.1.f1 y.2.f0 y.2.f1 x = some (hasB x y) := by
  unfold curve_line_has.f hasB
  by_cases h : y.1.f0 ≤ x
  · rw [if_pos h, decide_eq_true h]; rfl
  · rw [if_neg h, decide_eq_false h]; rfl
theorem upto_prefix {α : Type} (f : Nat → α) {k n : Nat} (h : k ≤ n) : ∃ t, upto f n = upto f k ++ t := by
  refine ⟨((List.range n).drop k).map f, ?_⟩
  have e : List.range k = (List.range n).take k := by rw [List.take_range, Nat.min_eq_left h]
  unfold upto
  rw [e, ← List.map_append, List.take_append_drop]
theorem first_found {l : List S60} {x : Int} {p : List (S60 × S60)} {y : S60 × S60} {k : Nat} (hk : k ≤ l.length - 1) (e : p ++ [y] = upto (lineAt l) k) (hp : p.all (fun z => !hasB x z) = true) (hy : hasB x y = true) : firstL l x = y := by
  obtain ⟨t, ht⟩ := upto_prefix (lineAt l) hk
  unfold firstL
  rw [ht, ← e, List.find?_append, List.find?_append]
  have : p.find? (hasB x) = none := List.find?_eq_none.2 fun z hz => by
    have := List.all_eq_true.1 hp z hz
    simpa using this
  rw [this]
  simp [hy]
theorem first_none {l : List S60} {x : Int} (hp : (upto (lineAt l) (l.length - 1)).all (fun z => !hasB x z) = true) : firstL l x = (z60, z60) := by
  unfold firstL
  have : (upto (lineAt l) (l.length - 1)).find? (hasB x) = none := List.find?_eq_none.2 fun z hz => by
    have := List.all_eq_true.1 hp z hz
    simpa using this
  rw [this]; rfl
theorem keeps_below {W W' : World} (h : Below W.heap.size W W') : KeepsOthers W W' := ⟨h.size, fun b o hb _ => (h.block b (Array.getElem?_eq_some_iff.1 hb).1).trans hb⟩
/-- Four cells are set. -/
def set4 (W : World) (g : Nat) (a b c d : Value) : World := (((W.setCell ⟨g, 0, none⟩ a).setCell ⟨g, 1, none⟩ b).setCell ⟨g, 2, none⟩ c).setCell ⟨g, 3, none⟩ d
theorem set4_keeps (W : World) (g : Nat) (a b c d : Value) : KeepsOthers W (set4 W g a b c d) := (((KeepsOthers.setCell _ _ _).trans (KeepsOthers.setCell _ _ _)).trans (KeepsOthers.setCell _ _ _)).trans (KeepsOthers.setCell _ _ _)
theorem set4_block {W : World} {g t : Nat} {p q r s a b c d : Value} (h : W.heap[g]? = some (.cells #[p, q, r, s] t (0, 0))) : (set4 W g a b c d).heap[g]? = some (.cells #[a, b, c, d] t (0, 0)) :=
  blk_put (blk_put (blk_put (blk_put h 0 a rfl) 1 b rfl) 2 c rfl) 3 d rfl
theorem set4_below {n : Nat} {w W : World} {g : Nat} {a b c d : Value} (h : Below n w W) (hg : n ≤ g) : Below n w (set4 W g a b c d) := (((h.setCell (p := ⟨g, 0, none⟩) hg a).setCell (p := ⟨g, 1, none⟩) hg b).setCell (p := ⟨g, 2, none⟩) hg c).setCell (p := ⟨g, 3, none⟩) hg d
set_option maxRecDepth 100000 in
set_option maxHeartbeats 4000000 in
theorem curve_at.run (A0 : Option Addr) (c0 : Nat) (l0 : List S60) (x0 : Int) (w : World) (hr0 : Kd.C k60 w A0 l0.length l0) (h2 : 2 ≤ l0.length) (h64 : l0.length ≤ 64) :
    Calls Try.prog 143 #[.slice A0 l0.length c0, .int .i64 x0] w fun e w' => e = .returned (.agg (LVc (firstL l0 x0))) ∧ Below w.heap.size w w' := by
  have hu60 := Try.underlying60
  have hu129 := Try.underlying129
  obtain ⟨ad, rfl, hx, _⟩ := at_T60 hr0 0 (by omega) (by omega)
  have hblk : ad.block < w.heap.size := cell_lt hx
  clear hx
  have CL : ∀ (y : S60 × S60) W, Calls Try.prog 149 #[.agg #[.int .i64 y.1.f0, .int .i64 y.1.f1, .int .i64 y.2.f0, .int .i64 y.2.f1], .int .i64 x0] W fun e w' => e = .returned (.bool (hasB x0 y)) ∧ Below W.heap.size W w' := fun y W => curve_line_has.calls _ _ _ _ _ _ W (has_eq x0 y)
  have H0 : ∀ ys, ys = upto (lineAt l0) (l0.length - 1) → ys.all (fun z => !hasB x0 z) = true → firstL l0 x0 = (z60, z60) := fun ys e h => first_none (by rw [← e]; exact h)
  have H1 : ∀ k p y, k ≤ l0.length - 1 → p ++ [y] = upto (lineAt l0) k → p.all (fun z => !hasB x0 z) = true → hasB x0 y = true → firstL l0 x0 = y := fun k p y a b c d => first_found a b c d
  generalize firstL l0 x0 = FF at H0 H1 ⊢
  rw [← callsIn_wide (n := 9)]
  refine callsIn_of_wp_marks Try.func143 rfl trivial ?_ rfl
  simp only [Try.ntmps143, List.size_toArray, List.length_cons, List.length_nil, Nat.reduceAdd, Nat.reduceSub, Array.replicate_succ, Array.replicate_zero, List.push_toArray, List.append_toArray, List.nil_append, List.cons_append]
  gi_wp2_with (first | (refine ⟨trivial, ?_⟩; gi_at_call 110; refine (curve_lines.calls _ _ _ _).mono ?_; rintro e w2 ⟨rfl, rfl⟩))
  have bX1 := blk_new w (.cells #[.int .i64 x0] 3 (0, 0))
  have ab1 : Below (w.alloc (.cells #[.int .i64 x0] 3 (0, 0))).heap.size (w.alloc (.cells #[.int .i64 x0] 3 (0, 0))) _ := below_alloc (Below.refl _ _) (.cells #[.int .i64 0, .int .i64 0, .int .i64 0, .int .i64 0] 129 (0, 0))
  have bZ1 := blk_new (w.alloc (.cells #[.int .i64 x0] 3 (0, 0))) (.cells #[.int .i64 0, .int .i64 0, .int .i64 0, .int .i64 0] 129 (0, 0))
  obtain ⟨Wa, hWa⟩ : ∃ Wa, (w.alloc (.cells #[.int .i64 x0] 3 (0, 0))).alloc (.cells #[.int .i64 0, .int .i64 0, .int .i64 0, .int .i64 0] 129 (0, 0)) = Wa := ⟨_, rfl⟩
  have hBa : Below w.heap.size w Wa := by rw [← hWa]; exact below_alloc (below_alloc (Below.refl _ _) _) _
  have hsa : Wa.heap.size = w.heap.size + 2 := by rw [← hWa]; simp
  rw [hWa] at ab1 bZ1
  have bX2 := blk_below bX1 ab1
  rw [World.size_alloc] at bZ1
  have bN := Boxed.new Wa 37 (.slice (some ad) l0.length c0)
  have abN : Below Wa.heap.size Wa _ := below_alloc (Below.refl _ _) (.cells #[.slice (some ad) l0.length c0] 37 (0, 0))
  have bX3 := blk_below bX2 abN
  have bZ3 := blk_below bZ1 abN
  have hB0 : Below w.heap.size w (Wa.alloc (.cells #[.slice (some ad) l0.length c0] 37)) := hBa.alloc hBa.size _
  rw [hWa]
  rw [hsa] at bN
  obtain ⟨W0, hW0⟩ : ∃ W0, Wa.alloc (.cells #[.slice (some ad) l0.length c0] 37) = W0 := ⟨_, rfl⟩
  have hsz0 : W0.heap.size = w.heap.size + 3 := by rw [← hW0]; simp [hsa]
  have bX : W0.heap[w.heap.size]? = some (.cells #[.int .i64 x0] 3 (0, 0)) := by rw [← hW0]; exact bX3
  have bZ : W0.heap[w.heap.size + 1]? = some (.cells #[.int .i64 0, .int .i64 0, .int .i64 0, .int .i64 0] 129 (0, 0)) := by rw [← hW0]; exact bZ3
  rw [hW0] at bN hB0 ⊢
  clear hW0 hWa bX1 ab1 bZ1 bX2 abN bX3 bZ3 hBa hsa
  refine wpIn_rangeFunc_ownH rfl (by omega) (gf := 141) (lb := #[.pointer (some ⟨w.heap.size + 1 + 1, 0, none⟩)]) rfl trivial (enters_of Try.func141 (by kernel_rfl) rfl)
    (curve_lines.stops (w.heap.size + 1 + 1) c0 ad l0 (by omega) w W0 hr0 hB0 hblk bN.cell (by omega)) belowK_t (belowK_b (by omega)) (Below.refl _ _) (fun _ => rfl)
    (fun pre W => (pre.all (fun z => !hasB x0 z) = true ∧ W.heap[w.heap.size]? = some (.cells #[.int .i64 x0] 3 (0, 0)) ∧ W.heap[w.heap.size + 1]? = some (.cells #[.int .i64 0, .int .i64 0, .int .i64 0, .int .i64 0] 129 (0, 0))) ∧ (Below w.heap.size w W ∧ W0.heap.size ≤ W.heap.size))
    (fun c pre W => (c = .ret ∧ ∃ p y, pre = p ++ [y] ∧ p.all (fun z => !hasB x0 z) = true ∧ hasB x0 y = true ∧ W.heap[w.heap.size + 1]? = some (.cells (LVc y) 129 (0, 0))) ∧ Below w.heap.size w W)
    (OwnFrom.and (Own.from (fun s A B row hs hg hr => ⟨hs.1, heap_kept hs.2.1 rfl hg hr, heap_kept hs.2.2 rfl hg hr⟩) _) (OwnFrom.and (ownFrom_below (Nat.le_refl _) (by omega)) (fun s A B row hs hg hr => Nat.le_trans hs hg.size)))
    (fun c => OwnFrom.and (Own.from (fun s A B row hs hg hr => by obtain ⟨h1, p, y, h2, h3, h4, h5⟩ := hs; exact ⟨h1, p, y, h2, h3, h4, heap_kept h5 rfl hg hr⟩) _) (ownFrom_below (Nat.le_refl _) (by omega)))
    ⟨⟨rfl, bX, bZ⟩, hB0, Nat.le_refl _⟩
    (fun y a' W => ∃ Bx, W0.heap.size ≤ Bx ∧ W.heap[Bx]? = some (.cells #[.int .i64 y.1.f0, .int .i64 y.1.f1, .int .i64 y.2.f0, .int .i64 y.2.f1] 129 (0, 0)) ∧ a' = { tmps := #[.slice (some ad) l0.length c0, .int .i64 x0, undef, .pointer (some ⟨w.heap.size, 0, none⟩), .pointer (some ⟨w.heap.size + 1, 0, none⟩), .pointer (some ⟨Bx, 0, none⟩), .slice (some ad) l0.length c0, .func (.func 141) #[] #[.pointer (some ⟨w.heap.size + 1 + 1, 0, none⟩)], .agg #[.int .i64 y.1.f0, .int .i64 y.1.f1, .int .i64 y.2.f0, .int .i64 y.2.f1], undef, undef, undef, undef, undef], defers := [] })
    (fun x a' _ X Y row hs hg hr => by obtain ⟨Bx, h1, h2, h3⟩ := hs; exact ⟨Bx, h1, heap_kept h2 rfl hg (fun r e => (hr r e).2), h3⟩)
    ?assign ?body ?done ?stop
  case assign =>
    rintro l pre y W K ⟨⟨hp1, bX1, bZ1⟩, hB1, hszW⟩ hK
    dsimp only [lineV]
    gi_wp2
    have ab : Below W.heap.size W _ := below_alloc (Below.refl _ _) (.cells #[.int .i64 y.1.f0, .int .i64 y.1.f1, .int .i64 y.2.f0, .int .i64 y.2.f1] 129 (0, 0))
    exact hK _ _ ((KeepsOthers.alloc _ _).from _) ((Below.refl _ W).alloc hszW _) ⟨⟨hp1, blk_below bX1 ab, blk_below bZ1 ab⟩, hB1.alloc hB1.size _, Nat.le_trans hszW (by simp)⟩ ⟨W.heap.size, hszW, World.alloc_heap_new W _, rfl⟩
  case body =>
    rintro l pre y a' W hl ⟨r, hr⟩ ⟨⟨hp1, bX1, bZ1⟩, hB1, hszW⟩ ⟨Bx, hBx, bY, rfl⟩ hlt
    have c0_ := (blk_cell bY 0).trans rfl
    have c1_ := (blk_cell bY 1).trans rfl
    have c2_ := (blk_cell bY 2).trans rfl
    have c3_ := (blk_cell bY 3).trans rfl
    have cX := (blk_cell bX1 0).trans rfl
    have CLy := CL y
    cases hh : hasB x0 y with
    | true =>
      rw [hh] at CLy
      gi_wp2_with (refine ⟨trivial, ?_⟩; gi_at_call 149; refine (CallsIn.inRound l (callsIn_wide.2 (CLy _))).mono ?_; rintro e w3 ⟨rfl, hb3⟩; have d0 := blk_below bY hb3; have dZ := blk_below bZ1 hb3; have e0 := (blk_cell d0 0).trans rfl; have e1 := (blk_cell d0 1).trans rfl; have e2 := (blk_cell d0 2).trans rfl; have e3 := (blk_cell d0 3).trans rfl; have g0 := (blk_cell dZ 0).trans rfl; have g1 := (blk_cell dZ 1).trans rfl; have g2 := (blk_cell dZ 2).trans rfl; have g3 := (blk_cell dZ 3).trans rfl; have k0 := blk_frozen dZ 0; have k1 := blk_frozen dZ 1; have k2 := blk_frozen dZ 2; have k3 := blk_frozen dZ 3)
      have hB3 : Below w.heap.size w w3 := hB1.trans (hb3.mono hB1.size)
      exact ⟨((keeps_below hb3).trans (set4_keeps w3 (w.heap.size + 1) _ _ _ _)).from _, ⟨rfl, pre, y, rfl, hp1, hh, set4_block dZ⟩, set4_below hB3 (by omega)⟩
    | false =>
      rw [hh] at CLy
      gi_wp2_with (refine ⟨trivial, ?_⟩; gi_at_call 149; refine (CallsIn.inRound l (callsIn_wide.2 (CLy _))).mono ?_; rintro e w3 ⟨rfl, hb3⟩)
      exact ⟨(keeps_below hb3).from _, hb3.mono hszW, ⟨by simp [List.all_append, hp1, hh], blk_below bX1 hb3, blk_below bZ1 hb3⟩, hB1.trans (hb3.mono hB1.size), Nat.le_trans hszW hb3.size⟩
  case done =>
    rintro D ys W hD hys ⟨⟨hp1, bX1, bZ1⟩, hB1, hszW⟩ hK
    obtain rfl := H0 ys hys hp1
    have g0 := (blk_cell bZ1 0).trans rfl
    have g1 := (blk_cell bZ1 1).trans rfl
    have g2 := (blk_cell bZ1 2).trans rfl
    have g3 := (blk_cell bZ1 3).trans rfl
    have k0 := blk_frozen bZ1 0
    have k1 := blk_frozen bZ1 1
    have k2 := blk_frozen bZ1 2
    have k3 := blk_frozen bZ1 3
    gi_wp2
    have hK' := (set4_keeps W (w.heap.size + 1) (.int .i64 0) (.int .i64 0) (.int .i64 0) (.int .i64 0)).same D _ hK rfl
    have hB4 : Below w.heap.size w (set4 W (w.heap.size + 1) (.int .i64 0) (.int .i64 0) (.int .i64 0) (.int .i64 0)) := set4_below hB1 (by omega)
    have s4 := set4_block (a := .int .i64 0) (b := .int .i64 0) (c := .int .i64 0) (d := .int .i64 0) bZ1
    refine ⟨by simp, .inl ⟨_, _, rfl, run_takeDeferred hK', ?_⟩⟩
    have s5 := heap_kept s4 rfl (grownBy_putObj' _ D (.deferred none)) (fun r e => by cases e; exact ⟨_, hK', rfl⟩)
    exact ⟨.agg (LVc (z60, z60)), results_cell_row rfl _ _ (w.heap.size + 1) 129 _ (0, 0) _ rfl s5 Try.underlying129 rfl (by kernel_rfl), rfl, hB4.trans (belowK_b (w := w) (Nat.le_refl _) _ D _ _ (by omega) hK' rfl rfl)⟩
  case stop =>
    rintro D c pre W hD ⟨k, hk, hpk⟩ ⟨⟨rfl, p, y, rfl, hp1, hy, bY⟩, hB1⟩ hK
    obtain rfl := H1 k p y hk hpk hp1 hy
    gi_wp2
    refine ⟨by simp, .inl ⟨_, _, rfl, run_takeDeferred hK, ?_⟩⟩
    have s5 := heap_kept bY rfl (grownBy_putObj' _ D (.deferred none)) (fun r e => by cases e; exact ⟨_, hK, rfl⟩)
    exact ⟨.agg (LVc _), results_cell_row rfl _ _ (w.heap.size + 1) 129 _ (0, 0) _ rfl s5 Try.underlying129 rfl (by kernel_rfl), rfl, hB1.trans (belowK_b (w := w) (Nat.le_refl _) W D _ _ (by omega) hK rfl rfl)⟩
end Go.Proofs.Ytlhfclpbodfmcaa.Pr
namespace Go.Proofs.Ytlhfclpbodfmcaa.Pr
open Go.RowKit Go.Proofs.YtlhfclpbodfmcaaW.PrintWords Go.Proofs.YtlhfclpbodfmcaaW.PrintLast Go.Proofs.YtlhfclpbodfmcaaW.PrintMore
attribute [local go_sem] fld79_0 fld79_1 fld79_2 fld27_0 fld27_1 fld90_0 fld90_1 fld90_2 fld105_0 fld105_1 fld105_2 fld96_0 fld96_1 fld96_2 fld60_0 fld60_1 fld42_0 fld42_1 max2_int min2_int max_two min_two max_three min_three max_four min_four   -- for this text's walks alone
set_option linter.unusedVariables false
set_option linter.unusedSimpArgs false
def curve_line_low.f (a0_0 : Int) (a0_1 : Int) (a0_2 : Int) (a0_3 : Int) (a1 : Int) : Option (Int) := (curve_line_over.f a0_0 a0_1 a0_2 a0_3 a1).bind fun t456 => ((curve_line_wide.f a0_0 a0_1 a0_2 a0_3).bind fun t457 => (if t457 = 0 then (none) else (some (wrap64 (a0_1 + (wrap64 (Int.tdiv t456 t457)))))))
def curve_line_low.T1 : Bool × List (List Nat × List Nat) := (true, [([], []), ([0], [0]), ([1], [1]), ([], []), ([], []), ([3, 4], [3, 4]), ([], []), ([6, 5], [6]), ([5, 7], [5, 7]), ([2, 8], [2, 8]), ([9, 7, 0, 1, 2, 3, 4, 5, 6, 7, 8, 9], [9])])
def curve_line_low.B1 : List Nat := [0, 1, 3, 0, 0, 24, 0, 120, 248, 511, 1023]
theorem curve_line_low.tab1 : rtab .any (opsOf Try.f115 1) = curve_line_low.T1 := by kernel_rfl
theorem curve_line_low.bits1 : waitsOk curve_line_low.T1.2 curve_line_low.B1 = true := by kernel_rfl
set_option maxHeartbeats 8000000 in
set_option maxRecDepth 100000 in
theorem curve_line_low.calls (a0_0 : Int) (a0_1 : Int) (a0_2 : Int) (a0_3 : Int) (a1 : Int) (r : Int) (w : World) (h : curve_line_low.f a0_0 a0_1 a0_2 a0_3 a1 = some r) :
    Calls Try.prog 115 #[.agg #[.int .i64 a0_0, .int .i64 a0_1, .int .i64 a0_2, .int .i64 a0_3], .int .i64 a1] w fun e w' => e = .returned (.int .i64 r) ∧ Below w.heap.size w w' := by
  have hu129 := Try.underlying129
  have HB := Aside0.mk (Below.refl w.heap.size w)
  have H : ((curve_line_over.f a0_0 a0_1 a0_2 a0_3 a1).bind fun t456 => ((curve_line_wide.f a0_0 a0_1 a0_2 a0_3).bind fun t457 => (if t457 = 0 then (none) else (some (wrap64 (a0_1 + (wrap64 (Int.tdiv t456 t457)))))))) = some r := h
  clear h
  replace H := Option.bind_eq_some_iff.mp H
  obtain ⟨t456, A30, H⟩ := H
  replace H : ((curve_line_wide.f a0_0 a0_1 a0_2 a0_3).bind fun t457 => (if t457 = 0 then (none) else (some (wrap64 (a0_1 + (wrap64 (Int.tdiv t456 t457))))))) = some r := H
  have A3 := Aside0.mk A30
  clear A30
  replace H := Option.bind_eq_some_iff.mp H
  obtain ⟨t457, A40, H⟩ := H
  replace H : (if t457 = 0 then (none) else (some (wrap64 (a0_1 + (wrap64 (Int.tdiv t456 t457)))))) = some r := H
  have A4 := Aside0.mk A40
  clear A40
  by_cases c5 : t457 = 0
  · rw [if_pos c5] at H
    exact absurd H (by simp)
  · rw [if_neg c5] at H
    have c5b0 : (t457 == 0) = false := beq_eq_false_iff_ne.mpr c5
    have c5b1 : (t457 != 0) = true := bne_iff_ne.mpr c5
    obtain rfl := Option.some.inj H
    go_enter Try.func115, Try.ntmps115
    try go_wp2_with (first | ((with_reducible refine gate_dst (N := 2) rfl ?_); refine box_event ?hg (N := 2) ?hd (cs := #[.int .i64 a0_0, .int .i64 a0_1, .int .i64 a0_2, .int .i64 a0_3]) (t := 129) ?hr ?_; (case hd => rfl); (case hg => rfl); (case hr => first | (go_simp; done) | (go_simp; rfl)); intro gb455 hg w6 hbox hb; have n0_ := Aside0.mk (below_step (by repeat (first | (with_reducible first | exact HB.out | apply below_alloc | apply pw_below_drewN | apply below_drew1) | exact HB.out)) hb); have n1_ := Aside0.mk (hbox); have n2_ := Aside0.mk ((by rw [hg]; exact (below_size (by repeat (first | (with_reducible first | exact HB.out | apply below_alloc | apply pw_below_drewN | apply below_drew1) | exact HB.out))) : w.heap.size ≤ gb455)); have n3_ := Aside0.mk ((by rw [hg]; exact (below_size (by repeat (first | (with_reducible first | exact HB.out | apply below_alloc | apply pw_below_drewN | apply below_drew1) | exact HB.out))) : w.heap.size ≤ gb455)); clear HB; have HB := n0_; have BK455 := n1_; have GW455 := n2_; have GE455 := n3_; clear n0_ n1_ n2_ n3_; clear hb hbox hg))
    have n0_ := Aside0.mk (blk_drew BK455.out)
    have n1_ := Aside0.mk (below_drew1 HB.out)
    clear BK455
    clear HB
    have BK455 := n0_
    have HB := n1_
    clear n0_ n1_
    refine start_ (n := 11) (S := fun w' => w'.cell? ⟨gb455, 0, none⟩ = some (.int .i64 a0_0) ∧ w'.cell? ⟨gb455, 1, none⟩ = some (.int .i64 a0_1) ∧ w'.cell? ⟨gb455, 2, none⟩ = some (.int .i64 a0_2) ∧ w'.cell? ⟨gb455, 3, none⟩ = some (.int .i64 a0_3)) (ds := []) #[false, false, false, false, false, false, false, false, false, false, false] (by kernel_rfl) rfl rfl ⟨(blk_cell BK455.out 0).trans rfl, (blk_cell BK455.out 1).trans rfl, (blk_cell BK455.out 2).trans rfl, (blk_cell BK455.out 3).trans rfl⟩ (fun hHeld => ?_); refine with_tabW curve_line_low.tab1 curve_line_low.bits1 (fun HT_ HW_ => ?_)
    generalize w6.drew = w7 at BK455 HB hHeld ⊢
    refine pure_ (i := 0) (N := some 5) (v := ?_) (a' := ?_) #[true, false, false, false, false, false, false, false, false, false, false] rfl rfl (any_of HT_.out (by kernel_rfl)) (fun _ _ _ h => h) (Or.inl ⟨by rfl, ?_⟩) ?_ ?_
    rotate_left
    · intro w'
      go_simp
      with_reducible rfl
    rotate_left
    · simp only [Act.put, List.setIfInBounds_toArray, List.set_cons_zero, List.set_cons_succ, i64_w, i32_w]
      rfl
    refine pure_ (i := 1) (N := some 6) (v := ?_) (a' := ?_) #[true, true, false, false, false, false, false, false, false, false, false] rfl rfl (any_of HT_.out (by kernel_rfl)) (fun _ _ _ h => h) (Or.inl ⟨by rfl, ?_⟩) ?_ ?_
    rotate_left
    · intro w'
      go_simp
      with_reducible rfl
    rotate_left
    · simp only [Act.put, List.setIfInBounds_toArray, List.set_cons_zero, List.set_cons_succ, i64_w, i32_w]
      rfl
    refine pure_ (i := 4) (N := some 9) (v := ?_) (a' := ?_) #[true, true, false, false, true, false, false, false, false, false, false] rfl rfl (any_of HT_.out (by kernel_rfl)) (fun _ _ _ h => h) (Or.inl ⟨by rfl, ?_⟩) ?_ ?_
    rotate_left
    · intro w'
      go_simp
      with_reducible rfl
    rotate_left
    · simp only [Act.put, List.setIfInBounds_toArray, List.set_cons_zero, List.set_cons_succ, i64_w, i32_w]
      rfl
    refine take_ (i := 2) (N := some 7) (v := ?_) (a' := ?_) #[true, true, true, false, true, false, false, false, false, false, false] rfl rfl (take_ofW HT_.out HW_.out (by kernel_rfl)) (fun _ _ _ h => h) (Or.inl ⟨by rfl, ?_⟩) hHeld ?_ ?_
    rotate_left
    · rintro w' ⟨s0, s1, s2, s3⟩
      go_simp
      with_reducible rfl
    rotate_left
    · simp only [Act.put, List.setIfInBounds_toArray, List.set_cons_zero, List.set_cons_succ, i64_w, i32_w]
      rfl
    refine take_ (i := 3) (N := some 8) (v := ?_) (a' := ?_) #[true, true, true, true, true, false, false, false, false, false, false] rfl rfl (take_ofW HT_.out HW_.out (by kernel_rfl)) (fun _ _ _ h => h) (Or.inl ⟨by rfl, ?_⟩) hHeld ?_ ?_
    rotate_left
    · rintro w' ⟨s0, s1, s2, s3⟩
      go_simp
      with_reducible rfl
    rotate_left
    · simp only [Act.put, List.setIfInBounds_toArray, List.set_cons_zero, List.set_cons_succ, i64_w, i32_w]
      rfl
    refine take_ (i := 6) (N := some 11) (v := ?_) (a' := ?_) #[true, true, true, true, true, false, true, false, false, false, false] rfl rfl (take_ofW HT_.out HW_.out (by kernel_rfl)) (fun _ _ _ h => h) (Or.inl ⟨by rfl, ?_⟩) hHeld ?_ ?_
    rotate_left
    · rintro w' ⟨s0, s1, s2, s3⟩
      go_simp
      with_reducible rfl
    rotate_left
    · simp only [Act.put, List.setIfInBounds_toArray, List.set_cons_zero, List.set_cons_succ, i64_w, i32_w]
      rfl
    refine one_ (i := 5) (N := some 10) #[true, true, true, true, true, true, true, false, false, false, false] rfl rfl (one_of HT_.out (by kernel_rfl)) (by decide) (fun K hK => ?_)
    refine goes_ Try.func146 (by kernel_rfl) rfl #[.agg #[.int .i64 a0_0, .int .i64 a0_1, .int .i64 a0_2, .int .i64 a0_3], .int .i64 a1] (by rfl) rfl rfl (by (try simp only [List.map_toArray, List.map_cons, List.map_nil]); first | done | rfl | (simp only [List.length_drop, List.length_take]; rfl)) ?_
    with_reducible refine (curve_line_over.calls a0_0 a0_1 a0_2 a0_3 a1 t456 _ A3.out).mono ?_
    rintro e w8 ⟨rfl, hb⟩
    refine ⟨_, rfl, ?_⟩
    have n0_ := Aside0.mk (blk_below (g := gb455) (o := .cells #[.int .i64 a0_0, .int .i64 a0_1, .int .i64 a0_2, .int .i64 a0_3] 129 (0, 0)) (by (with_reducible repeat (first | refine blk_drewN ?_ _ | refine blk_drew ?_ | refine blk_alloc ?_ _)); exact BK455.out) hb)
    have n1_ := Aside0.mk (below_step (by repeat (first | (with_reducible first | exact HB.out | apply below_alloc | apply pw_below_drewN | apply below_drew1 | refine below_set ?_ GE455.out) | exact HB.out)) hb)
    clear BK455
    clear HB
    have BK455 := n0_
    have HB := n1_
    clear n0_ n1_
    (try clear hb)
    (try clear hb2)
    (try clear hk)
    (try clear hi)
    refine hK.out _ _ ⟨(blk_cell BK455.out 0).trans rfl, (blk_cell BK455.out 1).trans rfl, (blk_cell BK455.out 2).trans rfl, (blk_cell BK455.out 3).trans rfl⟩ (fun hHeld => ?_)
    clear hK K
    refine norm_ (a' := ?_) ?_ ?_
    rotate_left
    · show Act.put _ (some 10) _ = _
      simp only [Act.put, List.setIfInBounds_toArray, List.set_cons_zero, List.set_cons_succ, i64_w, i32_w]
      rfl
    refine one_ (i := 7) (N := some 12) #[true, true, true, true, true, true, true, true, false, false, false] rfl rfl (one_of HT_.out (by kernel_rfl)) (by decide) (fun K hK => ?_)
    refine goes_ Try.func145 (by kernel_rfl) rfl #[.agg #[.int .i64 a0_0, .int .i64 a0_1, .int .i64 a0_2, .int .i64 a0_3]] (by rfl) rfl rfl (by (try simp only [List.map_toArray, List.map_cons, List.map_nil]); first | done | rfl | (simp only [List.length_drop, List.length_take]; rfl)) ?_
    with_reducible refine (curve_line_wide.calls a0_0 a0_1 a0_2 a0_3 t457 _ A4.out).mono ?_
    rintro e w9 ⟨rfl, hb⟩
    refine ⟨_, rfl, ?_⟩
    have n0_ := Aside0.mk (blk_below (g := gb455) (o := .cells #[.int .i64 a0_0, .int .i64 a0_1, .int .i64 a0_2, .int .i64 a0_3] 129 (0, 0)) (by (with_reducible repeat (first | refine blk_drewN ?_ _ | refine blk_drew ?_ | refine blk_alloc ?_ _)); exact BK455.out) hb)
    have n1_ := Aside0.mk (below_step (by repeat (first | (with_reducible first | exact HB.out | apply below_alloc | apply pw_below_drewN | apply below_drew1 | refine below_set ?_ GE455.out) | exact HB.out)) hb)
    clear BK455
    clear HB
    have BK455 := n0_
    have HB := n1_
    clear n0_ n1_
    (try clear hb)
    (try clear hb2)
    (try clear hk)
    (try clear hi)
    refine hK.out _ _ ⟨(blk_cell BK455.out 0).trans rfl, (blk_cell BK455.out 1).trans rfl, (blk_cell BK455.out 2).trans rfl, (blk_cell BK455.out 3).trans rfl⟩ (fun hHeld => ?_)
    clear hK K
    refine norm_ (a' := ?_) ?_ ?_
    rotate_left
    · show Act.put _ (some 12) _ = _
      simp only [Act.put, List.setIfInBounds_toArray, List.set_cons_zero, List.set_cons_succ, i64_w, i32_w]
      rfl
    refine pure_ (i := 8) (N := some 13) (v := ?_) (a' := ?_) #[true, true, true, true, true, true, true, true, true, false, false] rfl rfl (any_of HT_.out (by kernel_rfl)) (fun _ _ _ h => h) (Or.inl ⟨by rfl, ?_⟩) ?_ ?_
    rotate_left
    · intro w'
      go_simp
      with_reducible rfl
    rotate_left
    · simp only [Act.put, List.setIfInBounds_toArray, List.set_cons_zero, List.set_cons_succ, i64_w, i32_w]
      rfl
    refine pure_ (i := 9) (N := some 14) (v := ?_) (a' := ?_) #[true, true, true, true, true, true, true, true, true, true, false] rfl rfl (any_of HT_.out (by kernel_rfl)) (fun _ _ _ h => h) (Or.inl ⟨by rfl, ?_⟩) ?_ ?_
    rotate_left
    · intro w'
      go_simp
      with_reducible rfl
    rotate_left
    · simp only [Act.put, List.setIfInBounds_toArray, List.set_cons_zero, List.set_cons_succ, i64_w, i32_w]
      rfl
    refine pure_ (i := 10) (N := some 4) (v := ?_) (a' := ?_) #[true, true, true, true, true, true, true, true, true, true, true] rfl rfl (any_of HT_.out (by kernel_rfl)) (fun _ _ _ h => h) (Or.inl ⟨by rfl, ?_⟩) ?_ ?_
    rotate_left
    · intro w'
      go_simp
      with_reducible rfl
    rotate_left
    · simp only [Act.put, List.setIfInBounds_toArray, List.set_cons_zero, List.set_cons_succ, i64_w, i32_w]
      rfl
    refine done_ (done_of HT_.out (by kernel_rfl)) ?_
    try go_wp2
    go_ret
    exact ⟨by first | rfl | (simp [errW_none, errW_some] <;> rfl) | (simp [*, errW_none, errW_some] <;> rfl), by repeat (first | (with_reducible first | exact HB.out | apply below_alloc | apply pw_below_drewN | apply below_drew1 | refine below_set ?_ GE455.out) | exact HB.out)⟩
def curve_line_up.f (a0_0 : Int) (a0_1 : Int) (a0_2 : Int) (a0_3 : Int) (a1 : Int) : Option (Int) := (curve_line_over.f a0_0 a0_1 a0_2 a0_3 a1).bind fun t459 => ((curve_line_wide.f a0_0 a0_1 a0_2 a0_3).bind fun t460 => ((curve_line_wide.f a0_0 a0_1 a0_2 a0_3).bind fun t461 => (if t461 = 0 then (none) else (some (wrap64 (a0_1 + (wrap64 (Int.tdiv (wrap64 ((wrap64 (t459 + t460)) - 1)) t461))))))))
def curve_line_up.T1 : Bool × List (List Nat × List Nat) := (true, [([], []), ([0], [0]), ([1], [1]), ([], []), ([], []), ([3, 4], [3, 4]), ([], []), ([6, 5], [6]), ([5, 7], [5, 7]), ([8], [8]), ([], []), ([10, 7], [10]), ([9, 11], [9, 11]), ([2, 12], [2, 12]), ([13, 11, 0, 1, 2, 3, 4, 5, 6, 7, 8, 9, 10, 11, 12, 13], [13])])
def curve_line_up.B1 : List Nat := [0, 1, 3, 0, 0, 24, 0, 120, 248, 504, 0, 1272, 4088, 8191, 16383]
theorem curve_line_up.tab1 : rtab .any (opsOf Try.f116 1) = curve_line_up.T1 := by kernel_rfl
theorem curve_line_up.bits1 : waitsOk curve_line_up.T1.2 curve_line_up.B1 = true := by kernel_rfl
set_option maxHeartbeats 8000000 in
set_option maxRecDepth 100000 in
theorem curve_line_up.calls (a0_0 : Int) (a0_1 : Int) (a0_2 : Int) (a0_3 : Int) (a1 : Int) (r : Int) (w : World) (h : curve_line_up.f a0_0 a0_1 a0_2 a0_3 a1 = some r) :
    Calls Try.prog 116 #[.agg #[.int .i64 a0_0, .int .i64 a0_1, .int .i64 a0_2, .int .i64 a0_3], .int .i64 a1] w fun e w' => e = .returned (.int .i64 r) ∧ Below w.heap.size w w' := by
  have hu129 := Try.underlying129
  have HB := Aside0.mk (Below.refl w.heap.size w)
  have H : ((curve_line_over.f a0_0 a0_1 a0_2 a0_3 a1).bind fun t459 => ((curve_line_wide.f a0_0 a0_1 a0_2 a0_3).bind fun t460 => ((curve_line_wide.f a0_0 a0_1 a0_2 a0_3).bind fun t461 => (if t461 = 0 then (none) else (some (wrap64 (a0_1 + (wrap64 (Int.tdiv (wrap64 ((wrap64 (t459 + t460)) - 1)) t461))))))))) = some r := h
  clear h
  replace H := Option.bind_eq_some_iff.mp H
  obtain ⟨t459, A30, H⟩ := H
  replace H : ((curve_line_wide.f a0_0 a0_1 a0_2 a0_3).bind fun t460 => ((curve_line_wide.f a0_0 a0_1 a0_2 a0_3).bind fun t461 => (if t461 = 0 then (none) else (some (wrap64 (a0_1 + (wrap64 (Int.tdiv (wrap64 ((wrap64 (t459 + t460)) - 1)) t461)))))))) = some r := H
  have A3 := Aside0.mk A30
  clear A30
  replace H := Option.bind_eq_some_iff.mp H
  obtain ⟨t460, A40, H⟩ := H
  replace H : ((curve_line_wide.f a0_0 a0_1 a0_2 a0_3).bind fun t461 => (if t461 = 0 then (none) else (some (wrap64 (a0_1 + (wrap64 (Int.tdiv (wrap64 ((wrap64 (t459 + t460)) - 1)) t461))))))) = some r := H
  have A4 := Aside0.mk A40
  clear A40
  replace H := Option.bind_eq_some_iff.mp H
  obtain ⟨t461, A50, H⟩ := H
  replace H : (if t461 = 0 then (none) else (some (wrap64 (a0_1 + (wrap64 (Int.tdiv (wrap64 ((wrap64 (t459 + t460)) - 1)) t461)))))) = some r := H
  have A5 := Aside0.mk A50
  clear A50
  by_cases c6 : t461 = 0
  · rw [if_pos c6] at H
    exact absurd H (by simp)
  · rw [if_neg c6] at H
    have c6b0 : (t461 == 0) = false := beq_eq_false_iff_ne.mpr c6
    have c6b1 : (t461 != 0) = true := bne_iff_ne.mpr c6
    obtain rfl := Option.some.inj H
    go_enter Try.func116, Try.ntmps116
    try go_wp2_with (first | ((with_reducible refine gate_dst (N := 2) rfl ?_); refine box_event ?hg (N := 2) ?hd (cs := #[.int .i64 a0_0, .int .i64 a0_1, .int .i64 a0_2, .int .i64 a0_3]) (t := 129) ?hr ?_; (case hd => rfl); (case hg => rfl); (case hr => first | (go_simp; done) | (go_simp; rfl)); intro gb458 hg w7 hbox hb; have n0_ := Aside0.mk (below_step (by repeat (first | (with_reducible first | exact HB.out | apply below_alloc | apply pw_below_drewN | apply below_drew1) | exact HB.out)) hb); have n1_ := Aside0.mk (hbox); have n2_ := Aside0.mk ((by rw [hg]; exact (below_size (by repeat (first | (with_reducible first | exact HB.out | apply below_alloc | apply pw_below_drewN | apply below_drew1) | exact HB.out))) : w.heap.size ≤ gb458)); have n3_ := Aside0.mk ((by rw [hg]; exact (below_size (by repeat (first | (with_reducible first | exact HB.out | apply below_alloc | apply pw_below_drewN | apply below_drew1) | exact HB.out))) : w.heap.size ≤ gb458)); clear HB; have HB := n0_; have BK458 := n1_; have GW458 := n2_; have GE458 := n3_; clear n0_ n1_ n2_ n3_; clear hb hbox hg))
    have n0_ := Aside0.mk (blk_drew BK458.out)
    have n1_ := Aside0.mk (below_drew1 HB.out)
    clear BK458
    clear HB
    have BK458 := n0_
    have HB := n1_
    clear n0_ n1_
    refine start_ (n := 15) (S := fun w' => w'.cell? ⟨gb458, 0, none⟩ = some (.int .i64 a0_0) ∧ w'.cell? ⟨gb458, 1, none⟩ = some (.int .i64 a0_1) ∧ w'.cell? ⟨gb458, 2, none⟩ = some (.int .i64 a0_2) ∧ w'.cell? ⟨gb458, 3, none⟩ = some (.int .i64 a0_3)) (ds := []) #[false, false, false, false, false, false, false, false, false, false, false, false, false, false, false] (by kernel_rfl) rfl rfl ⟨(blk_cell BK458.out 0).trans rfl, (blk_cell BK458.out 1).trans rfl, (blk_cell BK458.out 2).trans rfl, (blk_cell BK458.out 3).trans rfl⟩ (fun hHeld => ?_); refine with_tabW curve_line_up.tab1 curve_line_up.bits1 (fun HT_ HW_ => ?_)
    generalize w7.drew = w8 at BK458 HB hHeld ⊢
    refine pure_ (i := 0) (N := some 5) (v := ?_) (a' := ?_) #[true, false, false, false, false, false, false, false, false, false, false, false, false, false, false] rfl rfl (any_of HT_.out (by kernel_rfl)) (fun _ _ _ h => h) (Or.inl ⟨by rfl, ?_⟩) ?_ ?_
    rotate_left
    · intro w'
      go_simp
      with_reducible rfl
    rotate_left
    · simp only [Act.put, List.setIfInBounds_toArray, List.set_cons_zero, List.set_cons_succ, i64_w, i32_w]
      rfl
    refine pure_ (i := 1) (N := some 6) (v := ?_) (a' := ?_) #[true, true, false, false, false, false, false, false, false, false, false, false, false, false, false] rfl rfl (any_of HT_.out (by kernel_rfl)) (fun _ _ _ h => h) (Or.inl ⟨by rfl, ?_⟩) ?_ ?_
    rotate_left
    · intro w'
      go_simp
      with_reducible rfl
    rotate_left
    · simp only [Act.put, List.setIfInBounds_toArray, List.set_cons_zero, List.set_cons_succ, i64_w, i32_w]
      rfl
    refine pure_ (i := 4) (N := some 9) (v := ?_) (a' := ?_) #[true, true, false, false, true, false, false, false, false, false, false, false, false, false, false] rfl rfl (any_of HT_.out (by kernel_rfl)) (fun _ _ _ h => h) (Or.inl ⟨by rfl, ?_⟩) ?_ ?_
    rotate_left
    · intro w'
      go_simp
      with_reducible rfl
    rotate_left
    · simp only [Act.put, List.setIfInBounds_toArray, List.set_cons_zero, List.set_cons_succ, i64_w, i32_w]
      rfl
    refine take_ (i := 2) (N := some 7) (v := ?_) (a' := ?_) #[true, true, true, false, true, false, false, false, false, false, false, false, false, false, false] rfl rfl (take_ofW HT_.out HW_.out (by kernel_rfl)) (fun _ _ _ h => h) (Or.inl ⟨by rfl, ?_⟩) hHeld ?_ ?_
    rotate_left
    · rintro w' ⟨s0, s1, s2, s3⟩
      go_simp
      with_reducible rfl
    rotate_left
    · simp only [Act.put, List.setIfInBounds_toArray, List.set_cons_zero, List.set_cons_succ, i64_w, i32_w]
      rfl
    refine take_ (i := 3) (N := some 8) (v := ?_) (a' := ?_) #[true, true, true, true, true, false, false, false, false, false, false, false, false, false, false] rfl rfl (take_ofW HT_.out HW_.out (by kernel_rfl)) (fun _ _ _ h => h) (Or.inl ⟨by rfl, ?_⟩) hHeld ?_ ?_
    rotate_left
    · rintro w' ⟨s0, s1, s2, s3⟩
      go_simp
      with_reducible rfl
    rotate_left
    · simp only [Act.put, List.setIfInBounds_toArray, List.set_cons_zero, List.set_cons_succ, i64_w, i32_w]
      rfl
    refine take_ (i := 6) (N := some 11) (v := ?_) (a' := ?_) #[true, true, true, true, true, false, true, false, false, false, false, false, false, false, false] rfl rfl (take_ofW HT_.out HW_.out (by kernel_rfl)) (fun _ _ _ h => h) (Or.inl ⟨by rfl, ?_⟩) hHeld ?_ ?_
    rotate_left
    · rintro w' ⟨s0, s1, s2, s3⟩
      go_simp
      with_reducible rfl
    rotate_left
    · simp only [Act.put, List.setIfInBounds_toArray, List.set_cons_zero, List.set_cons_succ, i64_w, i32_w]
      rfl
    refine take_ (i := 10) (N := some 15) (v := ?_) (a' := ?_) #[true, true, true, true, true, false, true, false, false, false, true, false, false, false, false] rfl rfl (take_ofW HT_.out HW_.out (by kernel_rfl)) (fun _ _ _ h => h) (Or.inl ⟨by rfl, ?_⟩) hHeld ?_ ?_
    rotate_left
    · rintro w' ⟨s0, s1, s2, s3⟩
      go_simp
      with_reducible rfl
    rotate_left
    · simp only [Act.put, List.setIfInBounds_toArray, List.set_cons_zero, List.set_cons_succ, i64_w, i32_w]
      rfl
    refine one_ (i := 5) (N := some 10) #[true, true, true, true, true, true, true, false, false, false, true, false, false, false, false] rfl rfl (one_of HT_.out (by kernel_rfl)) (by decide) (fun K hK => ?_)
    refine goes_ Try.func146 (by kernel_rfl) rfl #[.agg #[.int .i64 a0_0, .int .i64 a0_1, .int .i64 a0_2, .int .i64 a0_3], .int .i64 a1] (by rfl) rfl rfl (by (try simp only [List.map_toArray, List.map_cons, List.map_nil]); first | done | rfl | (simp only [List.length_drop, List.length_take]; rfl)) ?_
    with_reducible refine (curve_line_over.calls a0_0 a0_1 a0_2 a0_3 a1 t459 _ A3.out).mono ?_
    rintro e w9 ⟨rfl, hb⟩
    refine ⟨_, rfl, ?_⟩
    have n0_ := Aside0.mk (blk_below (g := gb458) (o := .cells #[.int .i64 a0_0, .int .i64 a0_1, .int .i64 a0_2, .int .i64 a0_3] 129 (0, 0)) (by (with_reducible repeat (first | refine blk_drewN ?_ _ | refine blk_drew ?_ | refine blk_alloc ?_ _)); exact BK458.out) hb)
    have n1_ := Aside0.mk (below_step (by repeat (first | (with_reducible first | exact HB.out | apply below_alloc | apply pw_below_drewN | apply below_drew1 | refine below_set ?_ GE458.out) | exact HB.out)) hb)
    clear BK458
    clear HB
    have BK458 := n0_
    have HB := n1_
    clear n0_ n1_
    (try clear hb)
    (try clear hb2)
    (try clear hk)
    (try clear hi)
    refine hK.out _ _ ⟨(blk_cell BK458.out 0).trans rfl, (blk_cell BK458.out 1).trans rfl, (blk_cell BK458.out 2).trans rfl, (blk_cell BK458.out 3).trans rfl⟩ (fun hHeld => ?_)
    clear hK K
    refine norm_ (a' := ?_) ?_ ?_
    rotate_left
    · show Act.put _ (some 10) _ = _
      simp only [Act.put, List.setIfInBounds_toArray, List.set_cons_zero, List.set_cons_succ, i64_w, i32_w]
      rfl
    refine one_ (i := 7) (N := some 12) #[true, true, true, true, true, true, true, true, false, false, true, false, false, false, false] rfl rfl (one_of HT_.out (by kernel_rfl)) (by decide) (fun K hK => ?_)
    refine goes_ Try.func145 (by kernel_rfl) rfl #[.agg #[.int .i64 a0_0, .int .i64 a0_1, .int .i64 a0_2, .int .i64 a0_3]] (by rfl) rfl rfl (by (try simp only [List.map_toArray, List.map_cons, List.map_nil]); first | done | rfl | (simp only [List.length_drop, List.length_take]; rfl)) ?_
    with_reducible refine (curve_line_wide.calls a0_0 a0_1 a0_2 a0_3 t460 _ A4.out).mono ?_
    rintro e w10 ⟨rfl, hb⟩
    refine ⟨_, rfl, ?_⟩
    have n0_ := Aside0.mk (blk_below (g := gb458) (o := .cells #[.int .i64 a0_0, .int .i64 a0_1, .int .i64 a0_2, .int .i64 a0_3] 129 (0, 0)) (by (with_reducible repeat (first | refine blk_drewN ?_ _ | refine blk_drew ?_ | refine blk_alloc ?_ _)); exact BK458.out) hb)
    have n1_ := Aside0.mk (below_step (by repeat (first | (with_reducible first | exact HB.out | apply below_alloc | apply pw_below_drewN | apply below_drew1 | refine below_set ?_ GE458.out) | exact HB.out)) hb)
    clear BK458
    clear HB
    have BK458 := n0_
    have HB := n1_
    clear n0_ n1_
    (try clear hb)
    (try clear hb2)
    (try clear hk)
    (try clear hi)
    refine hK.out _ _ ⟨(blk_cell BK458.out 0).trans rfl, (blk_cell BK458.out 1).trans rfl, (blk_cell BK458.out 2).trans rfl, (blk_cell BK458.out 3).trans rfl⟩ (fun hHeld => ?_)
    clear hK K
    refine norm_ (a' := ?_) ?_ ?_
    rotate_left
    · show Act.put _ (some 12) _ = _
      simp only [Act.put, List.setIfInBounds_toArray, List.set_cons_zero, List.set_cons_succ, i64_w, i32_w]
      rfl
    refine pure_ (i := 8) (N := some 13) (v := ?_) (a' := ?_) #[true, true, true, true, true, true, true, true, true, false, true, false, false, false, false] rfl rfl (any_of HT_.out (by kernel_rfl)) (fun _ _ _ h => h) (Or.inl ⟨by rfl, ?_⟩) ?_ ?_
    rotate_left
    · intro w'
      go_simp
      with_reducible rfl
    rotate_left
    · simp only [Act.put, List.setIfInBounds_toArray, List.set_cons_zero, List.set_cons_succ, i64_w, i32_w]
      rfl
    refine pure_ (i := 9) (N := some 14) (v := ?_) (a' := ?_) #[true, true, true, true, true, true, true, true, true, true, true, false, false, false, false] rfl rfl (any_of HT_.out (by kernel_rfl)) (fun _ _ _ h => h) (Or.inl ⟨by rfl, ?_⟩) ?_ ?_
    rotate_left
    · intro w'
      go_simp
      with_reducible rfl
    rotate_left
    · simp only [Act.put, List.setIfInBounds_toArray, List.set_cons_zero, List.set_cons_succ, i64_w, i32_w]
      rfl
    refine one_ (i := 11) (N := some 16) #[true, true, true, true, true, true, true, true, true, true, true, true, false, false, false] rfl rfl (one_of HT_.out (by kernel_rfl)) (by decide) (fun K hK => ?_)
    refine goes_ Try.func145 (by kernel_rfl) rfl #[.agg #[.int .i64 a0_0, .int .i64 a0_1, .int .i64 a0_2, .int .i64 a0_3]] (by rfl) rfl rfl (by (try simp only [List.map_toArray, List.map_cons, List.map_nil]); first | done | rfl | (simp only [List.length_drop, List.length_take]; rfl)) ?_
    with_reducible refine (curve_line_wide.calls a0_0 a0_1 a0_2 a0_3 t461 _ A5.out).mono ?_
    rintro e w11 ⟨rfl, hb⟩
    refine ⟨_, rfl, ?_⟩
    have n0_ := Aside0.mk (blk_below (g := gb458) (o := .cells #[.int .i64 a0_0, .int .i64 a0_1, .int .i64 a0_2, .int .i64 a0_3] 129 (0, 0)) (by (with_reducible repeat (first | refine blk_drewN ?_ _ | refine blk_drew ?_ | refine blk_alloc ?_ _)); exact BK458.out) hb)
    have n1_ := Aside0.mk (below_step (by repeat (first | (with_reducible first | exact HB.out | apply below_alloc | apply pw_below_drewN | apply below_drew1 | refine below_set ?_ GE458.out) | exact HB.out)) hb)
    clear BK458
    clear HB
    have BK458 := n0_
    have HB := n1_
    clear n0_ n1_
    (try clear hb)
    (try clear hb2)
    (try clear hk)
    (try clear hi)
    refine hK.out _ _ ⟨(blk_cell BK458.out 0).trans rfl, (blk_cell BK458.out 1).trans rfl, (blk_cell BK458.out 2).trans rfl, (blk_cell BK458.out 3).trans rfl⟩ (fun hHeld => ?_)
    clear hK K
    refine norm_ (a' := ?_) ?_ ?_
    rotate_left
    · show Act.put _ (some 16) _ = _
      simp only [Act.put, List.setIfInBounds_toArray, List.set_cons_zero, List.set_cons_succ, i64_w, i32_w]
      rfl
    refine pure_ (i := 12) (N := some 17) (v := ?_) (a' := ?_) #[true, true, true, true, true, true, true, true, true, true, true, true, true, false, false] rfl rfl (any_of HT_.out (by kernel_rfl)) (fun _ _ _ h => h) (Or.inl ⟨by rfl, ?_⟩) ?_ ?_
    rotate_left
    · intro w'
      go_simp
      with_reducible rfl
    rotate_left
    · simp only [Act.put, List.setIfInBounds_toArray, List.set_cons_zero, List.set_cons_succ, i64_w, i32_w]
      rfl
    refine pure_ (i := 13) (N := some 18) (v := ?_) (a' := ?_) #[true, true, true, true, true, true, true, true, true, true, true, true, true, true, false] rfl rfl (any_of HT_.out (by kernel_rfl)) (fun _ _ _ h => h) (Or.inl ⟨by rfl, ?_⟩) ?_ ?_
    rotate_left
    · intro w'
      go_simp
      with_reducible rfl
    rotate_left
    · simp only [Act.put, List.setIfInBounds_toArray, List.set_cons_zero, List.set_cons_succ, i64_w, i32_w]
      rfl
    refine pure_ (i := 14) (N := some 4) (v := ?_) (a' := ?_) #[true, true, true, true, true, true, true, true, true, true, true, true, true, true, true] rfl rfl (any_of HT_.out (by kernel_rfl)) (fun _ _ _ h => h) (Or.inl ⟨by rfl, ?_⟩) ?_ ?_
    rotate_left
    · intro w'
      go_simp
      with_reducible rfl
    rotate_left
    · simp only [Act.put, List.setIfInBounds_toArray, List.set_cons_zero, List.set_cons_succ, i64_w, i32_w]
      rfl
    refine done_ (done_of HT_.out (by kernel_rfl)) ?_
    try go_wp2
    go_ret
    exact ⟨by first | rfl | (simp [errW_none, errW_some] <;> rfl) | (simp [*, errW_none, errW_some] <;> rfl), by repeat (first | (with_reducible first | exact HB.out | apply below_alloc | apply pw_below_drewN | apply below_drew1 | refine below_set ?_ GE458.out) | exact HB.out)⟩
end Go.Proofs.Ytlhfclpbodfmcaa.Pr
namespace Go.Proofs.Ytlhfclpbodfmcaa.Pr
open Go.RowKit Go.Proofs.YtlhfclpbodfmcaaW.PrintWords Go.Proofs.YtlhfclpbodfmcaaW.PrintLast Go.Proofs.YtlhfclpbodfmcaaW.PrintMore
set_option linter.unusedVariables false
/-- A literal row of numbers. -/
theorem litJ (W : World) (xs : List Int) (hm : xs.length ≤ 1000) : Kd.C (Kd.int .i64) (W.alloc (.cells (xs.map (.int .i64)).toArray 3 (0, 0))) (some ⟨W.heap.size, 0, none⟩) xs.length xs := by
  refine ⟨rfl, by omega, fun _ => ⟨⟨W.heap.size, 0, none⟩, rfl, fun j p hj => ⟨[.int .i64 p], rfl, rfl, fun i u hu => ?_⟩⟩⟩
  rcases i with _ | i
  · simp at hu
    subst hu
    obtain ⟨hl, hp⟩ := List.getElem?_eq_some_iff.1 hj
    have h2 := blk_cell (blk_new W (.cells (xs.map (.int .i64)).toArray 3 (0, 0))) j
    simp [add_plain, show (Kd.int IntKind.i64).sz = 1 from rfl, hj]
  · simp at hu
theorem nw_ (W : World) (C : Obj) : Aside0 ((W.alloc C).heap[W.heap.size]? = some C) := ⟨blk_new W C⟩
theorem ba_ (W : World) (C : Obj) : Below W.heap.size W (W.alloc C) := below_alloc (Below.refl _ _) _
/-- A row of the caller's, later. -/
theorem kc_ {α : Type} {d : Kd α} {w W : World} {A : Option Addr} {l : List α} (h : Aside0 (Kd.C d w A l.length l)) (hb : Aside0 (Below w.heap.size w W)) : Kd.C d W A l.length l := Kd.C_below h.out hb.out
end Go.Proofs.Ytlhfclpbodfmcaa.Pr
namespace Go.Proofs.Ytlhfclpbodfmcaa.Pr
open Go.RowKit Go.Proofs.YtlhfclpbodfmcaaW.PrintWords Go.Proofs.YtlhfclpbodfmcaaW.PrintLast Go.Proofs.YtlhfclpbodfmcaaW.PrintMore
open Go.Proofs.Ytlhfclpbodfmcaa.Vm
set_option linter.unusedVariables false
set_option linter.unusedSimpArgs false
theorem check_len {l : List S60} (h : checkC l = 0) : 2 ≤ l.length ∧ l.length ≤ 64 := by
  unfold checkC at h
  split at h
  · cases h
  · omega
set_option maxRecDepth 100000 in
set_option maxHeartbeats 1600000 in
theorem curve_asked.good (A0 : Option Addr) (c0 : Nat) (l0 : List S60) (x : Int) (w : World) (hr0 : Kd.C k60 w A0 l0.length l0) (hc0 : l0.length ≤ c0) (hk : checkC l0 = 0) (hw : curve_within.f l0 x = some true) :
    Calls Try.prog 111 #[.slice A0 l0.length c0, .int .i64 x] w fun e w' => e = .returned (.tuple #[.agg (LVc (firstL l0 x)), .int .i64 0]) ∧ Below w.heap.size w w' := by
  have hu129 := Try.underlying129
  have HR0 := Aside0.mk hr0
  have HC0 := Aside0.mk hc0
  have HK : Aside0 (curve_Check.f l0 = some 0) := ⟨congrArg some hk⟩
  have HW := Aside0.mk hw
  have HLN := Aside0.mk (check_len hk)
  have HB := Aside0.mk (Below.refl w.heap.size w)
  clear hr0 hc0 hk hw
  obtain ⟨F, hF⟩ : ∃ F, firstL l0 x = F := ⟨_, rfl⟩
  have HAT : Aside0 (∀ W, Below w.heap.size w W → Calls Try.prog 143 #[.slice A0 l0.length c0, .int .i64 x] W fun e w' => e = .returned (.agg #[.int .i64 F.1.f0, .int .i64 F.1.f1, .int .i64 F.2.f0, .int .i64 F.2.f1]) ∧ Below W.heap.size W w') := ⟨fun W hB => by
    have h := curve_at.run A0 c0 l0 x W (Kd.C_below HR0.out hB) HLN.out.1 HLN.out.2
    rw [hF] at h; exact h⟩
  rw [hF]
  clear hF
  go_enter Try.func111, Try.ntmps111
  go_wp2_with (first | ((with_reducible refine gate_dst (N := 4) rfl ?_); refine bx_ 4 #[.int .i64 0, .int .i64 0, .int .i64 0, .int .i64 0] 129 ?_; intro gr hg w1 hbox hb; have GEgr := ge_ hg HB; replace hb := nb_ HB hb; replace HB := bs_ HB hb; have BKgr := Aside0.mk hbox; clear hb hbox hg))
  refine (curve_Check.calls A0 c0 l0 0 _ (kc_ HR0 HB) HC0.out HK.out).mono ?_
  rintro e w2 ⟨rfl, hb⟩
  replace hb := nb_ HB hb
  replace BKgr := kb_ BKgr hb
  replace HB := bs_ HB hb
  clear hb
  go_wp2_with fail
  refine (curve_within.calls A0 c0 l0 x true _ (kc_ HR0 HB) HC0.out HW.out).mono ?_
  rintro e w3 ⟨rfl, hb⟩
  try replace hb := hb.below
  replace hb := nb_ HB hb
  replace BKgr := kb_ BKgr hb
  replace HB := bs_ HB hb
  clear hb
  go_wp2_with fail
  refine (HAT.out _ HB.out).mono ?_
  rintro e w4 ⟨rfl, hb⟩
  replace hb := nb_ HB hb
  replace BKgr := kb_ BKgr hb
  replace HB := bs_ HB hb
  clear hb
  have g0 := (blk_cell BKgr.out 0).trans rfl
  have g1 := (blk_cell BKgr.out 1).trans rfl
  have g2 := (blk_cell BKgr.out 2).trans rfl
  have g3 := (blk_cell BKgr.out 3).trans rfl
  have k0 := blk_frozen BKgr.out 0
  have k1 := blk_frozen BKgr.out 1
  have k2 := blk_frozen BKgr.out 2
  have k3 := blk_frozen BKgr.out 3
  go_wp2
  refine bodyPost_ret (results_ct rfl _ _ gr 129 #[.int .i64 F.1.f0, .int .i64 F.1.f1, .int .i64 F.2.f0, .int .i64 F.2.f1] (0, 0) _ rfl (set4_block BKgr.out) Try.underlying129 rfl (by kernel_rfl)) rfl ?_
  exact ⟨rfl, set4_below HB.out GEgr.out⟩
set_option maxRecDepth 100000 in
set_option maxHeartbeats 1600000 in
theorem curve_Low.good (A0 : Option Addr) (c0 : Nat) (l0 : List S60) (x r : Int) (w : World) (hr0 : Kd.C k60 w A0 l0.length l0) (hc0 : l0.length ≤ c0) (hk : checkC l0 = 0) (hw : curve_within.f l0 x = some true) (hr : curve_line_low.f (firstL l0 x).1.f0 (firstL l0 x).1.f1 (firstL l0 x).2.f0 (firstL l0 x).2.f1 x = some r) :
    Calls Try.prog 44 #[.slice A0 l0.length c0, .int .i64 x] w fun e w' => e = .returned (.tuple #[.int .i64 r, .int .i64 0]) ∧ Below w.heap.size w w' := by
  have hu129 := Try.underlying129
  have HA := Aside0.mk (curve_asked.good A0 c0 l0 x w hr0 hc0 hk hw)
  have HB := Aside0.mk (Below.refl w.heap.size w)
  clear hr0 hc0 hk hw
  generalize firstL l0 x = F at HA hr
  have HR := Aside0.mk hr
  clear hr
  go_enter Try.func44, Try.ntmps44
  go_wp2_with fail
  refine HA.out.mono ?_
  rintro e w2 ⟨rfl, hb⟩
  unfold LVc
  replace HB := bs_ HB hb
  clear hb HA
  go_wp2_with fail
  refine (curve_line_low.calls _ _ _ _ _ r _ HR.out).mono ?_
  rintro e w3 ⟨rfl, hb⟩
  try replace hb := hb.below
  replace hb := nb_ HB hb
  replace HB := bs_ HB hb
  clear hb
  go_wp2
  go_ret2
  exact ⟨rfl, HB.out⟩
set_option maxRecDepth 100000 in
set_option maxHeartbeats 1600000 in
theorem curve_High.good (A0 : Option Addr) (c0 : Nat) (l0 : List S60) (x r : Int) (w : World) (hr0 : Kd.C k60 w A0 l0.length l0) (hc0 : l0.length ≤ c0) (hk : checkC l0 = 0) (hw : curve_within.f l0 x = some true) (hr : curve_line_up.f (firstL l0 x).1.f0 (firstL l0 x).1.f1 (firstL l0 x).2.f0 (firstL l0 x).2.f1 x = some r) :
    Calls Try.prog 45 #[.slice A0 l0.length c0, .int .i64 x] w fun e w' => e = .returned (.tuple #[.int .i64 r, .int .i64 0]) ∧ Below w.heap.size w w' := by
  have hu129 := Try.underlying129
  have HA := Aside0.mk (curve_asked.good A0 c0 l0 x w hr0 hc0 hk hw)
  have HB := Aside0.mk (Below.refl w.heap.size w)
  clear hr0 hc0 hk hw
  generalize firstL l0 x = F at HA hr
  have HR := Aside0.mk hr
  clear hr
  go_enter Try.func45, Try.ntmps45
  go_wp2_with fail
  refine HA.out.mono ?_
  rintro e w2 ⟨rfl, hb⟩
  unfold LVc
  replace HB := bs_ HB hb
  clear hb HA
  go_wp2_with fail
  refine (curve_line_up.calls _ _ _ _ _ r _ HR.out).mono ?_
  rintro e w3 ⟨rfl, hb⟩
  try replace hb := hb.below
  replace hb := nb_ HB hb
  replace HB := bs_ HB hb
  clear hb
  go_wp2
  go_ret2
  exact ⟨rfl, HB.out⟩
end Go.Proofs.Ytlhfclpbodfmcaa.Pr
namespace Go.Proofs.Ytlhfclpbodfmcaa.Pr
open Go.RowKit Go.Proofs.YtlhfclpbodfmcaaW.PrintWords Go.Proofs.YtlhfclpbodfmcaaW.PrintLast Go.Proofs.YtlhfclpbodfmcaaW.PrintMore
open Go.Proofs.Ytlhfclpbodfmcaa.Vm
set_option linter.unusedVariables false
set_option linter.unusedSimpArgs false
set_option maxHeartbeats 1600000 in
set_option maxRecDepth 100000 in
theorem volume_drawn.calls (A0 : Option Addr) (c0 : Nat) (l0 : List S79) (r1 : List S60) (r2 : Int) (w : World) (hr0 : Kd.C k79 w A0 l0.length l0) (hc0 : l0.length ≤ c0) (h : drawF (·.f1) l0 = (r1, r2)) :
    Calls Try.prog 107 #[.slice A0 l0.length c0, .func (.func 108) #[] #[]] w fun e w' => ∃ v0_ : Value, e = .returned (.tuple #[v0_, .int .i64 r2]) ∧ Kd.R k60 60 w' w.heap.size (fun _ => True) v0_ r1 ∧ Below w.heap.size w w' := by
  have hu60 := Try.underlying60
  have hu157 := Try.underlying157
  have hu150 := Try.underlying150
  have HR0 := Aside0.mk hr0
  have HC0 := Aside0.mk hc0
  clear hr0 hc0
  have HB := Aside0.mk (Below.refl w.heap.size w)
  unfold drawF at h
  by_cases hv : validB l0 = true
  · rw [if_pos hv] at h
    obtain ⟨rfl, rfl⟩ : (ptsF (l0.map (·.f0)) (l0.map (·.f1)) (l0.length + 1)) = r1 ∧ checkC (ptsF (l0.map (·.f0)) (l0.map (·.f1)) (l0.length + 1)) = r2 := by simpa using h
    clear h
    have hK : vessel_Check.f 30 l0 = some 0 := by rw [vCheck]; unfold checkF; rw [hv]; rfl
    have HK := Aside0.mk hK
    have hG : GV (hsO l0) (vsO l0) (dsO l0) := valid_GV hv
    have hlen := hG.h.ln
    rw [List.length_map] at hlen
    have HN : Aside0 (l0.length ≤ 900) := ⟨by omega⟩
    have HLEN := Aside0.mk hlen
    clear hK hv hG hlen
    go_enter Try.func107, Try.ntmps107
    go_wp2_with (first | ((with_reducible refine gate_callee (f := 48) rfl ?_); refine gL_ (some 13) Try.func48 (vessel_Check.calls 30 A0 c0 l0 0 _ (Kd.C_below HR0.out HB.out) HC0.out HK.out) ?_; rintro e w2 ⟨rfl, hb⟩; refine ⟨.int .i64 0, rfl, ?_⟩; replace hb := nb_ HB hb; replace HB := bs_ HB hb; clear hb))
    refine (height_scaled.calls A0 c0 l0 _ (Kd.C_below HR0.out HB.out) HN.out).mono ?_
    rintro e w3 ⟨g1, rfl, s_, hb⟩
    replace hb := nb_ HB hb
    replace HB := bs_ HB hb
    have SC1 := Aside0.mk (ScX.sc s_)
    clear s_ hb
    go_wp2_with fail
    refine (volume_scaled.calls A0 c0 l0 _ (Kd.C_below HR0.out HB.out) HN.out).mono ?_
    rintro e w4 ⟨g2, rfl, s_, hb⟩
    replace hb := nb_ HB hb
    replace SC1 := Aside0.mk (Sc.below SC1.out hb)
    replace HB := bs_ HB hb
    have SC2 := Aside0.mk (ScX.sc s_)
    clear s_ hb
    obtain ⟨a1, a2, cc1, cc2, e1, e2, d1, d2, l1, l2⟩ := SC1.out
    obtain ⟨b1, b2, dd1, dd2, f1, f2, t1, t2, m1, m2⟩ := SC2.out
    have hlx : (sums 0 (l0.map (·.f0))).length = l0.length + 1 := by rw [sums_length, List.length_map]
    have hly : (sums 0 (l0.map (·.f1))).length = l0.length + 1 := by rw [sums_length, List.length_map]
    rw [hlx] at e2 d2 l2
    rw [hly] at f2 t2 m2
    have E2 := Aside0.mk e2
    have F2 := Aside0.mk f2
    have D2 := Aside0.mk d2
    have T2 := Aside0.mk t2
    have HLX := Aside0.mk hlx
    have HLY := Aside0.mk hly
    have HV := Aside0.mk (Below.refl w4.heap.size w4)
    have HWV := Aside0.mk HB.out.size
    clear e1 d1 l1 l2 f1 t1 m1 m2 d2 t2 hlx hly SC1 SC2 f2
    go_wp2
    clear e2
    have RO : Aside0 (Kd.R k60 60 w4 w4.heap.size (fun _ => True) (.slice none 0 0) (ptsF (l0.map (·.f0)) (l0.map (·.f1)) 0)) := ⟨Kd.R_nil _ _ _ _ _⟩
    go_loopg [9, 27] (l0.length + 1) (fun kq v9 v27 w' => ∃ (n : Nat), v27 = .int .i64 (n : Int) ∧ Aside0 (n + kq = l0.length + 1) ∧ Aside0 (Kd.R k60 60 w' w4.heap.size (fun _ => True) v9 (ptsF (l0.map (·.f0)) (l0.map (·.f1)) n)) ∧ Aside0 (Below w.heap.size w w') ∧ Aside0 (Below w4.heap.size w4 w'))
    case atStart => exact ⟨0, rfl, ⟨by omega⟩, RO, HB, HV⟩
    case round =>
      clear RO HB HV
      obtain ⟨n, rfl, HI, RO, HB, HV⟩ := hrel
      by_cases hij : n < l0.length + 1
      · have hd : decide ((n : Int) < ((l0.length + 1 : Nat) : Int)) = true := decide_eq_true (by omega)
        have hd3 : decide ((n : Int) < (l0.length : Int) + 1) = true := decide_eq_true (by omega)
        have hd2 : decide (n < l0.length + 1) = true := decide_eq_true hij
        have h0 : (0 : Int) ≤ (n : Int) := by omega
        have h1 : (n : Int) < ((l0.length + 1 : Nat) : Int) := by omega
        have h2 : (n : Int) < (l0.length : Int) + 1 := by omega
        obtain ⟨ad1, q1, x1⟩ := Kd.at_int D2.out (n : Int) h0 h1
        obtain ⟨ad2, q2, x2⟩ := Kd.at_int T2.out (n : Int) h0 h1
        subst q1 q2
        simp only [Int.toNat_natCast] at x1 x2
        have hn24 : n ≤ 24 := by have := HLEN.out; omega
        have HPL : Aside0 ((ptsF (l0.map (·.f0)) (l0.map (·.f1)) n).length ≤ 1000) := ⟨by rw [ptsF_length]; have := HLEN.out; omega⟩
        have X1 := pw_cell_below HV.out x1
        have X2 := pw_cell_below HV.out x2
        have X3 := pw_cell_below HV.out F2.out
        clear x1 x2
        replace h0 := eq_true h0
        replace h1 := eq_true h1
        replace h2 := eq_true h2
        have h3 : (n < l0.length + 1) = True := eq_true hij
        go_wp2_with (first | ((with_reducible refine gate_dst (N := 42) rfl ?_); refine litv_list ?hg (N := 42) ?hd (cs := #[.int .i64 (rd (sums 0 (l0.map (·.f0))) (n : Int)), .int .i64 (rd (sums 0 (l0.map (·.f1))) (n : Int))]) (E := 60) ?hr ?_; (case hd => rfl); (case hg => rfl); (case hr => first | (go_simp; done) | (go_simp; rfl)); intro ga hg w10 hbox hb; replace hb := nb_ HB hb; replace RO := Aside0.mk (Kd.R_below RO.out hb); replace HB := bs_ HB hb; replace HV := bs_ HV hb; have BKga := Aside0.mk hbox; clear hb hbox hg X1 X2 X3) | ((with_reducible refine gate_dst (N := 43) rfl ?_); refine app60_list (w := w4) ?hg (.tmp 32) (.tmp 42) 37 60 ?ho Try.underlying37 info60 u9 (ptsF (l0.map (·.f0)) (l0.map (·.f1)) n) ⟨rd (sums 0 (l0.map (·.f0))) (n : Int), rd (sums 0 (l0.map (·.f1))) (n : Int)⟩ ga ?hq1 ?hq2 RO.out BKga.out HV.out HPL.out ?_; (case hg => rfl); (case ho => rfl); (case hq1 => rfl); (case hq2 => rfl); intro u9_ w11 ho hb hg hat; have n0_ := Aside0.mk (pw_below_grown HB.out _ HB.out.size hg (fun k hk => Nat.le_trans HWV.out (Kd.R_base RO.out k hk))); have n1_ := Aside0.mk hb; rw [ptsF_succ] at ho; have n2_ := Aside0.mk ho; clear HB RO BKga HV; have HB := n0_; have HV := n1_; have RO := n2_; clear n0_ n1_ n2_ ho hb hg hat))
        go_roundg (gk - 1)
        case measure => have := HI.out; omega
        case rel => exact ⟨n + 1, by go_num, ⟨by have := HI.out; omega⟩, RO, HB, HV⟩
      · have hd : decide ((n : Int) < ((l0.length + 1 : Nat) : Int)) = false := decide_eq_false (by omega)
        have hd3 : decide ((n : Int) < (l0.length : Int) + 1) = false := decide_eq_false (by omega)
        have hd2 : decide (n < l0.length + 1) = false := decide_eq_false hij
        obtain rfl : n = l0.length + 1 := by have := HI.out; omega
        obtain ⟨A9, c9, rfl, l9, k9⟩ := Kd.R_reads RO.out
        have K9 := Aside0.mk k9
        have L9 := Aside0.mk l9
        clear k9 l9
        go_wp2_with (first | ((with_reducible refine gate_callee (f := 40) rfl ?_); refine gL_ (some 47) Try.func40 (curve_Check.calls A9 c9 (ptsF (l0.map (·.f0)) (l0.map (·.f1)) (l0.length + 1)) _ _ K9.out L9.out rfl) ?_; rintro e w12 ⟨rfl, hb⟩; refine ⟨.int .i64 (checkC (ptsF (l0.map (·.f0)) (l0.map (·.f1)) (l0.length + 1))), rfl, ?_⟩; replace hb := nb_ HB hb; replace RO := Aside0.mk (Kd.R_below RO.out hb); replace HB := bs_ HB hb; clear hb))
        go_ret2
        exact ⟨_, rfl, Kd.R_lower RO.out HWV.out, HB.out⟩
  · rw [if_neg hv] at h
    obtain ⟨rfl, rfl⟩ : ([] : List S60) = r1 ∧ (20 : Int) = r2 := by simpa using h
    clear h
    have hK : vessel_Check.f 30 l0 = some 20 := by rw [vCheck]; unfold checkF; rw [Bool.not_eq_true] at hv; rw [hv]; rfl
    have HK := Aside0.mk hK
    clear hK hv
    go_enter Try.func107, Try.ntmps107
    go_wp2_with (first | ((with_reducible refine gate_callee (f := 48) rfl ?_); refine gL_ (some 13) Try.func48 (vessel_Check.calls 30 A0 c0 l0 20 _ (Kd.C_below HR0.out HB.out) HC0.out HK.out) ?_; rintro e w2 ⟨rfl, hb⟩; refine ⟨.int .i64 20, rfl, ?_⟩; replace hb := nb_ HB hb; replace HB := bs_ HB hb; clear hb))
    go_ret2
    exact ⟨_, rfl, Kd.R_nil _ _ _ _ _, HB.out⟩
def vessel_Holding.f (l0 : List S79) : Option (List S60 × Int) := some (drawF (·.f1) l0)
set_option maxHeartbeats 1600000 in
set_option maxRecDepth 100000 in
theorem vessel_Holding.calls (A0 : Option Addr) (c0 : Nat) (l0 : List S79) (r1 : List S60) (r2 : Int) (w : World) (hr0 : Kd.C k79 w A0 l0.length l0) (hc0 : l0.length ≤ c0) (h : vessel_Holding.f l0 = some (r1, r2)) :
    Calls Try.prog 39 #[.slice A0 l0.length c0] w fun e w' => ∃ v0_ : Value, e = .returned (.tuple #[v0_, .int .i64 r2]) ∧ Kd.R k60 60 w' w.heap.size (fun _ => True) v0_ r1 ∧ Below w.heap.size w w' := by
  have HB := Aside0.mk (Below.refl w.heap.size w)
  have C1 := volume_drawn.calls A0 c0 l0 r1 r2 w hr0 hc0 (Option.some.inj h)
  clear hr0 hc0 h
  go_enter Try.func39, Try.ntmps39
  go_wp2_with (first | ((with_reducible refine gate_dst (N := 5) rfl ?_); refine goesL_ (some 5) rfl rfl Try.func107 (by kernel_rfl) rfl #[.slice A0 l0.length c0, .func (.func 108) #[] #[]] rfl (by (try simp only [List.map_toArray, List.map_cons, List.map_nil]); first | done | rfl) ?_; refine C1.mono ?_; rintro e w2 ⟨v0_, rfl, RO, hb⟩; refine ⟨_, rfl, ?_⟩))
  go_ret2
  exact ⟨_, rfl, RO, hb⟩
end Go.Proofs.Ytlhfclpbodfmcaa.Pr
namespace Go.Proofs.Ytlhfclpbodfmcaa.Pr
open Go.RowKit Go.Proofs.YtlhfclpbodfmcaaW.PrintWords Go.Proofs.YtlhfclpbodfmcaaW.PrintLast Go.Proofs.YtlhfclpbodfmcaaW.PrintMore
open Go.Proofs.Ytlhfclpbodfmcaa.Vm
set_option linter.unusedVariables false
/-- The points of a curve of sums. -/
def ptsS (hs fs : List Int) (n : Nat) : List S60 := (List.range n).map (fun (i : Nat) => (⟨sm (hs.take i), sm (fs.take i)⟩ : S60))
theorem ptsS_length (hs fs : List Int) (n : Nat) : (ptsS hs fs n).length = n := by simp [ptsS]
theorem ptsS_eq {hs fs : List Int} {A B : Int} (hh : GoodR hs A) (hf : GoodR fs B) (hA : A ≤ 100000) (hB : B ≤ 100000) (hl : hs.length = fs.length) : ptsF hs fs (hs.length + 1) = ptsS hs fs (hs.length + 1) := by
  unfold ptsF ptsS
  apply List.map_congr_left
  intro i hi
  have hi := List.mem_range.1 hi
  rw [hh.rd hA (by omega), hf.rd hB (by omega)]
theorem ptsS_get (hs fs : List Int) (n i : Nat) (h : i < n) : rd_T60 (ptsS hs fs n) (i : Int) = ⟨sm (hs.take i), sm (fs.take i)⟩ := by
  simp [rd_T60, ptsS, List.getD_eq_getElem?_getD, List.getElem?_map, List.getElem?_range h]
theorem checkC_S {hs fs : List Int} {A B : Int} (hh : GoodR hs A) (hf : GoodR fs B) (hA : sm hs ≤ 16777216) (hB : sm fs ≤ 16777216) (hl : hs.length = fs.length) : checkC (ptsS hs fs (hs.length + 1)) = 0 := by
  have bd : ∀ {xs : List Int} {C : Int}, GoodR xs C → sm xs ≤ 16777216 → ∀ i, 0 ≤ sm (xs.take i) ∧ sm (xs.take i) ≤ 16777216 := fun hx hC i => ⟨(hx.pos.take i).sum, Int.le_trans (sm_take_le_all hx.pos i) hC⟩
  have h1 : (ptsS hs fs (hs.length + 1)).all ptB = true := by
    rw [List.all_eq_true]
    intro x hx
    obtain ⟨i, hi, rfl⟩ := List.mem_map.1 hx
    have a := bd hh hA i
    have b := bd hf hB i
    simp only [ptB, coordB, Bool.and_eq_true, decide_eq_true_eq]
    exact ⟨⟨a.1, a.2⟩, ⟨b.1, b.2⟩⟩
  have h2 : incB (ptsS hs fs (hs.length + 1)) = true := by
    unfold incB
    rw [List.all_eq_true, ptsS_length]
    intro x hx
    obtain ⟨i, hi, rfl⟩ := List.mem_map.1 hx
    have hi := List.mem_range.1 hi
    have e : (i : Int) + 1 = ((i + 1 : Nat) : Int) := by omega
    unfold lineAt okLine
    rw [e, ptsS_get _ _ _ _ (by omega), ptsS_get _ _ _ _ (by omega)]
    have s1 := sm_take_succ hs i (by omega)
    have s2 := sm_take_succ fs i (by omega)
    have g1 := hh.gt (r := i) (by omega)
    have g2 := hf.gt (r := i) (by omega)
    simp only [Bool.and_eq_true, decide_eq_true_eq]
    omega
  have hn := hh.ne
  have hN := hh.ln
  unfold checkC
  rw [if_neg, if_pos h2]
  rw [ptsS_length, h1]
  simp
  omega
theorem draw_v {l : List S79} (h : validB l = true) : drawF (·.f1) l = (ptsS (hsO l) (vsO l) (l.length + 1), 0) := by
  have g := valid_GV h
  have S := g.sums
  have e := ptsS_eq g.h g.v (by decide) (by decide) g.hv
  have c := checkC_S g.h g.v (by omega) (by omega) g.hv
  rw [List.length_map] at e c
  unfold drawF
  rw [if_pos h, e, c]
end Go.Proofs.Ytlhfclpbodfmcaa.Pr
namespace Go.Proofs.Ytlhfclpbodfmcaa.Pr
open Go.RowKit Go.Proofs.YtlhfclpbodfmcaaW.PrintWords Go.Proofs.YtlhfclpbodfmcaaW.PrintLast Go.Proofs.YtlhfclpbodfmcaaW.PrintMore
open Go.Proofs.Ytlhfclpbodfmcaa.Vm
set_option linter.unusedVariables false
set_option linter.unusedSimpArgs false
theorem wrp_ {n : Int} (h0 : -9223372036854775808 ≤ n) (h1 : n ≤ 9223372036854775807) : wrap64 n = n := wr h0 h1
end Go.Proofs.Ytlhfclpbodfmcaa.Pr
namespace Go.Proofs.Ytlhfclpbodfmcaa.Pr
open Go.RowKit Go.Proofs.YtlhfclpbodfmcaaW.PrintWords Go.Proofs.YtlhfclpbodfmcaaW.PrintLast Go.Proofs.YtlhfclpbodfmcaaW.PrintMore
open Go.Proofs.Ytlhfclpbodfmcaa.Vm
set_option linter.unusedVariables false
theorem split_at {hs : List Int} {i : Nat} (hi : i < hs.length) : hs = hs.take i ++ Vm.gt hs i :: hs.drop (i + 1) := by
  have e : Vm.gt hs i = hs[i] := by simp [Vm.gt, List.getD_eq_getElem?_getD, List.getElem?_eq_getElem hi]
  rw [e, ← List.drop_eq_getElem_cons hi, List.take_append_drop]
theorem conv_line {hs fs : List Int} {i : Nat} (hi : i < hs.length) (hl : hs.length = fs.length) (ph : Pos hs) (pf : Pos fs) {x : Rat} (h0 : (sm (hs.take i) : Rat) ≤ x) (h1 : x ≤ (sm (hs.take (i + 1)) : Rat)) :
    conv hs fs x = (sm (fs.take i) : Rat) + (x - (sm (hs.take i) : Rat)) * (Vm.gt fs i : Rat) / (Vm.gt hs i : Rat) := by
  have e1 := split_at hi
  have e2 := split_at (hs := fs) (i := i) (by omega)
  have q1 : Pos (hs.take i ++ Vm.gt hs i :: hs.drop (i + 1)) := by rw [← e1]; exact ph
  have q2 : Pos (fs.take i ++ Vm.gt fs i :: fs.drop (i + 1)) := by rw [← e2]; exact pf
  have := conv_at (x := x) (by simp; omega) q1 q2 h0 (by rw [sm_take_succ hs i hi, Rat.intCast_add] at h1; exact h1)
  rwa [← e1, ← e2] at this
theorem line_found {hs : List Int} (ph : Pos hs) {x : Int} (h0 : 0 ≤ x) : ∀ n, n ≤ hs.length → 1 ≤ n → x ≤ sm (hs.take n) → ∃ i, i < n ∧ sm (hs.take i) ≤ x ∧ x ≤ sm (hs.take (i + 1)) := by
  intro n
  induction n with
  | zero => intro _ h; omega
  | succ n ih =>
    intro hn _ hx
    by_cases h : n = 0
    · subst h; exact ⟨0, by omega, by simpa [sm] using h0, hx⟩
    · by_cases hy : x ≤ sm (hs.take n)
      · obtain ⟨i, a, b⟩ := ih (by omega) (by omega) hy
        exact ⟨i, by omega, b⟩
      · exact ⟨n, by omega, by omega, hx⟩
theorem first_line {hs fs : List Int} (ph : Pos hs) (hn : 1 ≤ hs.length) {x : Int} (h0 : 0 ≤ x) (h1 : x ≤ sm hs) :
    ∃ i, i < hs.length ∧ sm (hs.take i) ≤ x ∧ x ≤ sm (hs.take (i + 1)) ∧ firstL (ptsS hs fs (hs.length + 1)) x = (⟨sm (hs.take i), sm (fs.take i)⟩, ⟨sm (hs.take (i + 1)), sm (fs.take (i + 1))⟩) := by
  have hline : ∀ i, i < hs.length → lineAt (ptsS hs fs (hs.length + 1)) i = (⟨sm (hs.take i), sm (fs.take i)⟩, ⟨sm (hs.take (i + 1)), sm (fs.take (i + 1))⟩) := fun i hi => by
    have e : (i : Int) + 1 = ((i + 1 : Nat) : Int) := by omega
    unfold lineAt
    rw [e, ptsS_get _ _ _ _ (by omega), ptsS_get _ _ _ _ (by omega)]
  obtain ⟨j, j1, j2, j3⟩ := line_found ph h0 hs.length (Nat.le_refl _) hn (by rw [List.take_of_length_le (Nat.le_refl _)]; exact h1)
  have hmem : lineAt (ptsS hs fs (hs.length + 1)) j ∈ upto (lineAt (ptsS hs fs (hs.length + 1))) ((ptsS hs fs (hs.length + 1)).length - 1) := by
    simp only [upto, List.mem_map, List.mem_range, ptsS_length]
    exact ⟨j, by omega, rfl⟩
  have hj : hasB x (lineAt (ptsS hs fs (hs.length + 1)) j) = true := by rw [hline j j1]; simp [hasB, j2, j3]
  unfold firstL
  cases hf : (upto (lineAt (ptsS hs fs (hs.length + 1))) ((ptsS hs fs (hs.length + 1)).length - 1)).find? (hasB x) with
  | none => exact absurd hj (List.find?_eq_none.1 hf _ hmem)
  | some y =>
    have hy := List.find?_some hf
    have hm := List.mem_of_find?_eq_some hf
    simp only [upto, List.mem_map, List.mem_range, ptsS_length] at hm
    obtain ⟨i, hi, rfl⟩ := hm
    have hi' : i < hs.length := by omega
    rw [hline i hi'] at hy
    simp only [hasB, Bool.and_eq_true, decide_eq_true_eq] at hy
    exact ⟨i, hi', hy.1, hy.2, by rw [Option.getD_some]; exact hline i hi'⟩
theorem take_b2 {xs : List Int} (h : Pos xs) (i : Nat) : 0 ≤ sm (xs.take i) ∧ sm (xs.take i) ≤ sm xs := ⟨(h.take i).sum, sm_take_le_all h i⟩
theorem curve_vals {hs fs : List Int} {A B : Int} (hh : GoodR hs A) (hf : GoodR fs B) (hA : sm hs ≤ 16777216) (hB : sm fs ≤ 16777216) (hl : hs.length = fs.length) {x : Int} (h0 : 0 ≤ x) (h1 : x ≤ sm hs) :
    curve_within.f (ptsS hs fs (hs.length + 1)) x = some true ∧
    curve_line_low.f (firstL (ptsS hs fs (hs.length + 1)) x).1.f0 (firstL (ptsS hs fs (hs.length + 1)) x).1.f1 (firstL (ptsS hs fs (hs.length + 1)) x).2.f0 (firstL (ptsS hs fs (hs.length + 1)) x).2.f1 x = some (conv hs fs (x : Rat)).floor ∧
    curve_line_up.f (firstL (ptsS hs fs (hs.length + 1)) x).1.f0 (firstL (ptsS hs fs (hs.length + 1)) x).1.f1 (firstL (ptsS hs fs (hs.length + 1)) x).2.f0 (firstL (ptsS hs fs (hs.length + 1)) x).2.f1 x = some (conv hs fs (x : Rat)).ceil := by
  have ln := hh.ln
  refine ⟨?_, ?_⟩
  · unfold curve_within.f
    rw [ptsS_length]
    have e : wrap64 (((hs.length + 1 : Nat) : Int) - 1) = (hs.length : Int) := by rw [wrp_ (by omega) (by omega)]; omega
    have g0 : rd_T60 (ptsS hs fs (hs.length + 1)) 0 = ⟨sm (hs.take 0), sm (fs.take 0)⟩ := ptsS_get hs fs (hs.length + 1) 0 (by omega)
    have g1 := ptsS_get hs fs (hs.length + 1) hs.length (by omega)
    rw [if_pos (by omega), e, g0, g1, if_pos (by simp [sm]; exact h0), if_pos (by omega), if_pos (by omega), List.take_of_length_le (Nat.le_refl _), decide_eq_true h1]
  · obtain ⟨i, hi, x0, x1, e⟩ := first_line (fs := fs) hh.pos hh.ne h0 h1
    rw [e]
    simp only
    have a1 := hh.gt (r := i) hi
    have a2 := hf.gt (r := i) (by omega)
    have s1 := sm_take_succ hs i hi
    have s2 := sm_take_succ fs i (by omega)
    have t1 := take_b2 hh.pos i
    have t2 := take_b2 hf.pos i
    have t3 := take_b2 hh.pos (i + 1)
    have t4 := take_b2 hf.pos (i + 1)
    have cv := conv_line hi hl hh.pos hf.pos (x := (x : Rat)) (castLe x0) (castLe x1)
    generalize sm (hs.take (i + 1)) = bx at *
    generalize sm (fs.take (i + 1)) = b_y at *
    generalize sm (hs.take i) = ax at *
    generalize sm (fs.take i) = a_y at *
    generalize Vm.gt hs i = h at *
    generalize Vm.gt fs i = f at *
    have w1 : wrap64 (b_y - a_y) = f := by rw [wrp_ (by omega) (by omega)]; omega
    have w2 : wrap64 (bx - ax) = h := by rw [wrp_ (by omega) (by omega)]; omega
    have w3 : wrap64 (x - ax) = x - ax := wrp_ (by omega) (by omega)
    have m0 : 0 ≤ (x - ax) * f := Int.mul_nonneg (by omega) (by omega)
    have m1 : (x - ax) * f ≤ 16777216 * 16777216 := Int.mul_le_mul (by omega) (by omega) (by omega) (by omega)
    have w4 : wrap64 ((x - ax) * f) = (x - ax) * f := wrp_ (by omega) (by omega)
    have hne : ¬ h = 0 := by omega
    have v : conv hs fs (x : Rat) = ((a_y * h + (x - ax) * f : Int) : Rat) / (h : Rat) := by
      have hR := one_le a1.1
      rw [cv, Rat.intCast_add, Rat.intCast_mul, Rat.intCast_mul, Rat.intCast_sub]
      grind
    obtain ⟨o, ho⟩ : ∃ o, (x - ax) * f = o := ⟨_, rfl⟩
    rw [ho] at m0 m1 w4 v
    have q1 := Int.ediv_le_self h m0
    have q2 := Int.ediv_nonneg m0 (show 0 ≤ h by omega)
    have q3 := Int.ediv_le_self h (show 0 ≤ o + h - 1 by omega)
    have q4 := Int.ediv_nonneg (show 0 ≤ o + h - 1 by omega) (show 0 ≤ h by omega)
    have d1 : o.tdiv h = o / h := Int.tdiv_eq_ediv_of_nonneg m0
    have d2 : (o + h - 1).tdiv h = (o + h - 1) / h := Int.tdiv_eq_ediv_of_nonneg (by omega)
    have r1 : (a_y * h + o) / h = a_y + o / h := by rw [Int.add_comm (a_y * h) o, Int.add_mul_ediv_right _ _ hne]; omega
    have r2 : (a_y * h + o + h - 1) / h = a_y + (o + h - 1) / h := by
      have : a_y * h + o + h - 1 = (o + h - 1) + a_y * h := by omega
      rw [this, Int.add_mul_ediv_right _ _ hne]; omega
    refine ⟨?_, ?_⟩
    · unfold curve_line_low.f curve_line_over.f curve_line_high.f curve_line_wide.f
      simp only [Option.bind_some, w1, w2, w3, ho, w4]
      rw [if_neg hne, d1, wrp_ (n := o / h) (by omega) (by omega), wrp_ (by omega) (by omega), v, floor_div _ _ a1.1, r1]
    · unfold curve_line_up.f curve_line_over.f curve_line_high.f curve_line_wide.f
      simp only [Option.bind_some, w1, w2, w3, ho, w4]
      rw [if_neg hne, wrp_ (n := o + h) (by omega) (by omega), wrp_ (n := o + h - 1) (by omega) (by omega), d2, wrp_ (n := (o + h - 1) / h) (by omega) (by omega), wrp_ (by omega) (by omega), v, ceil_div _ _ a1.1, r2]
end Go.Proofs.Ytlhfclpbodfmcaa.Pr
