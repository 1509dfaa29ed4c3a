/- A part of the proof: Lc. -/
import Derived.Test.YtlhfclpbodfmcaaYCKq
import Derived.Test.YtlhfclpbodfmcaaYCTp
import Derived.Test.YtlhfclpbodfmcaaZLb
import Derived.Test.YtlhfclpbodfmcaaYCLb
namespace Go.Proofs.Ytlhfclpbodfmcaa.Pr
open Go.Proofs.Ytlhfclpbodfmcaa.Vm
set_option linter.unusedVariables false
def runX (l : List S79) (lv m : Int) : Rat := vT l (lv : Rat) - uT l (leftM l lv m)
theorem untilR_val {hs vs ds : List Int} (g : GV hs vs ds) {lv : Int} (h0 : 0 ≤ lv) (h1 : lv ≤ sm hs) {c : Ex} (hc : c.ok) (hd : c.d ≤ 1000) (h2 : 0 ≤ c.w) :
    (conv hs vs (lv : Rat) < c.v ∧ (untilR hs vs ds lv c).2 = false) ∨
    (c.v ≤ conv hs vs (lv : Rat) ∧ (untilR hs vs ds lv c).2 = true ∧ (untilR hs vs ds lv c).1.ok ∧ (untilR hs vs ds lv c).1.v = conv hs ds (lv : Rat) - conv vs ds (conv hs vs (lv : Rat) - c.v)) := by
  obtain ⟨r1, r2, r3, r4⟩ := restF_spec g.h g.v g.hv h0 h1 hc hd h2
  have wl := w_le_v r2
  unfold untilR
  by_cases hw : (restF hs vs lv c).w < 0
  · left
    have h3 := castLe (show (restF hs vs lv c).w + 1 ≤ 0 by omega)
    rw [Rat.intCast_add] at h3
    have z0 : ((0 : Int) : Rat) = 0 := rfl
    have z1 : ((1 : Int) : Rat) = 1 := rfl
    rw [if_pos hw]
    exact ⟨by grind, rfl⟩
  · right
    rw [if_neg hw]
    have h3 := castLe (show 0 ≤ (restF hs vs lv c).w by omega)
    have z0 : ((0 : Int) : Rat) = 0 := rfl
    obtain ⟨_, _, _, _, _, _, u1, u2⟩ := untilF_spec g h0 h1 hc hd h2 (by omega)
    exact ⟨by grind, rfl, u2, u1⟩
theorem received_val {v u : List S79} {lv x : Int} (h : VL v lv) (hu : VL u x) :
    ReceivedF v u lv x = if vT v (lv : Rat) < vT u (x : Rat) then erS 4 else rnd (mT v (lv : Rat) - mV v (vT v (lv : Rat) - vT u (x : Rat))) := by
  have g := hu.gv
  obtain ⟨_, _, t1, t2, t3, t4, t5⟩ := timeF_spec g.h g.v g.hv hu.h0 hu.h1
  unfold ReceivedF
  rw [if_pos h.v, if_pos hu.v, h.lv, hu.lv]
  simp only [Bool.and_self, if_true]
  rcases untilR_val h.gv h.h0 h.h1 t2 t3 t4 with ⟨a, b⟩ | ⟨a, b, c, d⟩
  · rw [t1] at a
    rw [b, if_neg (by simp), if_pos (show vT v (lv : Rat) < vT u (x : Rat) from a)]
  · rw [t1] at a d
    rw [b, if_pos rfl, if_neg (by show ¬ conv (hsO v) (vsO v) (lv : Rat) < conv (hsO u) (vsO u) (x : Rat); grind), okS_span c, d]
    rfl
theorem cascade_val {v u : List S79} {lv m : Int} (h : VL v lv) (hu : validB u = true) (m0 : 0 ≤ m) (m1 : m ≤ 16777216) :
    CascadeF v u lv m = if (sm (vsO u) : Rat) < runX v lv m then erS 4 else rnd (hV u (runX v lv m)) := by
  have g := valid_GV hu
  obtain ⟨r1, r2, r3, r4, r5⟩ := runF_spec h.gv h.h0 h.h1 m0
  have hv : (runF (hsO v) (vsO v) (dsO v) lv m).v = runX v lv m := r1
  unfold CascadeF
  rw [if_pos h.v, if_pos hu, h.lv, manyB_iff.2 ⟨m0, m1⟩]
  simp only [Bool.and_self, if_true]
  cases ha : aboveF (runF (hsO v) (vsO v) (dsO v) lv m) (sm (vsO u)) with
  | true =>
    have hx := above_lt r2 ha
    rw [hv] at hx
    rw [if_pos rfl, if_pos hx]
  | false =>
    have hx := not_above r2 ha
    rw [hv] at hx
    rw [if_neg (by simp), if_neg (by grind)]
    have q := tell g.v g.h g.hv.symm r2 r4 (by rw [hv]; exact hx) r3
    rw [okS_span q.2.2.2.1, q.2.2.1, hv]; rfl
theorem fl_mono {x y : Rat} (h : x ≤ y) : x.floor ≤ y.floor := Rat.le_floor_iff.2 (by have := Rat.floor_le x; grind)
theorem ce_mono {x y : Rat} (h : x ≤ y) : x.ceil ≤ y.ceil := Rat.ceil_le_iff.2 (by have := Rat.le_ceil (x := y); grind)
section
variable {l : List S79}
theorem uT_le {lv : Int} (h : VL l lv) {x y : Rat} (x0 : 0 ≤ x) (x1 : x ≤ (sm (dsO l) : Rat)) (y0 : 0 ≤ y) (y1 : y ≤ (sm (dsO l) : Rat)) : uT l x ≤ uT l y ↔ x ≤ y := conv_le_iff (h.gv.hd.symm.trans h.gv.hv) h.gv.d.pos h.gv.v.pos x0 x1 y0 y1
theorem uT_mT {lv : Int} (h : VL l lv) {x : Rat} (h0 : 0 ≤ x) (h1 : x ≤ (sm (hsO l) : Rat)) : uT l (mT l x) = vT l x := conv_conv h.gv.hd (h.gv.hd.symm.trans h.gv.hv) h.gv.h.pos h.gv.d.pos h.gv.v.pos h0 h1
theorem uT_zero {lv : Int} (h : VL l lv) : uT l 0 = 0 := conv_zero h.gv.d.pos
theorem vT_bd {lv : Int} (h : VL l lv) {x : Rat} (h0 : 0 ≤ x) (h1 : x ≤ (sm (hsO l) : Rat)) : 0 ≤ vT l x ∧ vT l x ≤ (sm (vsO l) : Rat) := conv_bounds h.gv.hv h.gv.h.pos h.gv.v.pos h0 h1
theorem hV_vT {lv : Int} (h : VL l lv) {x : Rat} (h0 : 0 ≤ x) (h1 : x ≤ (sm (hsO l) : Rat)) : hV l (vT l x) = x := conv_back h.gv.hv h.gv.h.pos h.gv.v.pos h0 h1
theorem hV_le {lv : Int} (h : VL l lv) {x y : Rat} (x0 : 0 ≤ x) (x1 : x ≤ (sm (vsO l) : Rat)) (y0 : 0 ≤ y) (y1 : y ≤ (sm (vsO l) : Rat)) : hV l x ≤ hV l y ↔ x ≤ y := conv_le_iff h.gv.hv.symm h.gv.v.pos h.gv.h.pos x0 x1 y0 y1
theorem mV_bd {lv : Int} (h : VL l lv) {x : Rat} (h0 : 0 ≤ x) (h1 : x ≤ (sm (vsO l) : Rat)) : 0 ≤ mV l x ∧ mV l x ≤ (sm (dsO l) : Rat) := conv_bounds (h.gv.hv.symm.trans h.gv.hd) h.gv.v.pos h.gv.d.pos h0 h1
theorem uT_mV {lv : Int} (h : VL l lv) {x : Rat} (h0 : 0 ≤ x) (h1 : x ≤ (sm (vsO l) : Rat)) : uT l (mV l x) = x := conv_back (h.gv.hv.symm.trans h.gv.hd) h.gv.v.pos h.gv.d.pos h0 h1
theorem run_more {a m n : Int} (h : VL l a) (m0 : 0 ≤ m) (hn : m ≤ n) : runX l a m ≤ runX l a n := by
  have p := left_bd h m0
  have q := left_bd h (show 0 ≤ n by omega)
  have := (uT_le h q.1 q.2.2 p.1 p.2.2).2 (by have := castLe hn; unfold leftM; split <;> split <;> grind)
  unfold runX; grind
theorem run_bd {a m : Int} (h : VL l a) (m0 : 0 ≤ m) : 0 ≤ runX l a m ∧ runX l a m ≤ vT l (a : Rat) ∧ runX l a m ≤ (sm (vsO l) : Rat) := by
  have p := left_bd h m0
  have h1 := mT_bd h h.c0 h.c1
  have k := (uT_le h p.1 p.2.2 h1.1 h1.2).2 p.2.1
  have z := (uT_le h (Rat.le_refl) (by grind) p.1 p.2.2).2 p.1
  rw [uT_zero h] at z
  rw [uT_mT h h.c0 h.c1] at k
  have v := vT_bd h h.c0 h.c1
  unfold runX
  exact ⟨by grind, by grind, by grind⟩
theorem received_iff {a m : Int} (h : VL l a) (m0 : 0 ≤ m) {c : Rat} (c0 : 0 ≤ c) (c1 : c ≤ vT l (a : Rat)) : c ≤ runX l a m ↔ (mT l (a : Rat) - mV l (vT l (a : Rat) - c)).ceil ≤ m := by
  have v := vT_bd h h.c0 h.c1
  have r0 : 0 ≤ vT l (a : Rat) - c := by grind
  have r1 : vT l (a : Rat) - c ≤ (sm (vsO l) : Rat) := by grind
  have p := left_bd h m0
  have q := mV_bd h r0 r1
  rw [Rat.ceil_le_iff]
  have e : uT l (leftM l a m) ≤ vT l (a : Rat) - c ↔ leftM l a m ≤ mV l (vT l (a : Rat) - c) := by
    rw [← uT_le h p.1 p.2.2 q.1 q.2, uT_mV h r0 r1]
  have e2 : c ≤ runX l a m ↔ uT l (leftM l a m) ≤ vT l (a : Rat) - c := by unfold runX; constructor <;> intro _ <;> grind
  rw [e2, e]
  unfold leftM
  split <;> grind
end
theorem level_iff {u : List S79} {x : Int} (hu : VL u x) {r : Rat} (r0 : 0 ≤ r) (r1 : r ≤ (sm (vsO u) : Rat)) : x ≤ (hV u r).floor ↔ vT u (x : Rat) ≤ r := by
  have v := vT_bd hu hu.c0 hu.c1
  rw [Rat.le_floor_iff, ← hV_le hu v.1 v.2 r0 r1, hV_vT hu hu.c0 hu.c1]
end Go.Proofs.Ytlhfclpbodfmcaa.Pr
