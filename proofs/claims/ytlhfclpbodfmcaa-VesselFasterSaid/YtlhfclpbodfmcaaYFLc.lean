/- A part of the proof: Lc. -/
import Derived.Test.YtlhfclpbodfmcaaYFVm
import Derived.Test.YtlhfclpbodfmcaaYFKq
import Derived.Test.YtlhfclpbodfmcaaZLb
import Derived.Test.YtlhfclpbodfmcaaYFLb
namespace Go.Proofs.Ytlhfclpbodfmcaa.Pr
open Go.Proofs.Ytlhfclpbodfmcaa.Vm
set_option linter.unusedVariables false
def runX (l : List S79) (lv m : Int) : Rat := vT l (lv : Rat) - uT l (leftM l lv m)
theorem run_val' {l : List S79} {lv m : Int} (h : VL l lv) (m0 : 0 ≤ m) (m1 : m ≤ 16777216) : RunF l lv m = rnd (runX l lv m) := run_val h m0 m1
theorem fl_mono {x y : Rat} (h : x ≤ y) : x.floor ≤ y.floor := Rat.le_floor_iff.2 (by have := Rat.floor_le x; grind)
theorem ce_mono {x y : Rat} (h : x ≤ y) : x.ceil ≤ y.ceil := Rat.ceil_le_iff.2 (by have := Rat.le_ceil (x := y); grind)
theorem fl_le {x : Rat} {n : Int} (h : x ≤ (n : Rat)) : x.floor ≤ n := by
  have := Rat.floor_le x
  exact Rat.intCast_le_intCast.1 (by grind)
theorem ce_le {x : Rat} {n : Int} (h : x ≤ (n : Rat)) : x.ceil ≤ n := Rat.ceil_le_iff.2 h
theorem le_ce {x : Rat} {n : Int} (h : (n : Rat) ≤ x) : n ≤ x.ceil := by
  have := Rat.le_ceil (x := x)
  exact Rat.intCast_le_intCast.1 (by grind)
theorem ce_nn {x : Rat} (h : 0 ≤ x) : 0 ≤ x.ceil := le_ce (by simpa using h)
section
variable {l : List S79}
theorem uT_le {lv : Int} (h : VL l lv) {x y : Rat} (x0 : 0 ≤ x) (x1 : x ≤ (sm (dsO l) : Rat)) (y0 : 0 ≤ y) (y1 : y ≤ (sm (dsO l) : Rat)) : uT l x ≤ uT l y ↔ x ≤ y := conv_le_iff (h.gv.hd.symm.trans h.gv.hv) h.gv.d.pos h.gv.v.pos x0 x1 y0 y1
theorem uT_mT {lv : Int} (h : VL l lv) {x : Rat} (h0 : 0 ≤ x) (h1 : x ≤ (sm (hsO l) : Rat)) : uT l (mT l x) = vT l x := conv_conv h.gv.hd (h.gv.hd.symm.trans h.gv.hv) h.gv.h.pos h.gv.d.pos h.gv.v.pos h0 h1
theorem uT_zero {lv : Int} (h : VL l lv) : uT l 0 = 0 := conv_zero h.gv.d.pos
theorem vT_bd {lv : Int} (h : VL l lv) {x : Rat} (h0 : 0 ≤ x) (h1 : x ≤ (sm (hsO l) : Rat)) : 0 ≤ vT l x ∧ vT l x ≤ (sm (vsO l) : Rat) := conv_bounds h.gv.hv h.gv.h.pos h.gv.v.pos h0 h1
theorem steep_mono {s t : Rat} (h : s ≤ t) : ∀ {xs ys : List Int}, Pos xs → Vm.Steep t xs ys → Vm.Steep s xs ys
  | a :: xs, b :: ys, ha, ⟨h1, h2⟩ => ⟨by
      have := Rat.mul_le_mul_of_nonneg_right h (c := (a : Rat)) (by have := one_le ha.head; grind)
      grind, steep_mono h ha.tail h2⟩
  | [], _, _, _ => trivial
  | _ :: _, [], _, _ => trivial
theorem chain_steep : ∀ {r : S79} {t : List S79}, chainB (r :: t) = true → Steep ((r.f1 : Rat) / (r.f2 : Rat)) (dsO t) (vsO t) ∧ Bent (dsO t) (vsO t)
  | r, [], _ => ⟨trivial, trivial⟩
  | r, b :: t, h => by
    simp only [chainB, Bool.and_eq_true, decide_eq_true_eq] at h
    obtain ⟨⟨h1, h2⟩, h3⟩ := h
    obtain ⟨ih1, ih2⟩ := chain_steep h3
    have rr := ringB_iff.1 h1
    have rb := ringB_iff.1 (chain_ring h3 b (by simp))
    have p1 := one_le (show (1 : Int) ≤ r.f2 by omega)
    have p2 := one_le (show (1 : Int) ≤ b.f2 by omega)
    have hc := castLe h2
    rw [Rat.intCast_mul, Rat.intCast_mul] at hc
    have le1 : (r.f1 : Rat) / (r.f2 : Rat) * (b.f2 : Rat) ≤ (b.f1 : Rat) := by
      have : (r.f1 : Rat) / (r.f2 : Rat) * (b.f2 : Rat) = (r.f1 : Rat) * (b.f2 : Rat) / (r.f2 : Rat) := by grind
      rw [this]
      exact div_le p1 hc
    have le2 : (r.f1 : Rat) / (r.f2 : Rat) ≤ (b.f1 : Rat) / (b.f2 : Rat) := le_div p2 le1
    have pt : Pos (dsO t) := by
      intro x hx
      obtain ⟨q, h1, rfl⟩ := List.mem_map.1 hx
      have := ringB_iff.1 (chain_ring h3 q (by simp [h1]))
      omega
    exact ⟨⟨le1, steep_mono le2 pt ih1⟩, ih1, ih2⟩
theorem valid_bent (h : validB l = true) : Bent (dsO l) (vsO l) := by
  unfold validB at h
  rw [Bool.and_eq_true, decide_eq_true_iff] at h
  cases l with
  | nil => trivial
  | cons r t => exact ⟨(chain_steep h.2).1, (chain_steep h.2).2⟩
theorem uT_bent {lv : Int} (h : VL l lv) {x y d : Rat} (h0 : 0 ≤ x) (h1 : x ≤ y) (h2 : 0 ≤ d) (h3 : y + d ≤ (sm (dsO l) : Rat)) : uT l (x + d) - uT l x ≤ uT l (y + d) - uT l y :=
  bent_le (h.gv.hd.symm.trans h.gv.hv) h.gv.d.pos h.gv.v.pos (valid_bent h.v) h0 h1 h2 h3
theorem runX_eq {lv m : Int} (h : VL l lv) : runX l lv m = uT l (mT l (lv : Rat)) - uT l (leftM l lv m) := by unfold runX; rw [uT_mT h h.c0 h.c1]
theorem run_more {a m n : Int} (h : VL l a) (m0 : 0 ≤ m) (hn : m ≤ n) : runX l a m ≤ runX l a n := by
  have p := left_bd h m0
  have q := left_bd h (show 0 ≤ n by omega)
  have := (uT_le h q.1 q.2.2 p.1 p.2.2).2 (by have := castLe hn; unfold leftM; split <;> split <;> grind)
  unfold runX; grind
theorem run_twice {a m : Int} (h : VL l a) (m0 : 0 ≤ m) : runX l a (2 * m) ≤ 2 * runX l a m := by
  have p := left_bd h m0
  have q := left_bd h (show 0 ≤ 2 * m by omega)
  have hb := mT_bd h h.c0 h.c1
  have hm : (0 : Rat) ≤ (m : Rat) := by have := castLe m0; simpa using this
  rw [runX_eq h, runX_eq h]
  have e2 : ((2 * m : Int) : Rat) = 2 * (m : Rat) := by rw [Rat.intCast_mul]; rfl
  have ord : leftM l a (2 * m) ≤ leftM l a m := by unfold leftM; rw [e2]; split <;> split <;> grind
  have top : leftM l a m + (leftM l a m - leftM l a (2 * m)) ≤ mT l (a : Rat) := by unfold leftM; rw [e2]; split <;> split <;> grind
  have k := uT_bent h (x := leftM l a (2 * m)) (y := leftM l a m) (d := leftM l a m - leftM l a (2 * m)) q.1 ord (by grind) (by grind)
  have e : leftM l a (2 * m) + (leftM l a m - leftM l a (2 * m)) = leftM l a m := by grind
  rw [e] at k
  have := (uT_le h (x := leftM l a m + (leftM l a m - leftM l a (2 * m))) (by grind) (by grind) hb.1 hb.2).2 top
  grind
theorem run_lower {a b m : Int} (h : VL l a) (hb : VL l b) (hab : b ≤ a) (m0 : 0 ≤ m) : runX l b m ≤ runX l a m := by
  have p := left_bd h m0
  have q := left_bd hb m0
  have h1 := mT_bd h h.c0 h.c1
  have h2 := mT_bd hb hb.c0 hb.c1
  have h3 := (mT_le h hb.c0 hb.c1 h.c0 h.c1).2 (castLe hab)
  have hm : (0 : Rat) ≤ (m : Rat) := by have := castLe m0; simpa using this
  rw [runX_eq h, runX_eq hb]
  have k := uT_bent h (x := leftM l b m) (y := mT l (a : Rat) - (mT l (b : Rat) - leftM l b m)) (d := mT l (b : Rat) - leftM l b m) q.1 (by grind) (by grind) (by grind)
  have e1 : leftM l b m + (mT l (b : Rat) - leftM l b m) = mT l (b : Rat) := by grind
  have e2 : mT l (a : Rat) - (mT l (b : Rat) - leftM l b m) + (mT l (b : Rat) - leftM l b m) = mT l (a : Rat) := by grind
  rw [e1, e2] at k
  have := (uT_le h p.1 p.2.2 (y := mT l (a : Rat) - (mT l (b : Rat) - leftM l b m)) (by grind) (by grind)).2 (by unfold leftM; split <;> split <;> grind)
  grind
theorem run_bd {a m : Int} (h : VL l a) (m0 : 0 ≤ m) : 0 ≤ runX l a m ∧ runX l a m ≤ vT l (a : Rat) ∧ runX l a m ≤ (sm (vsO l) : Rat) := by
  have p := left_bd h m0
  have h1 := mT_bd h h.c0 h.c1
  have k := (uT_le h p.1 p.2.2 h1.1 h1.2).2 p.2.1
  have z := (uT_le h (Rat.le_refl) (by grind) p.1 p.2.2).2 p.1
  rw [uT_zero h] at z
  rw [uT_mT h h.c0 h.c1] at k
  have v := vT_bd h h.c0 h.c1
  unfold runX
  exact ⟨by grind, by grind, by grind⟩
end
end Go.Proofs.Ytlhfclpbodfmcaa.Pr
