/- A part of the proof: Lc. -/
import Derived.Test.YtlhfclpbodfmcaaYOKq
import Derived.Test.YtlhfclpbodfmcaaYOTp
import Derived.Test.YtlhfclpbodfmcaaZLb
namespace Go.Proofs.Ytlhfclpbodfmcaa.Pr
open Go.Proofs.Ytlhfclpbodfmcaa.Vm
set_option linter.unusedVariables false
theorem before_val {l : List S79} {lv m : Int} (h : VL l lv) (m0 : 0 ≤ m) (m1 : m ≤ 16777216) :
    BeforeF l lv m = if (sm (dsO l) : Rat) < mT l (lv : Rat) + (m : Rat) then erS 4 else rnd (hT l (mT l (lv : Rat) + (m : Rat))) := by
  have g := h.gv
  obtain ⟨_, _, t1, t2, t3, t4, t5⟩ := timeF_spec g.h g.d g.hd h.h0 h.h1
  obtain ⟨p1, p2, p3⟩ := plusF_spec t2 m
  have hv : (beforeE l lv m).v = mT l (lv : Rat) + (m : Rat) := by unfold beforeE; rw [p2, t1]; rfl
  unfold BeforeF asks
  rw [if_pos h.v, h.lv, manyB_iff.2 ⟨m0, m1⟩]
  simp only [Bool.and_self, if_true]
  cases ha : aboveF (beforeE l lv m) (sm (dsO l)) with
  | true =>
    have hx := above_lt (a := beforeE l lv m) p1 ha
    rw [hv] at hx
    rw [if_pos rfl, if_pos hx]
  | false =>
    have hx := not_above (a := beforeE l lv m) p1 ha
    rw [hv] at hx
    rw [if_neg (by simp), if_neg (by grind)]
    have hw : 0 ≤ (beforeE l lv m).w := by show 0 ≤ (timeF (hsO l) (dsO l) lv).w + m; omega
    have q := tell g.d g.h g.hd.symm (e := beforeE l lv m) p1 hw (by rw [hv]; exact hx) (M := 1000) t3
    rw [okS_span q.2.2.2.1, q.2.2.1, hv]; rfl
theorem fl_mono {x y : Rat} (h : x ≤ y) : x.floor ≤ y.floor := Rat.le_floor_iff.2 (by have := Rat.floor_le x; grind)
theorem ce_mono {x y : Rat} (h : x ≤ y) : x.ceil ≤ y.ceil := Rat.ceil_le_iff.2 (by have := Rat.le_ceil (x := y); grind)
theorem fl_add (x y : Rat) : x.floor + y.floor ≤ (x + y).floor := Rat.le_floor_iff.2 (by have := Rat.floor_le x; have := Rat.floor_le y; rw [Rat.intCast_add]; grind)
theorem ce_add (x y : Rat) : (x + y).ceil ≤ x.ceil + y.ceil := Rat.ceil_le_iff.2 (by have := Rat.le_ceil (x := x); have := Rat.le_ceil (x := y); rw [Rat.intCast_add]; grind)
theorem fl_nn {x : Rat} (h : 0 ≤ x) : 0 ≤ x.floor := Rat.le_floor_iff.2 (by simpa using h)
theorem fl_le {x : Rat} {n : Int} (h : x ≤ (n : Rat)) : x.floor ≤ n := by
  have := Rat.floor_le x
  exact Rat.intCast_le_intCast.1 (by grind)
theorem ce_le {x : Rat} {n : Int} (h : x ≤ (n : Rat)) : x.ceil ≤ n := Rat.ceil_le_iff.2 h
theorem le_ce {x : Rat} {n : Int} (h : (n : Rat) ≤ x) : n ≤ x.ceil := by
  have := Rat.le_ceil (x := x)
  exact Rat.intCast_le_intCast.1 (by grind)
theorem ce_nn {x : Rat} (h : 0 ≤ x) : 0 ≤ x.ceil := le_ce (by simpa using h)
section
variable {l : List S79}
theorem VL.fl {lv : Int} (h : VL l lv) {x : Rat} (h0 : 0 ≤ x) (h1 : x ≤ (sm (hsO l) : Rat)) : VL l x.floor := ⟨h.v, fl_nn h0, fl_le h1⟩
theorem VL.ce {lv : Int} (h : VL l lv) {x : Rat} (h0 : 0 ≤ x) (h1 : x ≤ (sm (hsO l) : Rat)) : VL l x.ceil := ⟨h.v, ce_nn h0, ce_le h1⟩
theorem hT_le {lv : Int} (h : VL l lv) {x y : Rat} (x0 : 0 ≤ x) (x1 : x ≤ (sm (dsO l) : Rat)) (y0 : 0 ≤ y) (y1 : y ≤ (sm (dsO l) : Rat)) : hT l x ≤ hT l y ↔ x ≤ y := conv_le_iff h.gv.hd.symm h.gv.d.pos h.gv.h.pos x0 x1 y0 y1
theorem hT_mT {lv : Int} (h : VL l lv) {x : Rat} (h0 : 0 ≤ x) (h1 : x ≤ (sm (hsO l) : Rat)) : hT l (mT l x) = x := conv_back h.gv.hd h.gv.h.pos h.gv.d.pos h0 h1
theorem later_le {a b m n : Int} (ha : VL l a) (hb : VL l b) (m0 : 0 ≤ m) (n0 : 0 ≤ n) (h : (b : Rat) ≤ afterX l a m) : afterX l b n ≤ afterX l a (m + n) := by
  have hx := after_bd ha m0
  have h1 := (mT_le ha hb.c0 hb.c1 hx.1 hx.2).2 h
  rw [mT_after ha m0] at h1
  have p := left_bd hb n0
  have q := left_bd ha (show 0 ≤ m + n by omega)
  refine (hT_le ha p.1 p.2.2 q.1 q.2.2).2 ?_
  have hn : (0 : Rat) ≤ (n : Rat) := by have := castLe n0; simpa using this
  have hm : (0 : Rat) ≤ (m : Rat) := by have := castLe m0; simpa using this
  unfold leftM at h1 ⊢
  rw [Rat.intCast_add]
  split at h1 <;> split <;> split <;> grind
theorem le_later {a b m n : Int} (ha : VL l a) (hb : VL l b) (m0 : 0 ≤ m) (n0 : 0 ≤ n) (h : afterX l a m ≤ (b : Rat)) : afterX l a (m + n) ≤ afterX l b n := by
  have hx := after_bd ha m0
  have h1 := (mT_le ha hx.1 hx.2 hb.c0 hb.c1).2 h
  rw [mT_after ha m0] at h1
  have p := left_bd hb n0
  have q := left_bd ha (show 0 ≤ m + n by omega)
  refine (hT_le ha q.1 q.2.2 p.1 p.2.2).2 ?_
  have hn : (0 : Rat) ≤ (n : Rat) := by have := castLe n0; simpa using this
  have hm : (0 : Rat) ≤ (m : Rat) := by have := castLe m0; simpa using this
  unfold leftM at h1 ⊢
  rw [Rat.intCast_add]
  split at h1 <;> split <;> split <;> grind
theorem back_le {a b m : Int} (ha : VL l a) (hb : VL l b) (m0 : 0 ≤ m) (h1 : mT l (a : Rat) + (m : Rat) ≤ (sm (dsO l) : Rat)) (h : (b : Rat) ≤ hT l (mT l (a : Rat) + (m : Rat))) : afterX l b m ≤ (a : Rat) := by
  have hm : (0 : Rat) ≤ (m : Rat) := by have := castLe m0; simpa using this
  have ma := mT_bd ha ha.c0 ha.c1
  have z0 : 0 ≤ mT l (a : Rat) + (m : Rat) := by grind
  have hz := hT_bd ha z0 h1
  have h2 := (mT_le ha hb.c0 hb.c1 hz.1 hz.2).2 h
  rw [mT_hT ha z0 h1] at h2
  have p := left_bd hb m0
  have e : afterX l b m ≤ hT l (mT l (a : Rat)) := (hT_le ha p.1 p.2.2 ma.1 ma.2).2 (by unfold leftM; split <;> grind)
  rwa [hT_mT ha ha.c0 ha.c1] at e
theorem le_back {a b m : Int} (ha : VL l a) (hb : VL l b) (m0 : 0 ≤ m) (h1 : mT l (a : Rat) + (m : Rat) ≤ (sm (dsO l) : Rat)) (h : hT l (mT l (a : Rat) + (m : Rat)) ≤ (b : Rat)) : (a : Rat) ≤ afterX l b m := by
  have hm : (0 : Rat) ≤ (m : Rat) := by have := castLe m0; simpa using this
  have ma := mT_bd ha ha.c0 ha.c1
  have z0 : 0 ≤ mT l (a : Rat) + (m : Rat) := by grind
  have hz := hT_bd ha z0 h1
  have h2 := (mT_le ha hz.1 hz.2 hb.c0 hb.c1).2 h
  rw [mT_hT ha z0 h1] at h2
  have p := left_bd hb m0
  have e : hT l (mT l (a : Rat)) ≤ afterX l b m := (hT_le ha ma.1 ma.2 p.1 p.2.2).2 (by unfold leftM; split <;> grind)
  rwa [hT_mT ha ha.c0 ha.c1] at e
end
end Go.Proofs.Ytlhfclpbodfmcaa.Pr
