/- A part of the proof: Lb. -/
import Derived.Test.YtlhfclpbodfmcaaXTp
namespace Go.Proofs.Ytlhfclpbodfmcaa.Pr
open Go.Proofs.Ytlhfclpbodfmcaa.Vm
set_option linter.unusedVariables false
theorem spanF_eq {e : Ex} (h : e.ok) : spanF e = (e.v.floor, e.v.ceil) := by
  unfold spanF
  rw [floor_v h, ceil_v h]
/-- Down and up, no error. -/
def rnd (x : Rat) : Int × Int × Int := (x.floor, x.ceil, 0)
theorem okS_span {e : Ex} (h : e.ok) : okS (spanF e) = rnd e.v := by rw [spanF_eq h]; rfl
/-- A valid vessel and a level of it. -/
structure VL (l : List S79) (lv : Int) : Prop where
  v : validB l = true
  h0 : 0 ≤ lv
  h1 : lv ≤ sm (hsO l)
theorem VL.lv {l : List S79} {lv : Int} (h : VL l lv) : lvB l lv = true := lvB_iff.2 ⟨h.h0, h.h1⟩
theorem VL.gv {l : List S79} {lv : Int} (h : VL l lv) : GV (hsO l) (vsO l) (dsO l) := valid_GV h.v
theorem VL.c0 {l : List S79} {lv : Int} (h : VL l lv) : (0 : Rat) ≤ (lv : Rat) := by have := castLe h.h0; simpa using this
theorem VL.c1 {l : List S79} {lv : Int} (h : VL l lv) : (lv : Rat) ≤ (sm (hsO l) : Rat) := castLe h.h1
/-- Minutes and volume below a level, the level to minutes and to a volume. -/
def mT (l : List S79) (x : Rat) : Rat := conv (hsO l) (dsO l) x
def hT (l : List S79) (x : Rat) : Rat := conv (dsO l) (hsO l) x
def hV (l : List S79) (x : Rat) : Rat := conv (vsO l) (hsO l) x
def leftM (l : List S79) (lv m : Int) : Rat := if mT l (lv : Rat) ≤ (m : Rat) then 0 else mT l (lv : Rat) - (m : Rat)
def afterX (l : List S79) (lv m : Int) : Rat := hT l (leftM l lv m)
theorem after_val {l : List S79} {lv m : Int} (h : VL l lv) (m0 : 0 ≤ m) (m1 : m ≤ 16777216) : AfterF l lv m = rnd (afterX l lv m) := by
  have g := h.gv
  have p := placeF_spec g.h g.d g.hd g.h g.hd.symm h.h0 h.h1 m0
  unfold AfterF asks
  rw [if_pos h.v, h.lv, manyB_iff.2 ⟨m0, m1⟩]
  simp only [Bool.and_self, if_true]
  rw [okS_span p.2.2.2.1, p.2.2.1]
  rfl
theorem sink_val {l : List S79} {a b : Int} (ha : VL l a) (hb : VL l b) (hab : b ≤ a) : SinkingF l a b = rnd (mT l (a : Rat) - mT l (b : Rat)) := by
  have g := ha.gv
  obtain ⟨_, _, p3, p4, p5, _⟩ := timeF_spec g.h g.d g.hd ha.h0 ha.h1
  obtain ⟨_, _, q3, q4, q5, _⟩ := timeF_spec g.h g.d g.hd hb.h0 hb.h1
  obtain ⟨r1, r2, _⟩ := lessF_spec p4 q4 p5 q5
  unfold SinkingF
  rw [if_pos ha.v, ha.lv, hb.lv, if_pos (by rfl), if_neg (by omega), okS_span r2, r1, p3, q3]
  rfl
section
variable {l : List S79}
theorem mT_bd {lv : Int} (h : VL l lv) {x : Rat} (h0 : 0 ≤ x) (h1 : x ≤ (sm (hsO l) : Rat)) : 0 ≤ mT l x ∧ mT l x ≤ (sm (dsO l) : Rat) := conv_bounds h.gv.hd h.gv.h.pos h.gv.d.pos h0 h1
theorem hT_bd {lv : Int} (h : VL l lv) {x : Rat} (h0 : 0 ≤ x) (h1 : x ≤ (sm (dsO l) : Rat)) : 0 ≤ hT l x ∧ hT l x ≤ (sm (hsO l) : Rat) := conv_bounds h.gv.hd.symm h.gv.d.pos h.gv.h.pos h0 h1
theorem mT_hT {lv : Int} (h : VL l lv) {x : Rat} (h0 : 0 ≤ x) (h1 : x ≤ (sm (dsO l) : Rat)) : mT l (hT l x) = x := conv_back h.gv.hd.symm h.gv.d.pos h.gv.h.pos h0 h1
theorem mT_le {lv : Int} (h : VL l lv) {x y : Rat} (x0 : 0 ≤ x) (x1 : x ≤ (sm (hsO l) : Rat)) (y0 : 0 ≤ y) (y1 : y ≤ (sm (hsO l) : Rat)) : mT l x ≤ mT l y ↔ x ≤ y := conv_le_iff h.gv.hd h.gv.h.pos h.gv.d.pos x0 x1 y0 y1
theorem left_bd {lv m : Int} (h : VL l lv) (m0 : 0 ≤ m) : 0 ≤ leftM l lv m ∧ leftM l lv m ≤ mT l (lv : Rat) ∧ leftM l lv m ≤ (sm (dsO l) : Rat) := leftF_bd h.gv.h h.gv.d h.gv.hd h.h0 h.h1 m0
theorem after_bd {lv m : Int} (h : VL l lv) (m0 : 0 ≤ m) : 0 ≤ afterX l lv m ∧ afterX l lv m ≤ (sm (hsO l) : Rat) := hT_bd h (left_bd h m0).1 (left_bd h m0).2.2
theorem mT_after {lv m : Int} (h : VL l lv) (m0 : 0 ≤ m) : mT l (afterX l lv m) = leftM l lv m := mT_hT h (left_bd h m0).1 (left_bd h m0).2.2
end
theorem rnd_bd (x : Rat) : x.floor ≤ x.ceil ∧ x.ceil ≤ x.floor + 1 := by
  have h1 := Rat.floor_le x
  have h2 := Rat.le_ceil (x := x)
  have h3 := Rat.lt_floor (x := x)
  refine ⟨Rat.intCast_le_intCast.1 (by grind), ?_⟩
  have : x ≤ ((x.floor + 1 : Int) : Rat) := by rw [Rat.intCast_add]; have : ((1 : Int) : Rat) = 1 := rfl; grind
  exact Rat.ceil_le_iff.2 this
theorem bothWays_law {l : List S79} {a b m : Int} (ha : VL l a) (hb : VL l b) (hab : b ≤ a) (m0 : 0 ≤ m) :
    (b = 0 ∨ (b ≤ (afterX l a m).floor ↔ m ≤ (mT l (a : Rat) - mT l (b : Rat)).floor)) ∧ ((afterX l a m).ceil ≤ b ↔ (mT l (a : Rat) - mT l (b : Rat)).ceil ≤ m) := by
  have hx := after_bd ha m0
  have e1 : ∀ n : Int, ((b : Rat) ≤ afterX l a m ↔ mT l (b : Rat) ≤ leftM l a m) := fun n => by rw [← mT_after ha m0, mT_le ha hb.c0 hb.c1 hx.1 hx.2]
  have e2 : (afterX l a m ≤ (b : Rat) ↔ leftM l a m ≤ mT l (b : Rat)) := by rw [← mT_after ha m0, mT_le ha hx.1 hx.2 hb.c0 hb.c1]
  have hm : (0 : Rat) ≤ (m : Rat) := by have := castLe m0; simpa using this
  have hbb := mT_bd ha hb.c0 hb.c1
  constructor
  · by_cases hz : b = 0
    · exact .inl hz
    · right
      have hp : 0 < mT l (b : Rat) := by
        have h1 : (0 : Rat) < (b : Rat) := by have := castLt (show 0 < b by have := hb.h0; omega); simpa using this
        have := conv_lt ha.gv.hd ha.gv.h.pos ha.gv.d.pos (Rat.le_refl) h1 hb.c1
        rw [conv_zero ha.gv.h.pos] at this
        exact this
      rw [Rat.le_floor_iff, Rat.le_floor_iff, e1 0]
      unfold leftM
      split <;> grind
  · rw [Rat.ceil_le_iff, Rat.ceil_le_iff, e2]
    unfold leftM
    split <;> grind
end Go.Proofs.Ytlhfclpbodfmcaa.Pr
