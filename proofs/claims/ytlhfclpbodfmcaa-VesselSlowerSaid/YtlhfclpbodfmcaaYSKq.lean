/- A part of the proof: Kq, Lc, Le, Ra, Rb, Kl, Sl, Rr, Lg, Sv. -/
import Derived.Test.YtlhfclpbodfmcaaYSWMore
import Derived.Test.YtlhfclpbodfmcaaXLb
import Derived.Test.YtlhfclpbodfmcaaXRt
import Derived.WalkMore
namespace Go.Proofs.Ytlhfclpbodfmcaa.Pr
open Go.RowKit Go.Proofs.YtlhfclpbodfmcaaW.PrintWords Go.Proofs.YtlhfclpbodfmcaaW.PrintLast Go.Proofs.YtlhfclpbodfmcaaW.PrintMore
set_option linter.unusedVariables false
section
variable {P : Program} {ops : Array Oper} {Q : Exit → Act → World → Prop} {md : Region.Mode} {S : World → Prop} {ds : List Nat}
end
theorem fb_ {n : Nat} {w W X : World} (HB : Aside0 (Below n w W)) (h : Below W.heap.size W X := by repeat (first | exact Below.refl _ _ | apply below_alloc | apply pw_below_drewN | apply below_drew1)) (hn : n ≤ W.heap.size := by first | exact HB.out.size | exact Nat.le_refl _) : Below n w X := HB.out.trans (h.mono hn)
section
variable {P : Program} {ops : Array Oper} {Q : Exit → Act → World → Prop}
end
end Go.Proofs.Ytlhfclpbodfmcaa.Pr
namespace Go.Proofs.Ytlhfclpbodfmcaa.Pr
open Go.Proofs.Ytlhfclpbodfmcaa.Vm
set_option linter.unusedVariables false
theorem fl_mono {x y : Rat} (h : x ≤ y) : x.floor ≤ y.floor := Rat.le_floor_iff.2 (by have := Rat.floor_le x; grind)
theorem ce_mono {x y : Rat} (h : x ≤ y) : x.ceil ≤ y.ceil := Rat.ceil_le_iff.2 (by have := Rat.le_ceil (x := y); grind)
theorem fl_nn {x : Rat} (h : 0 ≤ x) : 0 ≤ x.floor := Rat.le_floor_iff.2 (by simpa using h)
section
variable {l : List S79}
end
end Go.Proofs.Ytlhfclpbodfmcaa.Pr
namespace Go.Proofs.Ytlhfclpbodfmcaa.Pr
open Go.Proofs.Ytlhfclpbodfmcaa.Vm
set_option linter.unusedVariables false
theorem rightP {l0 : List S79} {l1 l2 : List Int} (h : rightB l0 l1 l2 = true) : validB l0 = true ∧ (∀ n ∈ l2, 0 ≤ n ∧ n ≤ sm (hsO l0)) ∧ (∀ n ∈ l1, 0 ≤ n ∧ n ≤ 8388608) ∧ l0.length ≤ 40 := by
  unfold rightB fewB lvlB at h
  simp only [Bool.and_eq_true, decide_eq_true_eq, List.all_eq_true] at h
  exact ⟨h.2.1, h.2.2.1, h.2.2.2, h.1⟩
end Go.Proofs.Ytlhfclpbodfmcaa.Pr
namespace Go.Proofs.Ytlhfclpbodfmcaa.Pr
open Go.RowKit Go.Proofs.YtlhfclpbodfmcaaW.PrintWords Go.Proofs.YtlhfclpbodfmcaaW.PrintLast Go.Proofs.YtlhfclpbodfmcaaW.PrintMore
open Go.Proofs.Ytlhfclpbodfmcaa.Vm
set_option linter.unusedVariables false
set_option linter.unusedSimpArgs false
theorem wrp_ {n : Int} (h0 : -9223372036854775808 ≤ n) (h1 : n ≤ 9223372036854775807) : wrap64 n = n := wr h0 h1
end Go.Proofs.Ytlhfclpbodfmcaa.Pr
namespace Go.Proofs.Ytlhfclpbodfmcaa.Pr
open Go.RowKit Go.Proofs.YtlhfclpbodfmcaaW.PrintWords Go.Proofs.YtlhfclpbodfmcaaW.PrintLast Go.Proofs.YtlhfclpbodfmcaaW.PrintMore
open Go.Proofs.Ytlhfclpbodfmcaa.Vm
set_option linter.unusedVariables false
set_option linter.unusedSimpArgs false
attribute [local go_sem] fld79_0 fld79_1 fld79_2
theorem rd79_gt (l : List S79) (i : Nat) (h : i < l.length) : gt (hsO l) i = (rd_T79 l (i : Int)).f0 ∧ gt (vsO l) i = (rd_T79 l (i : Int)).f1 ∧ gt (dsO l) i = (rd_T79 l (i : Int)).f2 := by
  simp [gt, rd_T79, List.getD_eq_getElem?_getD, List.getElem?_eq_getElem h]
theorem take_b {xs : List Int} (h : Pos xs) (i : Nat) : 0 ≤ sm (xs.take i) ∧ sm (xs.take i) ≤ sm xs := ⟨(h.take i).sum, sm_take_le_all h i⟩
end Go.Proofs.Ytlhfclpbodfmcaa.Pr
namespace Go.Proofs.Ytlhfclpbodfmcaa.Pr
open Go.RowKit Go.Proofs.YtlhfclpbodfmcaaW.PrintWords Go.Proofs.YtlhfclpbodfmcaaW.PrintLast Go.Proofs.YtlhfclpbodfmcaaW.PrintMore
set_option linter.unusedVariables false
/-- A literal row of numbers. -/
theorem litJ (W : World) (xs : List Int) (hm : xs.length ≤ 1000) : Kd.C (Kd.int .i64) (W.alloc (.cells (xs.map (.int .i64)).toArray 3 (0, 0))) (some ⟨W.heap.size, 0, none⟩) xs.length xs := by
  refine ⟨rfl, by omega, fun _ => ⟨⟨W.heap.size, 0, none⟩, rfl, fun j p hj => ⟨[.int .i64 p], rfl, rfl, fun i u hu => ?_⟩⟩⟩
  rcases i with _ | i
  · simp at hu
    subst hu
    obtain ⟨hl, hp⟩ := List.getElem?_eq_some_iff.1 hj
    have h2 := blk_cell (blk_new W (.cells (xs.map (.int .i64)).toArray 3 (0, 0))) j
    simp [add_plain, show (Kd.int IntKind.i64).sz = 1 from rfl, hj]
  · simp at hu
theorem nw_ (W : World) (C : Obj) : Aside0 ((W.alloc C).heap[W.heap.size]? = some C) := ⟨blk_new W C⟩
theorem ba_ (W : World) (C : Obj) : Below W.heap.size W (W.alloc C) := below_alloc (Below.refl _ _) _
/-- A row of the caller's, later. -/
theorem kc_ {α : Type} {d : Kd α} {w W : World} {A : Option Addr} {l : List α} (h : Aside0 (Kd.C d w A l.length l)) (hb : Aside0 (Below w.heap.size w W)) : Kd.C d W A l.length l := Kd.C_below h.out hb.out
end Go.Proofs.Ytlhfclpbodfmcaa.Pr
namespace Go.Proofs.Ytlhfclpbodfmcaa.Pr
open Go.RowKit Go.Proofs.YtlhfclpbodfmcaaW.PrintWords Go.Proofs.YtlhfclpbodfmcaaW.PrintLast Go.Proofs.YtlhfclpbodfmcaaW.PrintMore
open Go.Proofs.Ytlhfclpbodfmcaa.Vm
set_option linter.unusedVariables false
/-- The ring over a level. -/
def overF : List S79 → Int → S79
  | [], _ => z79
  | r :: t, x => if x < r.f0 then r else overF t (x - r.f0)
theorem over_at : ∀ {l : List S79} {i : Nat} {x : Int}, Pos (hsO l) → i < l.length → sm ((hsO l).take i) ≤ x → x < sm ((hsO l).take (i + 1)) → overF l x = rd_T79 l (i : Int)
  | r :: t, 0, x, hp, hi, h0, h1 => by
    simp [hsO, sm] at h1
    simp only [overF]
    rw [if_pos h1]
    simp [rd_T79]
  | r :: t, i + 1, x, hp, hi, h0, h1 => by
    have hp' : Pos (r.f0 :: hsO t) := hp
    have e0 : sm ((hsO (r :: t)).take (i + 1)) = r.f0 + sm ((hsO t).take i) := by simp [hsO, sm]
    have e1 : sm ((hsO (r :: t)).take (i + 1 + 1)) = r.f0 + sm ((hsO t).take (i + 1)) := by simp [hsO, sm]
    have n := (hp'.tail.take i).sum
    simp only [overF]
    rw [if_neg (by omega), over_at (i := i) hp'.tail (by simpa using hi) (by omega) (by omega)]
    simp [rd_T79]
/-- A ring takes at least as long as another one. -/
def pairB (a b : S79) : Bool := decide (a.f2 * b.f0 ≤ b.f2 * a.f0)
def slowB (v u : List S79) : Bool := (List.range (min (sm (hsO v)) (sm (hsO u))).toNat).all fun x => pairB (overF v (x : Int)) (overF u (x : Int))
/-- All levels below one are as they should be. -/
def UpTo (v u : List S79) (n : Int) : Prop := ∀ x : Int, 0 ≤ x → x < n → pairB (overF v x) (overF u x) = true
theorem slowB_iff {v u : List S79} : slowB v u = true ↔ UpTo v u (min (sm (hsO v)) (sm (hsO u))) := by
  unfold slowB UpTo
  rw [List.all_eq_true]
  constructor
  · intro h x h0 h1
    have := h x.toNat (List.mem_range.2 (by omega))
    rwa [Int.toNat_of_nonneg h0] at this
  · intro h x hx
    exact h x (by omega) (by have := List.mem_range.1 hx; omega)
theorem slow_true {v u : List S79} {n : Int} (h : UpTo v u n) (hn : min (sm (hsO v)) (sm (hsO u)) ≤ n) : slowB v u = true := slowB_iff.2 fun x h0 h1 => h x h0 (by omega)
theorem slow_false {v u : List S79} {x : Int} (h0 : 0 ≤ x) (h1 : x < sm (hsO v)) (h2 : x < sm (hsO u)) (h : pairB (overF v x) (overF u x) = false) : slowB v u = false := by
  cases hb : slowB v u with
  | false => rfl
  | true =>
    have := slowB_iff.1 hb x h0 (by omega)
    rw [h] at this
    cases this
def SlowerF (v u : List S79) : Bool × Int := if validB v then (if validB u then (slowB v u, 0) else (false, 20)) else (false, 20)
/-- Where two rings lie over one another all levels are as one of them is. -/
theorem upto_step {v u : List S79} {i k : Nat} {L n : Int} (hv : Pos (hsO v)) (hu : Pos (hsO u)) (hi : i < v.length) (hk : k < u.length) (h : UpTo v u L) (l0 : sm ((hsO v).take i) ≤ L) (l1 : sm ((hsO u).take k) ≤ L) (n0 : n ≤ sm ((hsO v).take (i + 1))) (n1 : n ≤ sm ((hsO u).take (k + 1)))
    (hp : pairB (rd_T79 v (i : Int)) (rd_T79 u (k : Int)) = true) : UpTo v u n := by
  intro x h0 h1
  by_cases hx : x < L
  · exact h x h0 hx
  · rw [over_at hv hi (by omega) (by omega), over_at hu hk (by omega) (by omega)]
    exact hp
end Go.Proofs.Ytlhfclpbodfmcaa.Pr
namespace Go.Proofs.Ytlhfclpbodfmcaa.Pr
open Go.RowKit Go.Proofs.YtlhfclpbodfmcaaW.PrintWords Go.Proofs.YtlhfclpbodfmcaaW.PrintLast Go.Proofs.YtlhfclpbodfmcaaW.PrintMore
open Go.Proofs.Ytlhfclpbodfmcaa.Vm
set_option linter.unusedVariables false
set_option linter.unusedSimpArgs false
attribute [local go_sem] fld79_0 fld79_1 fld79_2 max2_int max_two
theorem over_bd {l : List S79} (g : GV (hsO l) (vsO l) (dsO l)) {x : Int} (h0 : 0 ≤ x) (h1 : x < sm (hsO l)) : 1 ≤ (overF l x).f0 ∧ (overF l x).f0 ≤ 1000 ∧ 1 ≤ (overF l x).f2 ∧ (overF l x).f2 ≤ 20000 := by
  obtain ⟨i, hi, a, b⟩ : ∃ i, i < l.length ∧ sm ((hsO l).take i) ≤ x ∧ x < sm ((hsO l).take (i + 1)) := by
    have key : ∀ n : Nat, n ≤ l.length → x < sm ((hsO l).take n) → ∃ i, i < n ∧ sm ((hsO l).take i) ≤ x ∧ x < sm ((hsO l).take (i + 1)) := by
      intro n
      induction n with
      | zero => intro _ h; simp [sm] at h; omega
      | succ n ih =>
        intro hn h
        by_cases hx : x < sm ((hsO l).take n)
        · obtain ⟨i, h1, h2⟩ := ih (by omega) hx
          exact ⟨i, by omega, h2⟩
        · exact ⟨n, by omega, by omega, h⟩
    exact key l.length (Nat.le_refl _) (by rw [List.take_of_length_le (by simp)]; exact h1)
  rw [over_at g.h.pos hi a b]
  obtain ⟨e0, e1, e2⟩ := rd79_gt l i hi
  have a0 := g.h.gt (r := i) (by simpa using hi)
  have a2 := g.d.gt (r := i) (by simpa using hi)
  omega
end Go.Proofs.Ytlhfclpbodfmcaa.Pr
namespace Go.Proofs.Ytlhfclpbodfmcaa.Pr
open Go.Proofs.Ytlhfclpbodfmcaa.Vm
set_option linter.unusedVariables false
theorem conv_hi {a b : Int} {xs ys : List Int} {x : Rat} (ha : 1 ≤ a) (hp : Pos xs) (h : (a : Rat) ≤ x) : conv (a :: xs) (b :: ys) x = (b : Rat) + conv xs ys (x - (a : Rat)) := by
  by_cases hx : x ≤ (a : Rat)
  · have e : x = (a : Rat) := Rat.le_antisymm hx h
    have e2 : (a : Rat) - (a : Rat) = 0 := by grind
    rw [conv_low hx, e, e2, conv_zero hp]
    have : (1 : Rat) ≤ (a : Rat) := by have := castLe ha; simpa using this
    grind
  · exact conv_high hx
/-- Minutes over a whole level and up to the next one. -/
theorem conv_unit : ∀ {l : List S79} {k : Int} {x : Rat}, Pos (hsO l) → 0 ≤ k → k < sm (hsO l) → (k : Rat) ≤ x → x ≤ ((k + 1 : Int) : Rat) →
    mT l x = mT l (k : Rat) + (x - (k : Rat)) * (((overF l k).f2 : Rat) / ((overF l k).f0 : Rat))
  | [], k, x, hp, h0, h1, h2, h3 => by simp [hsO, sm] at h1; omega
  | r :: t, k, x, hp, h0, h1, h2, h3 => by
    have hp' : Pos (r.f0 :: hsO t) := hp
    have ha : 1 ≤ r.f0 := hp'.gt (r := 0) (by simp)
    have haR : (1 : Rat) ≤ (r.f0 : Rat) := by have := castLe ha; simpa using this
    have e1 : sm (hsO (r :: t)) = r.f0 + sm (hsO t) := by simp [hsO, sm]
    simp only [overF]
    by_cases hk : k < r.f0
    · rw [if_pos hk]
      have c1 : ((k + 1 : Int) : Rat) ≤ (r.f0 : Rat) := castLe (by omega)
      have c2 : (k : Rat) ≤ (r.f0 : Rat) := castLe (by omega)
      unfold mT
      show conv (r.f0 :: hsO t) (r.f2 :: dsO t) x = conv (r.f0 :: hsO t) (r.f2 :: dsO t) (k : Rat) + _
      rw [conv_low (Rat.le_trans h3 c1), conv_low c2]
      grind
    · rw [if_neg hk]
      have c2 : (r.f0 : Rat) ≤ (k : Rat) := castLe (by omega)
      have ih := conv_unit (l := t) (k := k - r.f0) (x := x - (r.f0 : Rat)) hp'.tail (by omega) (by omega) (by rw [Rat.intCast_sub]; grind) (by rw [Rat.intCast_add, Rat.intCast_sub]; rw [Rat.intCast_add] at h3; grind)
      unfold mT at ih ⊢
      show conv (r.f0 :: hsO t) (r.f2 :: dsO t) x = conv (r.f0 :: hsO t) (r.f2 :: dsO t) (k : Rat) + _
      rw [conv_hi ha hp'.tail (Rat.le_trans c2 h2), conv_hi ha hp'.tail c2, ih, Rat.intCast_sub]
      grind
theorem frac_le {a b c d : Int} (hb : 1 ≤ b) (hd : 1 ≤ d) (h : a * d ≤ c * b) : (a : Rat) / (b : Rat) ≤ (c : Rat) / (d : Rat) := by
  have hbR : (1 : Rat) ≤ (b : Rat) := by have := castLe hb; simpa using this
  have hdR : (1 : Rat) ≤ (d : Rat) := by have := castLe hd; simpa using this
  have hR : (a : Rat) * (d : Rat) ≤ (c : Rat) * (b : Rat) := by have := castLe h; rwa [Rat.intCast_mul, Rat.intCast_mul] at this
  have i1 := inv_nn hbR
  have i2 := inv_nn hdR
  have := Rat.mul_le_mul_of_nonneg_right hR (mul_nn (Rat.le_of_lt i1) (Rat.le_of_lt i2))
  rw [Rat.div_def, Rat.div_def]
  have k1 : (b : Rat) * (b : Rat)⁻¹ = 1 := Rat.mul_inv_cancel _ (by grind)
  have k2 : (d : Rat) * (d : Rat)⁻¹ = 1 := Rat.mul_inv_cancel _ (by grind)
  have e1 : (a : Rat) * (d : Rat) * ((b : Rat)⁻¹ * (d : Rat)⁻¹) = (a : Rat) * (b : Rat)⁻¹ * ((d : Rat) * (d : Rat)⁻¹) := by grind
  have e2 : (c : Rat) * (b : Rat) * ((b : Rat)⁻¹ * (d : Rat)⁻¹) = (c : Rat) * (d : Rat)⁻¹ * ((b : Rat) * (b : Rat)⁻¹) := by grind
  rw [e1, e2, k1, k2, Rat.mul_one, Rat.mul_one] at this
  exact this
section
variable {v w : List S79} {n : Int}
theorem gap_unit (gv : GV (hsO v) (vsO v) (dsO v)) (gw : GV (hsO w) (vsO w) (dsO w)) (hn : n ≤ sm (hsO v)) (hm : n ≤ sm (hsO w)) (h : UpTo v w n) {k : Int} (k0 : 0 ≤ k) (k1 : k < n) {a b : Rat} (h0 : (k : Rat) ≤ a) (h1 : a ≤ b) (h2 : b ≤ ((k + 1 : Int) : Rat)) :
    mT v b - mT v a ≤ mT w b - mT w a := by
  have p := h k k0 k1
  have o1 := over_bd gv k0 (by omega)
  have o2 := over_bd gw k0 (by omega)
  have q := frac_le o1.1 o2.1 (of_decide_eq_true p)
  rw [conv_unit gv.h.pos k0 (by omega) (Rat.le_trans h0 h1) h2, conv_unit gv.h.pos k0 (by omega) h0 (Rat.le_trans h1 h2), conv_unit gw.h.pos k0 (by omega) (Rat.le_trans h0 h1) h2, conv_unit gw.h.pos k0 (by omega) h0 (Rat.le_trans h1 h2)]
  have := Rat.mul_le_mul_of_nonneg_left q (show (0 : Rat) ≤ b - a by grind)
  grind
theorem gap (gv : GV (hsO v) (vsO v) (dsO v)) (gw : GV (hsO w) (vsO w) (dsO w)) (hn : n ≤ sm (hsO v)) (hm : n ≤ sm (hsO w)) (h : UpTo v w n) : ∀ (j : Nat) {a b : Rat}, 0 ≤ a → a ≤ b → b ≤ (n : Rat) → b ≤ ((a.floor + 1 + (j : Int) : Int) : Rat) → mT v b - mT v a ≤ mT w b - mT w a
  | 0, a, b, a0, hab, hbn, hj => by
    have f0 : 0 ≤ a.floor := fl_nn a0
    by_cases hk : a.floor < n
    · exact gap_unit gv gw hn hm h f0 hk (Rat.floor_le a) hab (by simpa using hj)
    · have c : (n : Rat) ≤ (a.floor : Rat) := castLe (by omega)
      have := Rat.floor_le a
      have e : b = a := by grind
      rw [e]; grind
  | j + 1, a, b, a0, hab, hbn, hj => by
    have f0 : 0 ≤ a.floor := fl_nn a0
    by_cases hb : b ≤ ((a.floor + 1 + ((0 : Nat) : Int) : Int) : Rat)
    · exact gap gv gw hn hm h 0 a0 hab hbn hb
    · have l1 : a ≤ ((a.floor + 1 : Int) : Rat) := by have := Rat.lt_floor (x := a); grind
      have e0 : a.floor + 1 + ((0 : Nat) : Int) = a.floor + 1 := by omega
      rw [e0] at hb
      have l2 : ((a.floor + 1 : Int) : Rat) ≤ b := by grind
      have s1 := gap gv gw hn hm h 0 a0 l1 (Rat.le_trans l2 hbn) (by rw [e0]; exact Rat.le_refl)
      have s2 := gap gv gw hn hm h j (Rat.le_trans a0 l1) l2 hbn (by rw [Rat.floor_intCast]; have e : a.floor + 1 + 1 + (j : Int) = a.floor + 1 + ((j + 1 : Nat) : Int) := by omega
                                                                     rw [e]; exact hj)
      grind
theorem gap_all (gv : GV (hsO v) (vsO v) (dsO v)) (gw : GV (hsO w) (vsO w) (dsO w)) (hn : n ≤ sm (hsO v)) (hm : n ≤ sm (hsO w)) (h : UpTo v w n) {a b : Rat} (a0 : 0 ≤ a) (hab : a ≤ b) (hbn : b ≤ (n : Rat)) : mT v b - mT v a ≤ mT w b - mT w a :=
  gap gv gw hn hm h n.toNat a0 hab hbn (by
    have f0 : 0 ≤ a.floor := fl_nn a0
    exact Rat.le_trans hbn (castLe (by omega)))
/-- The slower vessel's level is no lower. -/
theorem slow_after {a m : Int} (hv : VL v a) (hw : VL w a) (m0 : 0 ≤ m) (h : slowB v w = true) : afterX v a m ≤ afterX w a m := by
  have h' := slowB_iff.1 h
  have hx := after_bd hv m0
  have hy := after_bd hw m0
  have ex := mT_after hv m0
  have ey := mT_after hw m0
  have lx := left_bd hv m0
  have ly := left_bd hw m0
  have x1 : afterX v a m ≤ (a : Rat) := (mT_le hv hx.1 hx.2 hv.c0 hv.c1).1 (by rw [ex]; exact lx.2.1)
  have y1 : afterX w a m ≤ (a : Rat) := (mT_le hw hy.1 hy.2 hw.c0 hw.c1).1 (by rw [ey]; exact ly.2.1)
  apply Classical.byContradiction
  intro hn
  have hlt : afterX w a m < afterX v a m := by grind
  have hmin : (a : Rat) ≤ ((min (sm (hsO v)) (sm (hsO w)) : Int) : Rat) := castLe (by have := hv.h1; have := hw.h1; omega)
  have g := gap_all hv.gv hw.gv (Int.min_le_left _ _) (Int.min_le_right _ _) h' hx.1 x1 hmin
  have s1 : mT w (afterX w a m) < mT w (afterX v a m) := by
    have := mT_le hw hx.1 (Rat.le_trans x1 hw.c1) hy.1 hy.2
    grind
  have s2 : mT v 0 < mT v (afterX v a m) := by
    have z : (0 : Rat) ≤ (sm (hsO v) : Rat) := Rat.le_trans hv.c0 hv.c1
    have := mT_le hv hx.1 hx.2 Rat.le_refl z
    grind
  have s3 : (0 : Rat) ≤ mT v 0 := (mT_bd hv Rat.le_refl (Rat.le_trans hv.c0 hv.c1)).1
  rw [ex] at g s2
  rw [ey] at s1
  have e1 : leftM v a m = mT v (a : Rat) - (m : Rat) := by
    unfold leftM at s2 ⊢
    split
    · rename_i hc; rw [if_pos hc] at s2; grind
    · rfl
  have e2 : mT w (a : Rat) - (m : Rat) ≤ leftM w a m := by unfold leftM; split <;> grind
  grind
end
theorem slowB_refl (v : List S79) : slowB v v = true := slowB_iff.2 fun x _ _ => decide_eq_true (Int.le_refl _)
theorem slowB_trans {u v w : List S79} (gu : GV (hsO u) (vsO u) (dsO u)) (gv : GV (hsO v) (vsO v) (dsO v)) (gw : GV (hsO w) (vsO w) (dsO w)) (e1 : sm (hsO u) = sm (hsO v)) (e2 : sm (hsO v) = sm (hsO w)) (h1 : slowB u v = true) (h2 : slowB v w = true) : slowB u w = true := by
  refine slowB_iff.2 fun x x0 x1 => ?_
  have p1 := of_decide_eq_true (slowB_iff.1 h1 x x0 (by omega))
  have p2 := of_decide_eq_true (slowB_iff.1 h2 x x0 (by omega))
  have o1 := over_bd gu x0 (by omega)
  have o2 := over_bd gv x0 (by omega)
  have o3 := over_bd gw x0 (by omega)
  refine decide_eq_true ?_
  have m1 := Int.mul_le_mul_of_nonneg_right p1 (show 0 ≤ (overF w x).f0 by omega)
  have m2 := Int.mul_le_mul_of_nonneg_right p2 (show 0 ≤ (overF u x).f0 by omega)
  refine Int.le_of_mul_le_mul_left (a := (overF v x).f0) ?_ (by omega)
  have c1 : (overF u x).f2 * (overF v x).f0 * (overF w x).f0 = (overF v x).f0 * ((overF u x).f2 * (overF w x).f0) := by grind
  have c2 : (overF w x).f2 * (overF v x).f0 * (overF u x).f0 = (overF v x).f0 * ((overF w x).f2 * (overF u x).f0) := by grind
  have c3 : (overF v x).f2 * (overF u x).f0 * (overF w x).f0 = (overF v x).f2 * (overF w x).f0 * (overF u x).f0 := by grind
  omega
def SlowS (u v w : List S79) (a m : Int) : Prop :=
  ∃ (uv vw uw : Bool) (hu hu1 hu2 hv hv1 hv2 hw hw1 hw2 xl xh yl yh : Int), SlowerF v v = (true, 0) ∧ SlowerF u v = (uv, 0) ∧ SlowerF v w = (vw, 0) ∧ SlowerF u w = (uw, 0) ∧
    SizesF u = (hu, hu1, hu2, 0) ∧ SizesF v = (hv, hv1, hv2, 0) ∧ SizesF w = (hw, hw1, hw2, 0) ∧ AfterF v a m = (xl, xh, 0) ∧ AfterF w a m = (yl, yh, 0) ∧
    (¬ hu = hv ∨ hu = hv ∧ (¬ hv = hw ∨ hv = hw ∧ (uv = false ∨ uv = true ∧ (vw = false ∨ vw = true ∧ uw = true)))) ∧ (vw = false ∨ vw = true ∧ xl ≤ yl ∧ xh ≤ yh)
theorem slow_says {u v w : List S79} {a m : Int} (hU : rightB u [m] [] = true) (hV : rightB v [] [a] = true) (hW : rightB w [] [a] = true) : SlowS u v w a m := by
  obtain ⟨hu, _, hn, _⟩ := rightP hU
  obtain ⟨hv, hl, _, _⟩ := rightP hV
  obtain ⟨hw, hl2, _, _⟩ := rightP hW
  have va : VL v a := ⟨hv, (hl a (by simp)).1, (hl a (by simp)).2⟩
  have wa : VL w a := ⟨hw, (hl2 a (by simp)).1, (hl2 a (by simp)).2⟩
  obtain ⟨m0, m1⟩ := hn m (by simp)
  have S : ∀ {x y : List S79}, validB x = true → validB y = true → SlowerF x y = (slowB x y, 0) := fun a b => by unfold SlowerF; rw [if_pos a, if_pos b]
  have Z : ∀ {x : List S79}, validB x = true → SizesF x = (sm (hsO x), sm (vsO x), sm (dsO x), 0) := fun a => by unfold SizesF; rw [if_pos a]
  refine ⟨slowB u v, slowB v w, slowB u w, _, _, _, _, _, _, _, _, _, _, _, _, _, by rw [S hv hv, slowB_refl], S hu hv, S hv hw, S hu hw, Z hu, Z hv, Z hw, after_val va m0 (by omega), after_val wa m0 (by omega), ?_, ?_⟩
  · by_cases e1 : sm (hsO u) = sm (hsO v)
    · refine .inr ⟨e1, ?_⟩
      by_cases e2 : sm (hsO v) = sm (hsO w)
      · refine .inr ⟨e2, ?_⟩
        cases h1 : slowB u v with
        | false => exact .inl rfl
        | true =>
          refine .inr ⟨rfl, ?_⟩
          cases h2 : slowB v w with
          | false => exact .inl rfl
          | true => exact .inr ⟨rfl, slowB_trans (valid_GV hu) va.gv wa.gv e1 e2 h1 h2⟩
      · exact .inl e2
    · exact .inl e1
  · cases h2 : slowB v w with
    | false => exact .inl rfl
    | true =>
      have := slow_after va wa m0 h2
      exact .inr ⟨rfl, fl_mono this, ce_mono this⟩
end Go.Proofs.Ytlhfclpbodfmcaa.Pr
namespace Go.Proofs.Ytlhfclpbodfmcaa.Pr
open Go.RowKit Go.Proofs.YtlhfclpbodfmcaaW.PrintWords Go.Proofs.YtlhfclpbodfmcaaW.PrintLast Go.Proofs.YtlhfclpbodfmcaaW.PrintMore
open Go.Proofs.Ytlhfclpbodfmcaa.Vm
set_option linter.unusedVariables false
set_option linter.unusedSimpArgs false
attribute [local go_sem] fld79_0 fld79_1 fld79_2 max2_int max_two
def vessel_Slower.T5 : Bool × List (List Nat × List Nat) := (true, [([], []), ([0], [0]), ([1], [1]), ([2], [2]), ([], []), ([4], [4]), ([5], [5]), ([6], [6]), ([3, 0, 1, 2, 3], [3]), ([7, 8, 0, 1, 2, 3, 4, 5, 6, 7, 8], [7])])
def vessel_Slower.B5 : List Nat := [0, 1, 3, 7, 0, 16, 48, 112, 15, 511]
theorem vessel_Slower.tab5 : rtab .any (opsOf Try.f57 5) = vessel_Slower.T5 := by kernel_rfl
theorem vessel_Slower.bits5 : waitsOk vessel_Slower.T5.2 vessel_Slower.B5 = true := by kernel_rfl
def vessel_Slower.T6 : Bool × List (List Nat × List Nat) := (true, [([], []), ([], []), ([0, 1], [0, 1]), ([2], [2]), ([3], [3]), ([], []), ([], []), ([5, 6], [5, 6]), ([7], [7]), ([8], [8]), ([4, 9], [4, 9]), ([], []), ([], []), ([11, 12], [11, 12]), ([13], [13]), ([14], [14]), ([], []), ([], []), ([16, 17], [16, 17]), ([18], [18]), ([19], [19]), ([15, 20], [15, 20]), ([10, 21], [10, 21])])
def vessel_Slower.B6 : List Nat := [0, 0, 3, 7, 15, 0, 0, 96, 224, 480, 1023, 0, 0, 6144, 14336, 30720, 0, 0, 196608, 458752, 983040, 2095104, 4194303]
theorem vessel_Slower.tab6 : rtab .any (opsOf Try.f57 6) = vessel_Slower.T6 := by kernel_rfl
theorem vessel_Slower.bits6 : waitsOk vessel_Slower.T6.2 vessel_Slower.B6 = true := by kernel_rfl
def vessel_Slower.f (l0 l1 : List S79) : Option (Bool × Int) := some (SlowerF l0 l1)
set_option maxHeartbeats 1600000 in
set_option maxRecDepth 100000 in
theorem vessel_Slower.run (A0 : Option Addr) (c0 : Nat) (l0 : List S79) (A1 : Option Addr) (c1 : Nat) (l1 : List S79) (w : World) (hr0 : Kd.C k79 w A0 l0.length l0) (hc0 : l0.length ≤ c0) (hr1 : Kd.C k79 w A1 l1.length l1) (hc1 : l1.length ≤ c1) : Calls Try.prog 57 #[.slice A0 l0.length c0, .slice A1 l1.length c1] w fun e w' => e = .returned (.tuple #[.bool (SlowerF l0 l1).1, .int .i64 (SlowerF l0 l1).2]) ∧ Below w.heap.size w w' := by
  have hu79 := Try.underlying79
  have HR0 := Aside0.mk hr0
  have HR1 := Aside0.mk hr1
  have HC0 := Aside0.mk hc0
  have HC1 := Aside0.mk hc1
  clear hr0 hr1 hc0 hc1
  have HB := Aside0.mk (Below.refl w.heap.size w)
  by_cases hv : validB l0 = true
  · by_cases hu : validB l1 = true
    · have HF : Aside0 (SlowerF l0 l1 = (slowB l0 l1, 0)) := ⟨by unfold SlowerF; rw [if_pos hv, if_pos hu]⟩
      have HK : Aside0 (vessel_checked.f 40 [l0, l1] = some 0) := ⟨checked_good hv hu⟩
      have HG : Aside0 (GV (hsO l0) (vsO l0) (dsO l0)) := ⟨valid_GV hv⟩
      have HG1 : Aside0 (GV (hsO l1) (vsO l1) (dsO l1)) := ⟨valid_GV hu⟩
      have hn0 : 0 < l0.length := by have := HG.out.h.ne; rw [List.length_map] at this; omega
      have hn1 : 0 < l1.length := by have := HG1.out.h.ne; rw [List.length_map] at this; omega
      have HLN : Aside0 (l0.length ≤ 24 ∧ l1.length ≤ 24) := ⟨by have h0 := HG.out.h.ln; have h1 := HG1.out.h.ln; rw [List.length_map] at h0 h1; exact ⟨h0, h1⟩⟩
      clear hv hu
      have hz0 : (0 : Int) < (l0.length : Int) := by omega
      have hz1 : (0 : Int) < (l1.length : Int) := by omega
      obtain ⟨ad, q_, x0_, x1_, x2_⟩ := at_T79 HR0.out 0 (Int.le_refl _) hz0
      subst q_
      obtain ⟨ad2, q_, y0_, y1_, y2_⟩ := at_T79 HR1.out 0 (Int.le_refl _) hz1
      subst q_
      have Z0 : Aside0 (w.cell? ad = some (.int .i64 (rd_T79 l0 ((0 : Nat) : Int)).f0)) := ⟨x0_⟩
      have Z1 : Aside0 (w.cell? ad2 = some (.int .i64 (rd_T79 l1 ((0 : Nat) : Int)).f0)) := ⟨y0_⟩
      clear x0_ x1_ x2_ y0_ y1_ y2_
      have HT0 : Aside0 ((rd_T79 l0 ((0 : Nat) : Int)).f0 = sm ((hsO l0).take (0 + 1))) := ⟨by rw [sm_take_succ _ _ (by simpa using hn0), (rd79_gt l0 0 hn0).1]; simp [sm]⟩
      have HT1 : Aside0 ((rd_T79 l1 ((0 : Nat) : Int)).f0 = sm ((hsO l1).take (0 + 1))) := ⟨by rw [sm_take_succ _ _ (by simpa using hn1), (rd79_gt l1 0 hn1).1]; simp [sm]⟩
      have HN := Aside0.mk (And.intro hn0 hn1)
      go_enter Try.func57, Try.ntmps57
      go_wp2
      go_step3
      go_wp2_with fail
      refine (vessel_checked.calls 40 _ 2 [l0, l1] 0 _ (pair_row (Kd.C_below (kc_ HR0 HB) (ba_ _ _)) HC0.out (Kd.C_below (kc_ HR1 HB) (ba_ _ _)) HC1.out (blk_new _ _)) (by simp) HK.out).mono ?_
      rintro e w1 ⟨rfl, hb⟩
      replace hb := below_step (ba_ _ _) hb
      replace HB := bs_ HB hb
      clear hb
      go_wp2
      replace HB := bd_ HB
      refine sM_ [] (fun w' => w'.cell? ad = some (.int .i64 (rd_T79 l0 ((0 : Nat) : Int)).f0) ∧ w'.cell? ad2 = some (.int .i64 (rd_T79 l1 ((0 : Nat) : Int)).f0)) vessel_Slower.tab5 vessel_Slower.bits5 ⟨pw_cell_below HB.out Z0.out, pw_cell_below HB.out Z1.out⟩ (fun hHeld HT_ HW_ => ?_)
      generalize w1.drew = w2 at HB hHeld ⊢
      refine pM_ HT_ 0 20 1 ?_
      refine pM_ HT_ 1 21 3 ?_
      refine pM_ HT_ 2 22 7 ?_
      refine pM_ HT_ 4 24 23 ?_
      refine pM_ HT_ 5 25 55 ?_
      refine pM_ HT_ 6 26 119 ?_
      refine tM_ HT_ HW_ hHeld 3 23 127 ?_
      refine pM_ HT_ 8 9 383 ?_
      refine tM_ HT_ HW_ hHeld 7 27 511 ?_
      refine pM_ HT_ 9 10 1023 ?_
      refine dM_ HT_ ?_
      clear hn0 hn1 hz0 hz1
      go_wp2
      go_step3
      go_wp2
      go_loopg [7, 8, 9, 10] (l0.length + l1.length) (fun kq v7 v8 v9 v10 w' => ∃ i k : Nat, v7 = .int .i64 (i : Int) ∧ v8 = .int .i64 (k : Int) ∧ v9 = .int .i64 (sm ((hsO l0).take (i + 1))) ∧ v10 = .int .i64 (sm ((hsO l1).take (k + 1))) ∧ Aside0 (i < l0.length ∧ k < l1.length ∧ (l0.length - i) + (l1.length - k) ≤ kq ∧ UpTo l0 l1 (max (sm ((hsO l0).take (i))) (sm ((hsO l1).take (k)))) ∧ sm ((hsO l0).take (i)) < sm ((hsO l1).take (k + 1)) ∧ sm ((hsO l1).take (k)) < sm ((hsO l0).take (i + 1))) ∧ Aside0 (Below w.heap.size w w'))
      case atStart => exact ⟨0, 0, rfl, rfl, congrArg (Value.int .i64) HT0.out, congrArg (Value.int .i64) HT1.out, ⟨HN.out.1, HN.out.2, by omega, fun x h0 h1 => by simp [sm] at h1; omega, by have s := sm_take_succ (hsO l1) 0 (by simpa using HN.out.2); have p := HG1.out.h.pos.gt (r := 0) (by simpa using HN.out.2); simp [sm] at s ⊢; omega, by have s := sm_take_succ (hsO l0) 0 (by simpa using HN.out.1); have p := HG.out.h.pos.gt (r := 0) (by simpa using HN.out.1); simp [sm] at s ⊢; omega⟩, HB⟩
      case round =>
        clear HB
        obtain ⟨i, k, rfl, rfl, rfl, rfl, HI, HB⟩ := hrel
        have hil : i < l0.length := HI.out.1
        have hkl : k < l1.length := HI.out.2.1
        have hi0 : (0 : Int) ≤ (i : Int) := by omega
        have hi1 : (i : Int) < (l0.length : Int) := by omega
        have hk0 : (0 : Int) ≤ (k : Int) := by omega
        have hk1 : (k : Int) < (l1.length : Int) := by omega
        obtain ⟨ad_, q_, x0_, x1_, x2_⟩ := at_T79 HR0.out (i : Int) hi0 hi1
        obtain rfl : ad = ad_ := Option.some.inj q_
        clear q_
        obtain ⟨ad_, q_, y0_, y1_, y2_⟩ := at_T79 HR1.out (k : Int) hk0 hk1
        obtain rfl : ad2 = ad_ := Option.some.inj q_
        clear q_
        simp only [Int.toNat_natCast] at x0_ x1_ x2_ y0_ y1_ y2_
        have X0 := Aside0.mk x0_
        have X2 := Aside0.mk x2_
        have Y0 := Aside0.mk y0_
        have Y2 := Aside0.mk y2_
        clear x0_ x1_ x2_ y0_ y1_ y2_
        have HQ : Aside0 (1 ≤ (rd_T79 l0 (i : Int)).f0 ∧ (rd_T79 l0 (i : Int)).f0 ≤ 1000 ∧ 1 ≤ (rd_T79 l0 (i : Int)).f2 ∧ (rd_T79 l0 (i : Int)).f2 ≤ 20000 ∧ 1 ≤ (rd_T79 l1 (k : Int)).f0 ∧ (rd_T79 l1 (k : Int)).f0 ≤ 1000 ∧ 1 ≤ (rd_T79 l1 (k : Int)).f2 ∧ (rd_T79 l1 (k : Int)).f2 ≤ 20000 ∧ sm ((hsO l0).take (i + 1)) = sm ((hsO l0).take (i)) + (rd_T79 l0 (i : Int)).f0 ∧ sm ((hsO l1).take (k + 1)) = sm ((hsO l1).take (k)) + (rd_T79 l1 (k : Int)).f0 ∧ 0 ≤ sm ((hsO l0).take (i)) ∧ 0 ≤ sm ((hsO l1).take (k)) ∧ sm ((hsO l0).take (i + 1)) ≤ sm (hsO l0) ∧ sm ((hsO l1).take (k + 1)) ≤ sm (hsO l1)) := ⟨by
          obtain ⟨e0, e1, e2⟩ := rd79_gt l0 i hil
          obtain ⟨f0, f1, f2⟩ := rd79_gt l1 k hkl
          have a0 := HG.out.h.gt (r := i) (by simpa using hil)
          have a2 := HG.out.d.gt (r := i) (by simpa using hil)
          have b0 := HG1.out.h.gt (r := k) (by simpa using hkl)
          have b2 := HG1.out.d.gt (r := k) (by simpa using hkl)
          have s0 := sm_take_succ (hsO l0) i (by simpa using hil)
          have s1 := sm_take_succ (hsO l1) k (by simpa using hkl)
          have t0 := take_b HG.out.h.pos i
          have t1 := take_b HG1.out.h.pos k
          have t2 := take_b HG.out.h.pos (i + 1)
          have t3 := take_b HG1.out.h.pos (k + 1)
          rw [e0] at a0 s0
          rw [e2] at a2
          rw [f0] at b0 s1
          rw [f2] at b2
          exact ⟨a0.1, a0.2, a2.1, a2.2, b0.1, b0.2, b2.1, b2.2, s0, s1, t0.1, t1.1, t2.2, t3.2⟩⟩
        have HM : Aside0 (wrap64 ((rd_T79 l1 (k : Int)).f2 * (rd_T79 l0 (i : Int)).f0) = (rd_T79 l1 (k : Int)).f2 * (rd_T79 l0 (i : Int)).f0 ∧ wrap64 ((rd_T79 l0 (i : Int)).f2 * (rd_T79 l1 (k : Int)).f0) = (rd_T79 l0 (i : Int)).f2 * (rd_T79 l1 (k : Int)).f0) := ⟨by
          have q := HQ.out
          have m1 := mul_b q.2.2.2.2.2.2.1 q.2.2.2.2.2.2.2.1 q.1 q.2.1
          have m2 := mul_b q.2.2.1 q.2.2.2.1 q.2.2.2.2.1 q.2.2.2.2.2.1
          exact ⟨wrp_ (by omega) (by omega), wrp_ (by omega) (by omega)⟩⟩
        have hpf := HG.out.h.pos
        have HPF := Aside0.mk (And.intro hpf HG1.out.h.pos)
        clear hpf
        by_cases hc : (rd_T79 l1 (k : Int)).f2 * (rd_T79 l0 (i : Int)).f0 < (rd_T79 l0 (i : Int)).f2 * (rd_T79 l1 (k : Int)).f0
        · have hcd : decide (wrap64 ((rd_T79 l1 (k : Int)).f2 * (rd_T79 l0 (i : Int)).f0) < wrap64 ((rd_T79 l0 (i : Int)).f2 * (rd_T79 l1 (k : Int)).f0)) = true := by rw [HM.out.1, HM.out.2]; exact decide_eq_true hc
          have HT : Aside0 (slowB l0 l1 = false) := ⟨by
            have hh := HI.out
            have q := HQ.out
            have o0 := over_at (x := max (sm ((hsO l0).take (i))) (sm ((hsO l1).take (k)))) HPF.out.1 hil (by omega) (by omega)
            have o1 := over_at (x := max (sm ((hsO l0).take (i))) (sm ((hsO l1).take (k)))) HPF.out.2 hkl (by omega) (by omega)
            exact slow_false (x := max (sm ((hsO l0).take (i))) (sm ((hsO l1).take (k)))) (by omega) (by omega) (by omega) (by rw [o0, o1]; exact decide_eq_false (by omega))⟩
          clear hc
          go_wp2
          replace HB := bd_ HB
          refine sM_ [] (fun w' => w'.cell? (ad.add (i * 3)) = some (.int .i64 (rd_T79 l0 (i : Int)).f0) ∧ w'.cell? ⟨(ad.add (i * 3)).block, (ad.add (i * 3)).off + 2, none⟩ = some (.int .i64 (rd_T79 l0 (i : Int)).f2) ∧ w'.cell? (ad2.add (k * 3)) = some (.int .i64 (rd_T79 l1 (k : Int)).f0) ∧ w'.cell? ⟨(ad2.add (k * 3)).block, (ad2.add (k * 3)).off + 2, none⟩ = some (.int .i64 (rd_T79 l1 (k : Int)).f2)) vessel_Slower.tab6 vessel_Slower.bits6 ⟨pw_cell_below HB.out X0.out, pw_cell_below HB.out X2.out, pw_cell_below HB.out Y0.out, pw_cell_below HB.out Y2.out⟩ (fun hHeld HT_ HW_ => ?_)
          generalize wr.drew = v1 at HB hHeld ⊢
          refine pM_ HT_ 0 28 1 ?_
          refine pM_ HT_ 1 29 3 ?_
          refine pM_ HT_ 2 30 7 ?_
          refine pM_ HT_ 3 31 15 ?_
          refine pM_ HT_ 5 33 47 ?_
          refine pM_ HT_ 6 34 111 ?_
          refine pM_ HT_ 7 35 239 ?_
          refine pM_ HT_ 8 36 495 ?_
          refine pM_ HT_ 11 39 2543 ?_
          refine pM_ HT_ 12 40 6639 ?_
          refine pM_ HT_ 13 41 14831 ?_
          refine pM_ HT_ 14 42 31215 ?_
          refine pM_ HT_ 16 44 96751 ?_
          refine pM_ HT_ 17 45 227823 ?_
          refine pM_ HT_ 18 46 489967 ?_
          refine pM_ HT_ 19 47 1014255 ?_
          refine tM_ HT_ HW_ hHeld 4 32 1014271 ?_
          refine tM_ HT_ HW_ hHeld 9 37 1014783 ?_
          refine pM_ HT_ 10 38 1015807 ?_
          refine tM_ HT_ HW_ hHeld 15 43 1048575 ?_
          refine tM_ HT_ HW_ hHeld 20 48 2097151 ?_
          refine pM_ HT_ 21 49 4194303 ?_
          refine pM_ HT_ 22 50 8388607 ?_
          refine dM_ HT_ ?_
          go_wp2
          try rw [Exit.noGoto_ret]
          go_ret2
          exact ⟨by first | (rw [HF.out, HT.out]; done) | (rw [HF.out, HT.out]; rfl), HB.out⟩
        · have hcd : decide (wrap64 ((rd_T79 l1 (k : Int)).f2 * (rd_T79 l0 (i : Int)).f0) < wrap64 ((rd_T79 l0 (i : Int)).f2 * (rd_T79 l1 (k : Int)).f0)) = false := by rw [HM.out.1, HM.out.2]; exact decide_eq_false hc
          have HPB : Aside0 (pairB (rd_T79 l0 (i : Int)) (rd_T79 l1 (k : Int)) = true) := ⟨decide_eq_true (by omega)⟩
          clear hc
          have HUP : ∀ n, n ≤ sm ((hsO l0).take (i + 1)) → n ≤ sm ((hsO l1).take (k + 1)) → UpTo l0 l1 n := fun n a b => upto_step HPF.out.1 HPF.out.2 hil hkl HI.out.2.2.2.1 (by omega) (by omega) a b HPB.out
          have HUPA := Aside0.mk HUP
          clear HUP
          go_wp2
          replace HB := bd_ HB
          refine sM_ [] (fun w' => w'.cell? (ad.add (i * 3)) = some (.int .i64 (rd_T79 l0 (i : Int)).f0) ∧ w'.cell? ⟨(ad.add (i * 3)).block, (ad.add (i * 3)).off + 2, none⟩ = some (.int .i64 (rd_T79 l0 (i : Int)).f2) ∧ w'.cell? (ad2.add (k * 3)) = some (.int .i64 (rd_T79 l1 (k : Int)).f0) ∧ w'.cell? ⟨(ad2.add (k * 3)).block, (ad2.add (k * 3)).off + 2, none⟩ = some (.int .i64 (rd_T79 l1 (k : Int)).f2)) vessel_Slower.tab6 vessel_Slower.bits6 ⟨pw_cell_below HB.out X0.out, pw_cell_below HB.out X2.out, pw_cell_below HB.out Y0.out, pw_cell_below HB.out Y2.out⟩ (fun hHeld HT_ HW_ => ?_)
          generalize wr.drew = v1 at HB hHeld ⊢
          refine pM_ HT_ 0 28 1 ?_
          refine pM_ HT_ 1 29 3 ?_
          refine pM_ HT_ 2 30 7 ?_
          refine pM_ HT_ 3 31 15 ?_
          refine pM_ HT_ 5 33 47 ?_
          refine pM_ HT_ 6 34 111 ?_
          refine pM_ HT_ 7 35 239 ?_
          refine pM_ HT_ 8 36 495 ?_
          refine pM_ HT_ 11 39 2543 ?_
          refine pM_ HT_ 12 40 6639 ?_
          refine pM_ HT_ 13 41 14831 ?_
          refine pM_ HT_ 14 42 31215 ?_
          refine pM_ HT_ 16 44 96751 ?_
          refine pM_ HT_ 17 45 227823 ?_
          refine pM_ HT_ 18 46 489967 ?_
          refine pM_ HT_ 19 47 1014255 ?_
          refine tM_ HT_ HW_ hHeld 4 32 1014271 ?_
          refine tM_ HT_ HW_ hHeld 9 37 1014783 ?_
          refine pM_ HT_ 10 38 1015807 ?_
          refine tM_ HT_ HW_ hHeld 15 43 1048575 ?_
          refine tM_ HT_ HW_ hHeld 20 48 2097151 ?_
          refine pM_ HT_ 21 49 4194303 ?_
          refine pM_ HT_ 22 50 8388607 ?_
          refine dM_ HT_ ?_
          have EW0 : wrap64 ((i : Int) + 1) = ((i + 1 : Nat) : Int) := by have := HLN.out; rw [wrp_ (by omega) (by omega)]; rfl
          have EW1 : wrap64 ((k : Int) + 1) = ((k + 1 : Nat) : Int) := by have := HLN.out; rw [wrp_ (by omega) (by omega)]; rfl
          have HE0 : Aside0 (i + 1 = l0.length → sm ((hsO l0).take (i + 1)) = sm (hsO l0)) := ⟨fun h => by rw [List.take_of_length_le (by simp; omega)]⟩
          have HE1 : Aside0 (k + 1 = l1.length → sm ((hsO l1).take (k + 1)) = sm (hsO l1)) := ⟨fun h => by rw [List.take_of_length_le (by simp; omega)]⟩
          have hcase : (sm ((hsO l0).take (i + 1)) ≤ sm ((hsO l1).take (k + 1)) ∧ ¬ sm ((hsO l1).take (k + 1)) ≤ sm ((hsO l0).take (i + 1))) ∨ (sm ((hsO l0).take (i + 1)) ≤ sm ((hsO l1).take (k + 1)) ∧ sm ((hsO l1).take (k + 1)) ≤ sm ((hsO l0).take (i + 1))) ∨ (¬ sm ((hsO l0).take (i + 1)) ≤ sm ((hsO l1).take (k + 1)) ∧ sm ((hsO l1).take (k + 1)) ≤ sm ((hsO l0).take (i + 1))) := by omega
          rcases hcase with ⟨t1, t2⟩ | ⟨t1, t2⟩ | ⟨t1, t2⟩
          · have u1 : decide (sm ((hsO l0).take (i + 1)) ≤ sm ((hsO l1).take (k + 1))) = true := decide_eq_true t1
            have u2 : decide (sm ((hsO l1).take (k + 1)) ≤ sm ((hsO l0).take (i + 1))) = false := decide_eq_false t2
            by_cases hi_ : i + 1 = l0.length
            · have fa : (((i + 1 : Nat) : Int) == (l0.length : Int)) = true := beq_iff_eq.2 (by omega)
              have fb : (i + 1 == l0.length) = true := beq_iff_eq.2 (by omega)
              have fc : ((i : Int) + 1 == (l0.length : Int)) = true := beq_iff_eq.2 (by omega)
              have H_ := Aside0.mk hi_
              clear hi_
              have HT : Aside0 (slowB l0 l1 = true) := ⟨slow_true (HUPA.out _ (Int.le_refl _) t1) (by have := HE0.out H_.out; omega)⟩
              go_wp2
              try rw [Exit.noGoto_ret]
              go_ret2
              exact ⟨by first | (rw [HF.out, HT.out]; done) | (rw [HF.out, HT.out]; rfl), HB.out⟩
            · have fa : (((i + 1 : Nat) : Int) == (l0.length : Int)) = false := beq_eq_false_iff_ne.2 (by omega)
              have fb : (i + 1 == l0.length) = false := beq_eq_false_iff_ne.2 (by omega)
              have fc : ((i : Int) + 1 == (l0.length : Int)) = false := beq_eq_false_iff_ne.2 (by omega)
              have hI2 : i + 1 < l0.length := by omega
              have sI : sm ((hsO l0).take (i + 1)) < sm ((hsO l0).take (i + 1 + 1)) := by have s := sm_take_succ (hsO l0) (i + 1) (by simpa using hI2); have p := HPF.out.1.gt (r := i + 1) (by simpa using hI2); omega
              have n0 : (0 : Int) ≤ ((i + 1 : Nat) : Int) := by omega
              have n1 : ((i + 1 : Nat) : Int) < (l0.length : Int) := by omega
              obtain ⟨ad_, q_, z0_, z1_, z2_⟩ := at_T79 HR0.out ((i + 1 : Nat) : Int) n0 n1
              obtain rfl : ad = ad_ := Option.some.inj q_
              simp only [Int.toNat_natCast] at z0_
              have nx := pw_cell_below HB.out z0_
              clear z0_ z1_ z2_ q_
              have ne : wrap64 (sm ((hsO l0).take (i + 1)) + (rd_T79 l0 ((i + 1 : Nat) : Int)).f0) = sm ((hsO l0).take (i + 1 + 1)) := by have s := sm_take_succ (hsO l0) (i + 1) (by simpa using hI2); rw [(rd79_gt l0 (i + 1) hI2).1] at s; have b := take_b HG.out.h.pos (i + 1 + 1); have S := HG.out.sums; rw [← s]; exact wrp_ (by omega) (by omega)
              have n2 : (0 : Int) ≤ (i : Int) + 1 := by omega
              have n3 : (i : Int) + 1 < (l0.length : Int) := by omega
              have n5 : ((i : Int) + 1).toNat = i + 1 := by omega
              go_wp2
              go_roundg (gk - 1)
              case measure => have := HI.out; omega
              case rel => exact ⟨i + 1, k, by first | rfl | exact congrArg (Value.int .i64) EW0 | (simp only [*]; done), by first | rfl | exact congrArg (Value.int .i64) EW1 | (simp only [*]; done), by first | rfl | exact congrArg (Value.int .i64) ne | (simp only [*]; done) | skip, by first | rfl | exact congrArg (Value.int .i64) me | (simp only [*]; done) | skip, ⟨by omega, by omega, by have := HI.out; omega, by rw [show max (sm ((hsO l0).take (i + 1))) (sm ((hsO l1).take (k))) = sm ((hsO l0).take (i + 1)) by have := HQ.out; have := HI.out; omega]; exact HUPA.out _ (Int.le_refl _) t1, by omega, by have := HI.out; omega⟩, HB⟩
          · have u1 : decide (sm ((hsO l0).take (i + 1)) ≤ sm ((hsO l1).take (k + 1))) = true := decide_eq_true t1
            have u2 : decide (sm ((hsO l1).take (k + 1)) ≤ sm ((hsO l0).take (i + 1))) = true := decide_eq_true t2
            by_cases hi_ : i + 1 = l0.length
            · have fa : (((i + 1 : Nat) : Int) == (l0.length : Int)) = true := beq_iff_eq.2 (by omega)
              have fb : (i + 1 == l0.length) = true := beq_iff_eq.2 (by omega)
              have fc : ((i : Int) + 1 == (l0.length : Int)) = true := beq_iff_eq.2 (by omega)
              have H_ := Aside0.mk hi_
              clear hi_
              have HT : Aside0 (slowB l0 l1 = true) := ⟨slow_true (HUPA.out _ (Int.le_refl _) t1) (by have := HE0.out H_.out; omega)⟩
              go_wp2
              try rw [Exit.noGoto_ret]
              go_ret2
              exact ⟨by first | (rw [HF.out, HT.out]; done) | (rw [HF.out, HT.out]; rfl), HB.out⟩
            · have fa : (((i + 1 : Nat) : Int) == (l0.length : Int)) = false := beq_eq_false_iff_ne.2 (by omega)
              have fb : (i + 1 == l0.length) = false := beq_eq_false_iff_ne.2 (by omega)
              have fc : ((i : Int) + 1 == (l0.length : Int)) = false := beq_eq_false_iff_ne.2 (by omega)
              have hI2 : i + 1 < l0.length := by omega
              have sI : sm ((hsO l0).take (i + 1)) < sm ((hsO l0).take (i + 1 + 1)) := by have s := sm_take_succ (hsO l0) (i + 1) (by simpa using hI2); have p := HPF.out.1.gt (r := i + 1) (by simpa using hI2); omega
              have n0 : (0 : Int) ≤ ((i + 1 : Nat) : Int) := by omega
              have n1 : ((i + 1 : Nat) : Int) < (l0.length : Int) := by omega
              obtain ⟨ad_, q_, z0_, z1_, z2_⟩ := at_T79 HR0.out ((i + 1 : Nat) : Int) n0 n1
              obtain rfl : ad = ad_ := Option.some.inj q_
              simp only [Int.toNat_natCast] at z0_
              have nx := pw_cell_below HB.out z0_
              clear z0_ z1_ z2_ q_
              have ne : wrap64 (sm ((hsO l0).take (i + 1)) + (rd_T79 l0 ((i + 1 : Nat) : Int)).f0) = sm ((hsO l0).take (i + 1 + 1)) := by have s := sm_take_succ (hsO l0) (i + 1) (by simpa using hI2); rw [(rd79_gt l0 (i + 1) hI2).1] at s; have b := take_b HG.out.h.pos (i + 1 + 1); have S := HG.out.sums; rw [← s]; exact wrp_ (by omega) (by omega)
              have n2 : (0 : Int) ≤ (i : Int) + 1 := by omega
              have n3 : (i : Int) + 1 < (l0.length : Int) := by omega
              have n5 : ((i : Int) + 1).toNat = i + 1 := by omega
              by_cases hk_ : k + 1 = l1.length
              · have ga : (((k + 1 : Nat) : Int) == (l1.length : Int)) = true := beq_iff_eq.2 (by omega)
                have gb : (k + 1 == l1.length) = true := beq_iff_eq.2 (by omega)
                have gc : ((k : Int) + 1 == (l1.length : Int)) = true := beq_iff_eq.2 (by omega)
                have H_ := Aside0.mk hk_
                clear hk_
                have HT : Aside0 (slowB l0 l1 = true) := ⟨slow_true (HUPA.out _ (Int.le_refl _) t1) (by have := HE1.out H_.out; omega)⟩
                go_wp2
                try rw [Exit.noGoto_ret]
                go_ret2
                exact ⟨by first | (rw [HF.out, HT.out]; done) | (rw [HF.out, HT.out]; rfl), HB.out⟩
              · have ga : (((k + 1 : Nat) : Int) == (l1.length : Int)) = false := beq_eq_false_iff_ne.2 (by omega)
                have gb : (k + 1 == l1.length) = false := beq_eq_false_iff_ne.2 (by omega)
                have gc : ((k : Int) + 1 == (l1.length : Int)) = false := beq_eq_false_iff_ne.2 (by omega)
                have hK2 : k + 1 < l1.length := by omega
                have sK : sm ((hsO l1).take (k + 1)) < sm ((hsO l1).take (k + 1 + 1)) := by have s := sm_take_succ (hsO l1) (k + 1) (by simpa using hK2); have p := HPF.out.2.gt (r := k + 1) (by simpa using hK2); omega
                have m0 : (0 : Int) ≤ ((k + 1 : Nat) : Int) := by omega
                have m1 : ((k + 1 : Nat) : Int) < (l1.length : Int) := by omega
                obtain ⟨ad_, q_, z0_, z1_, z2_⟩ := at_T79 HR1.out ((k + 1 : Nat) : Int) m0 m1
                obtain rfl : ad2 = ad_ := Option.some.inj q_
                simp only [Int.toNat_natCast] at z0_
                have mx := pw_cell_below HB.out z0_
                clear z0_ z1_ z2_ q_
                have me : wrap64 (sm ((hsO l1).take (k + 1)) + (rd_T79 l1 ((k + 1 : Nat) : Int)).f0) = sm ((hsO l1).take (k + 1 + 1)) := by have s := sm_take_succ (hsO l1) (k + 1) (by simpa using hK2); rw [(rd79_gt l1 (k + 1) hK2).1] at s; have b := take_b HG1.out.h.pos (k + 1 + 1); have S := HG1.out.sums; rw [← s]; exact wrp_ (by omega) (by omega)
                have m2 : (0 : Int) ≤ (k : Int) + 1 := by omega
                have m3 : (k : Int) + 1 < (l1.length : Int) := by omega
                have m5 : ((k : Int) + 1).toNat = k + 1 := by omega
                go_wp2
                go_roundg (gk - 1)
                case measure => have := HI.out; omega
                case rel => exact ⟨i + 1, k + 1, by first | rfl | exact congrArg (Value.int .i64) EW0 | (simp only [*]; done), by first | rfl | exact congrArg (Value.int .i64) EW1 | (simp only [*]; done), by first | rfl | exact congrArg (Value.int .i64) ne | (simp only [*]; done) | skip, by first | rfl | exact congrArg (Value.int .i64) me | (simp only [*]; done) | skip, ⟨by omega, by omega, by have := HI.out; omega, by rw [show max (sm ((hsO l0).take (i + 1))) (sm ((hsO l1).take (k + 1))) = sm ((hsO l0).take (i + 1)) by omega]; exact HUPA.out _ (Int.le_refl _) t1, by omega, by omega⟩, HB⟩
          · have u1 : decide (sm ((hsO l0).take (i + 1)) ≤ sm ((hsO l1).take (k + 1))) = false := decide_eq_false t1
            have u2 : decide (sm ((hsO l1).take (k + 1)) ≤ sm ((hsO l0).take (i + 1))) = true := decide_eq_true t2
            by_cases hk_ : k + 1 = l1.length
            · have ga : (((k + 1 : Nat) : Int) == (l1.length : Int)) = true := beq_iff_eq.2 (by omega)
              have gb : (k + 1 == l1.length) = true := beq_iff_eq.2 (by omega)
              have gc : ((k : Int) + 1 == (l1.length : Int)) = true := beq_iff_eq.2 (by omega)
              have H_ := Aside0.mk hk_
              clear hk_
              have HT : Aside0 (slowB l0 l1 = true) := ⟨slow_true (HUPA.out _ t2 (Int.le_refl _)) (by have := HE1.out H_.out; omega)⟩
              go_wp2
              try rw [Exit.noGoto_ret]
              go_ret2
              exact ⟨by first | (rw [HF.out, HT.out]; done) | (rw [HF.out, HT.out]; rfl), HB.out⟩
            · have ga : (((k + 1 : Nat) : Int) == (l1.length : Int)) = false := beq_eq_false_iff_ne.2 (by omega)
              have gb : (k + 1 == l1.length) = false := beq_eq_false_iff_ne.2 (by omega)
              have gc : ((k : Int) + 1 == (l1.length : Int)) = false := beq_eq_false_iff_ne.2 (by omega)
              have hK2 : k + 1 < l1.length := by omega
              have sK : sm ((hsO l1).take (k + 1)) < sm ((hsO l1).take (k + 1 + 1)) := by have s := sm_take_succ (hsO l1) (k + 1) (by simpa using hK2); have p := HPF.out.2.gt (r := k + 1) (by simpa using hK2); omega
              have m0 : (0 : Int) ≤ ((k + 1 : Nat) : Int) := by omega
              have m1 : ((k + 1 : Nat) : Int) < (l1.length : Int) := by omega
              obtain ⟨ad_, q_, z0_, z1_, z2_⟩ := at_T79 HR1.out ((k + 1 : Nat) : Int) m0 m1
              obtain rfl : ad2 = ad_ := Option.some.inj q_
              simp only [Int.toNat_natCast] at z0_
              have mx := pw_cell_below HB.out z0_
              clear z0_ z1_ z2_ q_
              have me : wrap64 (sm ((hsO l1).take (k + 1)) + (rd_T79 l1 ((k + 1 : Nat) : Int)).f0) = sm ((hsO l1).take (k + 1 + 1)) := by have s := sm_take_succ (hsO l1) (k + 1) (by simpa using hK2); rw [(rd79_gt l1 (k + 1) hK2).1] at s; have b := take_b HG1.out.h.pos (k + 1 + 1); have S := HG1.out.sums; rw [← s]; exact wrp_ (by omega) (by omega)
              have m2 : (0 : Int) ≤ (k : Int) + 1 := by omega
              have m3 : (k : Int) + 1 < (l1.length : Int) := by omega
              have m5 : ((k : Int) + 1).toNat = k + 1 := by omega
              go_wp2
              go_roundg (gk - 1)
              case measure => have := HI.out; omega
              case rel => exact ⟨i, k + 1, by first | rfl | exact congrArg (Value.int .i64) EW0 | (simp only [*]; done), by first | rfl | exact congrArg (Value.int .i64) EW1 | (simp only [*]; done), by first | rfl | exact congrArg (Value.int .i64) ne | (simp only [*]; done) | skip, by first | rfl | exact congrArg (Value.int .i64) me | (simp only [*]; done) | skip, ⟨by omega, by omega, by have := HI.out; omega, by rw [show max (sm ((hsO l0).take (i))) (sm ((hsO l1).take (k + 1))) = sm ((hsO l1).take (k + 1)) by have := HQ.out; have := HI.out; omega]; exact HUPA.out _ t2 (Int.le_refl _), by have := HI.out; omega, by omega⟩, HB⟩
    · have HF : Aside0 (SlowerF l0 l1 = (false, 20)) := ⟨by unfold SlowerF; rw [if_pos hv, if_neg hu]⟩
      have HK : Aside0 (vessel_checked.f 40 [l0, l1] = some 20) := ⟨checked_bad2 hv hu⟩
      clear hv hu
      go_enter Try.func57, Try.ntmps57
      go_wp2
      go_step3
      go_wp2_with fail
      refine (vessel_checked.calls 40 _ 2 [l0, l1] 20 _ (pair_row (Kd.C_below (kc_ HR0 HB) (ba_ _ _)) HC0.out (Kd.C_below (kc_ HR1 HB) (ba_ _ _)) HC1.out (blk_new _ _)) (by simp) HK.out).mono ?_
      rintro e w1 ⟨rfl, hb⟩
      replace hb := below_step (ba_ _ _) hb
      replace HB := bs_ HB hb
      clear hb
      go_wp2
      try rw [Exit.noGoto_ret]
      go_ret2
      exact ⟨by first | (rw [HF.out]; done) | (rw [HF.out]; rfl), HB.out⟩
  · have HF : Aside0 (SlowerF l0 l1 = (false, 20)) := ⟨by unfold SlowerF; rw [if_neg hv]⟩
    have HK : Aside0 (vessel_checked.f 40 [l0, l1] = some 20) := ⟨checked_bad1 hv⟩
    clear hv
    go_enter Try.func57, Try.ntmps57
    go_wp2
    go_step3
    go_wp2_with fail
    refine (vessel_checked.calls 40 _ 2 [l0, l1] 20 _ (pair_row (Kd.C_below (kc_ HR0 HB) (ba_ _ _)) HC0.out (Kd.C_below (kc_ HR1 HB) (ba_ _ _)) HC1.out (blk_new _ _)) (by simp) HK.out).mono ?_
    rintro e w1 ⟨rfl, hb⟩
    replace hb := below_step (ba_ _ _) hb
    replace HB := bs_ HB hb
    clear hb
    go_wp2
    try rw [Exit.noGoto_ret]
    go_ret2
    exact ⟨by first | (rw [HF.out]; done) | (rw [HF.out]; rfl), HB.out⟩
theorem vessel_Slower.calls (A0 : Option Addr) (c0 : Nat) (l0 : List S79) (A1 : Option Addr) (c1 : Nat) (l1 : List S79) (r1 : Bool) (r2 : Int) (w : World) (hr0 : Kd.C k79 w A0 l0.length l0) (hc0 : l0.length ≤ c0) (hr1 : Kd.C k79 w A1 l1.length l1) (hc1 : l1.length ≤ c1) (h : vessel_Slower.f l0 l1 = some (r1, r2)) :
    Calls Try.prog 57 #[.slice A0 l0.length c0, .slice A1 l1.length c1] w fun e w' => e = .returned (.tuple #[.bool r1, .int .i64 r2]) ∧ Below w.heap.size w w' := by
  have e : SlowerF l0 l1 = (r1, r2) := Option.some.inj h
  have := vessel_Slower.run A0 c0 l0 A1 c1 l1 w hr0 hc0 hr1 hc1
  rwa [e] at this
end Go.Proofs.Ytlhfclpbodfmcaa.Pr
