/- A part of the proof: Pr0, Kq, Lb, Lc, Le, Ra, Kl, Lg, Sm, Ss, Li, Lj, Sg, Lm, Ma, Mc, Fb. -/
import Derived.Test.YtlhfclpbodfmcaaXLb
import Derived.Test.YtlhfclpbodfmcaaProg
import Derived.Below
import Derived.Deep.Draws
import Derived.Deep.AppendLies
import Derived.Maps.AppendAt
import Derived.OwnWalk
import Derived.Laws.BytesArg
import Derived.Laws.MakeOwn
import Derived.Laws.OwnMore
import Derived.Deep.OwnRows
import Derived.Tactics
import Derived.Lib.ConvBytes
import Derived.Laws.Slices
import Derived.WalkKit
import Derived.KernelRfl
import Derived.RowKit3
import Derived.Deep.LoopGhost
import Derived.Deep.QuietTactic
import Derived.BigQuiet
import Derived.WideLaws
import Derived.Deep.DeepCutAuto
import Derived.Deep.CutBlock
import Derived.Deep.RegionHeld3
import Derived.Laws.Rows
import Derived.Lib.AppendStr
import Derived.ArgAppend
import Derived.Laws.IdiomCopy
import Derived.OrdersHeld
import Derived.Laws.BitsLemmas
import Derived.RowKit
import Derived.Test.YtlhfclpbodfmcaaYEWWords
import Derived.Test.YtlhfclpbodfmcaaXRt
namespace Go.Proofs.Ytlhfclpbodfmcaa.Pr
open Go.RowKit Go.Proofs.YtlhfclpbodfmcaaW.PrintWords Go.Proofs.YtlhfclpbodfmcaaW.PrintLast Go.Proofs.YtlhfclpbodfmcaaW.PrintMore
attribute [local go_sem] max2_int min2_int max_two min_two max_three min_three max_four min_four   -- for this text's walks alone
set_option linter.unusedVariables false
set_option linter.unusedSimpArgs false
theorem k79_openM {w : World} {base : Nat} {ok : Nat → Prop} {x : S79} {cs : List Value} (h : k79.M w base ok x cs) : cs = [.int .i64 x.f0, .int .i64 x.f1, .int .i64 x.f2] := by
  obtain ⟨_, _, rfl, rfl, ⟨_, _, rfl, rfl, rfl⟩⟩ := h
  exact rfl
end Go.Proofs.Ytlhfclpbodfmcaa.Pr
namespace Go.Proofs.Ytlhfclpbodfmcaa.Pr
open Go.RowKit Go.Proofs.YtlhfclpbodfmcaaW.PrintWords Go.Proofs.YtlhfclpbodfmcaaW.PrintLast Go.Proofs.YtlhfclpbodfmcaaW.PrintMore
set_option linter.unusedVariables false
section
variable {P : Program} {ops : Array Oper} {Q : Exit → Act → World → Prop} {md : Region.Mode} {S : World → Prop} {ds : List Nat}
end
theorem fb_ {n : Nat} {w W X : World} (HB : Aside0 (Below n w W)) (h : Below W.heap.size W X := by repeat (first | exact Below.refl _ _ | apply below_alloc | apply pw_below_drewN | apply below_drew1)) (hn : n ≤ W.heap.size := by first | exact HB.out.size | exact Nat.le_refl _) : Below n w X := HB.out.trans (h.mono hn)
section
variable {P : Program} {ops : Array Oper} {Q : Exit → Act → World → Prop}
end
end Go.Proofs.Ytlhfclpbodfmcaa.Pr
namespace Go.Proofs.Ytlhfclpbodfmcaa.Pr
open Go.Proofs.Ytlhfclpbodfmcaa.Vm
set_option linter.unusedVariables false
def vT (l : List S79) (x : Rat) : Rat := conv (hsO l) (vsO l) x
def uT (l : List S79) (x : Rat) : Rat := conv (dsO l) (vsO l) x
theorem run_val {l : List S79} {lv m : Int} (h : VL l lv) (m0 : 0 ≤ m) (m1 : m ≤ 16777216) : RunF l lv m = rnd (vT l (lv : Rat) - uT l (leftM l lv m)) := by
  obtain ⟨r1, r2, _⟩ := runF_spec h.gv h.h0 h.h1 m0
  unfold RunF asks
  rw [if_pos h.v, h.lv, manyB_iff.2 ⟨m0, m1⟩]
  simp only [Bool.and_self, if_true]
  rw [okS_span r2, r1]
  rfl
section
variable {l : List S79}
end
end Go.Proofs.Ytlhfclpbodfmcaa.Pr
namespace Go.Proofs.Ytlhfclpbodfmcaa.Pr
open Go.Proofs.Ytlhfclpbodfmcaa.Vm
set_option linter.unusedVariables false
section
variable {l : List S79}
theorem hT_mT {lv : Int} (h : VL l lv) {x : Rat} (h0 : 0 ≤ x) (h1 : x ≤ (sm (hsO l) : Rat)) : hT l (mT l x) = x := conv_back h.gv.hd h.gv.h.pos h.gv.d.pos h0 h1
theorem uT_mT {lv : Int} (h : VL l lv) {x : Rat} (h0 : 0 ≤ x) (h1 : x ≤ (sm (hsO l) : Rat)) : uT l (mT l x) = vT l x := conv_conv h.gv.hd (h.gv.hd.symm.trans h.gv.hv) h.gv.h.pos h.gv.d.pos h.gv.v.pos h0 h1
end
end Go.Proofs.Ytlhfclpbodfmcaa.Pr
namespace Go.Proofs.Ytlhfclpbodfmcaa.Pr
open Go.Proofs.Ytlhfclpbodfmcaa.Vm
set_option linter.unusedVariables false
theorem rightP {l0 : List S79} {l1 l2 : List Int} (h : rightB l0 l1 l2 = true) : validB l0 = true ∧ (∀ n ∈ l2, 0 ≤ n ∧ n ≤ sm (hsO l0)) ∧ (∀ n ∈ l1, 0 ≤ n ∧ n ≤ 8388608) ∧ l0.length ≤ 40 := by
  unfold rightB fewB lvlB at h
  simp only [Bool.and_eq_true, decide_eq_true_eq, List.all_eq_true] at h
  exact ⟨h.2.1, h.2.2.1, h.2.2.2, h.1⟩
end Go.Proofs.Ytlhfclpbodfmcaa.Pr
namespace Go.Proofs.Ytlhfclpbodfmcaa.Pr
open Go.RowKit Go.Proofs.YtlhfclpbodfmcaaW.PrintWords Go.Proofs.YtlhfclpbodfmcaaW.PrintLast Go.Proofs.YtlhfclpbodfmcaaW.PrintMore
open Go.Proofs.Ytlhfclpbodfmcaa.Vm
set_option linter.unusedVariables false
set_option linter.unusedSimpArgs false
theorem wrp_ {n : Int} (h0 : -9223372036854775808 ≤ n) (h1 : n ≤ 9223372036854775807) : wrap64 n = n := wr h0 h1
end Go.Proofs.Ytlhfclpbodfmcaa.Pr
namespace Go.Proofs.Ytlhfclpbodfmcaa.Pr
open Go.RowKit Go.Proofs.YtlhfclpbodfmcaaW.PrintWords Go.Proofs.YtlhfclpbodfmcaaW.PrintLast Go.Proofs.YtlhfclpbodfmcaaW.PrintMore
set_option linter.unusedVariables false
/-- A literal row of numbers. -/
theorem litJ (W : World) (xs : List Int) (hm : xs.length ≤ 1000) : Kd.C (Kd.int .i64) (W.alloc (.cells (xs.map (.int .i64)).toArray 3 (0, 0))) (some ⟨W.heap.size, 0, none⟩) xs.length xs := by
  refine ⟨rfl, by omega, fun _ => ⟨⟨W.heap.size, 0, none⟩, rfl, fun j p hj => ⟨[.int .i64 p], rfl, rfl, fun i u hu => ?_⟩⟩⟩
  rcases i with _ | i
  · simp at hu
    subst hu
    obtain ⟨hl, hp⟩ := List.getElem?_eq_some_iff.1 hj
    have h2 := blk_cell (blk_new W (.cells (xs.map (.int .i64)).toArray 3 (0, 0))) j
    simp [add_plain, show (Kd.int IntKind.i64).sz = 1 from rfl, hj]
  · simp at hu
theorem nw_ (W : World) (C : Obj) : Aside0 ((W.alloc C).heap[W.heap.size]? = some C) := ⟨blk_new W C⟩
theorem ba_ (W : World) (C : Obj) : Below W.heap.size W (W.alloc C) := below_alloc (Below.refl _ _) _
/-- A row of the caller's, later. -/
theorem kc_ {α : Type} {d : Kd α} {w W : World} {A : Option Addr} {l : List α} (h : Aside0 (Kd.C d w A l.length l)) (hb : Aside0 (Below w.heap.size w W)) : Kd.C d W A l.length l := Kd.C_below h.out hb.out
end Go.Proofs.Ytlhfclpbodfmcaa.Pr
namespace Go.Proofs.Ytlhfclpbodfmcaa.Pr
open Go.Proofs.Ytlhfclpbodfmcaa.Vm
set_option linter.unusedVariables false
theorem frac_le {a b c d : Int} (hb : 1 ≤ b) (hd : 1 ≤ d) (h : a * d ≤ c * b) : (a : Rat) / (b : Rat) ≤ (c : Rat) / (d : Rat) := by
  have hbR : (1 : Rat) ≤ (b : Rat) := by have := castLe hb; simpa using this
  have hdR : (1 : Rat) ≤ (d : Rat) := by have := castLe hd; simpa using this
  have hR : (a : Rat) * (d : Rat) ≤ (c : Rat) * (b : Rat) := by have := castLe h; rwa [Rat.intCast_mul, Rat.intCast_mul] at this
  have i1 := inv_nn hbR
  have i2 := inv_nn hdR
  have := Rat.mul_le_mul_of_nonneg_right hR (mul_nn (Rat.le_of_lt i1) (Rat.le_of_lt i2))
  rw [Rat.div_def, Rat.div_def]
  have k1 : (b : Rat) * (b : Rat)⁻¹ = 1 := Rat.mul_inv_cancel _ (by grind)
  have k2 : (d : Rat) * (d : Rat)⁻¹ = 1 := Rat.mul_inv_cancel _ (by grind)
  have e1 : (a : Rat) * (d : Rat) * ((b : Rat)⁻¹ * (d : Rat)⁻¹) = (a : Rat) * (b : Rat)⁻¹ * ((d : Rat) * (d : Rat)⁻¹) := by grind
  have e2 : (c : Rat) * (b : Rat) * ((b : Rat)⁻¹ * (d : Rat)⁻¹) = (c : Rat) * (d : Rat)⁻¹ * ((b : Rat) * (b : Rat)⁻¹) := by grind
  rw [e1, e2, k1, k2, Rat.mul_one, Rat.mul_one] at this
  exact this
section
variable {v w : List S79} {n : Int}
end
end Go.Proofs.Ytlhfclpbodfmcaa.Pr
namespace Go.Proofs.Ytlhfclpbodfmcaa.Pr
open Go.RowKit Go.Proofs.YtlhfclpbodfmcaaW.PrintWords Go.Proofs.YtlhfclpbodfmcaaW.PrintLast Go.Proofs.YtlhfclpbodfmcaaW.PrintMore
open Go.Proofs.Ytlhfclpbodfmcaa.Vm
set_option linter.unusedVariables false
set_option linter.unusedSimpArgs false
/-- Two rings as one. -/
def sumS (b r : S79) : S79 := ⟨b.f0 + r.f0, b.f1 + r.f1, b.f2 + r.f2⟩
def mrgB (b r : S79) : Bool := decide (b.f1 * r.f0 = r.f1 * b.f0) && (decide (b.f2 * r.f0 = r.f2 * b.f0) && ringB (sumS b r))
/-- One ring more. -/
def mergeS (done : List S79) (r : S79) : List S79 := if done.length = 0 then done ++ [r] else if mrgB (rd_T79 done ((done.length - 1 : Nat) : Int)) r then done.set (done.length - 1) (sumS (rd_T79 done ((done.length - 1 : Nat) : Int)) r) else done ++ [r]
def MergedL (l : List S79) : List S79 := l.foldl mergeS []
def MergedF (l : List S79) : List S79 × Int := if validB l then (MergedL l, 0) else ([], 20)
theorem mergeS_nil {d : List S79} {r : S79} (h : d.length = 0) : mergeS d r = d ++ [r] := by unfold mergeS; rw [if_pos h]
theorem mergeS_no {d : List S79} {r : S79} {k : Nat} (h : d.length = k + 1) (hm : mrgB (rd_T79 d (k : Int)) r = false) : mergeS d r = d ++ [r] := by
  unfold mergeS
  have e : d.length - 1 = k := by omega
  rw [if_neg (by omega), e, if_neg (by rw [hm]; simp)]
theorem mergeS_yes {d : List S79} {r : S79} {k : Nat} (h : d.length = k + 1) (hm : mrgB (rd_T79 d (k : Int)) r = true) : mergeS d r = d.set k (sumS (rd_T79 d (k : Int)) r) := by
  unfold mergeS
  have e : d.length - 1 = k := by omega
  rw [if_neg (by omega), e, if_pos hm]
theorem merge_step (l : List S79) (n : Nat) (h : n < l.length) : (l.take (n + 1)).foldl mergeS [] = mergeS ((l.take n).foldl mergeS []) (rd_T79 l (n : Int)) := by
  rw [List.take_add_one, List.foldl_append]
  simp [List.getElem?_eq_getElem h, rd_T79, List.getD_eq_getElem?_getD]
theorem rd_mem {l : List S79} {n : Nat} (h : n < l.length) : rd_T79 l (n : Int) ∈ l := by simp [rd_T79, List.getD_eq_getElem?_getD, List.getElem?_eq_getElem h]
theorem valid_ring {l : List S79} (h : validB l = true) : ∀ r, r ∈ l → ringB r = true := chain_ring (by unfold validB at h; rw [Bool.and_eq_true] at h; exact h.2)
/-- What holds of the rings so far. -/
structure MInv (l done : List S79) (n : Nat) : Prop where
  len : done.length ≤ n
  ring : ∀ r, r ∈ done → ringB r = true
  eq : (l.take n).foldl mergeS [] = done
theorem MInv.app {l done : List S79} {n : Nat} (h : MInv l done n) (hn : n < l.length) (hr : ringB (rd_T79 l (n : Int)) = true) (hm : mergeS done (rd_T79 l (n : Int)) = done ++ [rd_T79 l (n : Int)]) : MInv l (done ++ [rd_T79 l (n : Int)]) (n + 1) :=
  ⟨by have := h.len; simp; omega, fun r hr' => by
    rcases List.mem_append.1 hr' with h1 | h1
    · exact h.ring r h1
    · simp at h1; subst h1; exact hr, by rw [merge_step l n hn, h.eq, hm]⟩
theorem MInv.put {l done : List S79} {n k : Nat} (h : MInv l done n) (hn : n < l.length) (hk : done.length = k + 1) (hm : mrgB (rd_T79 done (k : Int)) (rd_T79 l (n : Int)) = true) : MInv l (done.set k (sumS (rd_T79 done (k : Int)) (rd_T79 l (n : Int)))) (n + 1) :=
  ⟨by have := h.len; simp; omega, fun r hr' => by
    rcases List.mem_or_eq_of_mem_set hr' with h1 | h1
    · exact h.ring r h1
    · subst h1; unfold mrgB at hm; rw [Bool.and_eq_true, Bool.and_eq_true] at hm; exact hm.2.2, by rw [merge_step l n hn, h.eq, mergeS_yes hk hm]⟩
end Go.Proofs.Ytlhfclpbodfmcaa.Pr
namespace Go.Proofs.Ytlhfclpbodfmcaa.Pr
open Go.RowKit Go.Proofs.YtlhfclpbodfmcaaW.PrintWords Go.Proofs.YtlhfclpbodfmcaaW.PrintLast Go.Proofs.YtlhfclpbodfmcaaW.PrintMore
open Go.Proofs.Ytlhfclpbodfmcaa.Vm
set_option linter.unusedVariables false
set_option linter.unusedSimpArgs false
/-- One vessel on top of another one. -/
def StackedF (l0 l1 : List S79) : List S79 × Int := if validB l0 then (if validB l1 then (if 24 < (l0 ++ l1).length then ([], 2) else if validB (l0 ++ l1) then (l0 ++ l1, 0) else ([], 1)) else ([], 20)) else ([], 20)
end Go.Proofs.Ytlhfclpbodfmcaa.Pr
namespace Go.Proofs.Ytlhfclpbodfmcaa.Pr
open Go.Proofs.Ytlhfclpbodfmcaa.Vm
set_option linter.unusedVariables false
/-- Two vessels are alike up to a level. -/
structure Agree (u v : List S79) (n : Rat) : Prop where
  hu : n ≤ (sm (hsO u) : Rat)
  m : ∀ x, 0 ≤ x → x ≤ n → mT u x = mT v x
  c : ∀ x, 0 ≤ x → x ≤ n → vT u x = vT v x
theorem agree_says {u v : List S79} {a b m : Int} (hu : validB u = true) (va : VL v a) (vb : VL v b) (hba : b ≤ a) (m0 : 0 ≤ m) (m1 : m ≤ 8388608) (h : Agree u v (a : Rat)) :
    SinkingF u a b = SinkingF v a b ∧ AfterF u a m = AfterF v a m ∧ RunF u a m = RunF v a m := by
  have ha : a ≤ sm (hsO u) := Rat.intCast_le_intCast.1 h.hu
  have ua : VL u a := ⟨hu, va.h0, ha⟩
  have ub : VL u b := ⟨hu, vb.h0, Int.le_trans hba ha⟩
  have ea : mT u (a : Rat) = mT v (a : Rat) := h.m _ va.c0 Rat.le_refl
  have el : leftM u a m = leftM v a m := by unfold leftM; rw [ea]
  have hx := after_bd va m0
  have ex := mT_after va m0
  have lx := left_bd va m0
  have x1 : afterX v a m ≤ (a : Rat) := (mT_le va hx.1 hx.2 va.c0 va.c1).1 (by rw [ex]; exact lx.2.1)
  have xu : afterX v a m ≤ (sm (hsO u) : Rat) := Rat.le_trans x1 h.hu
  have em := h.m _ hx.1 x1
  have ef : afterX u a m = afterX v a m := by
    have e : afterX u a m = hT u (mT u (afterX v a m)) := by unfold afterX; rw [el, show hT v (leftM v a m) = afterX v a m from rfl, em, ex]
    rw [e, hT_mT ua hx.1 xu]
  have er : uT u (leftM v a m) = uT v (leftM v a m) := by
    rw [← ex, uT_mT va hx.1 hx.2, ← em, uT_mT ua hx.1 xu]
    exact h.c _ hx.1 x1
  refine ⟨?_, ?_, ?_⟩
  · rw [sink_val ua ub hba, sink_val va vb hba, ea, h.m _ vb.c0 (castLe hba)]
  · rw [after_val ua m0 (by omega), after_val va m0 (by omega), ef]
  · rw [run_val ua m0 (by omega), run_val va m0 (by omega), el, er, h.c _ va.c0 Rat.le_refl]
theorem conv_app : ∀ {xs ys us ws : List Int} {x : Rat}, xs.length = ys.length → Pos xs → Pos us → 0 ≤ x →
    conv (xs ++ us) (ys ++ ws) x = if x ≤ (sm xs : Rat) then conv xs ys x else (sm ys : Rat) + conv us ws (x - (sm xs : Rat))
  | [], [], us, ws, x, hl, hp, hq, h0 => by
    have e : ((sm [] : Int) : Rat) = 0 := rfl
    rw [e]
    show conv us ws x = _
    by_cases h : x ≤ 0
    · have e2 : x = 0 := Rat.le_antisymm h h0
      rw [if_pos h, e2, conv_zero hq]
      rfl
    · rw [if_neg h]
      have e2 : x - 0 = x := by grind
      rw [e2]; grind
  | a :: xs, b :: ys, us, ws, x, hl, hp, hq, h0 => by
    have s0 : (0 : Rat) ≤ (sm xs : Rat) := by have := castLe hp.tail.sum; simpa using this
    have ea := sm_cast a xs
    have eb := sm_cast b ys
    show conv (a :: (xs ++ us)) (b :: (ys ++ ws)) x = _
    by_cases h : x ≤ (a : Rat)
    · rw [conv_low h, if_pos (by rw [ea]; grind), conv_low h]
    · have ih := conv_app (xs := xs) (ys := ys) (us := us) (ws := ws) (x := x - (a : Rat)) (by simpa using hl) hp.tail hq (by grind)
      rw [conv_high h, ih, ea, eb]
      by_cases h2 : x - (a : Rat) ≤ (sm xs : Rat)
      · rw [if_pos h2, if_pos (by grind), conv_high h]
      · rw [if_neg h2, if_neg (by grind)]
        have e : x - (a : Rat) - (sm xs : Rat) = x - ((a : Rat) + (sm xs : Rat)) := by grind
        rw [e]; grind
  | [], b :: ys, us, ws, x, hl, hp, hq, h0 => by simp at hl
  | a :: xs, [], us, ws, x, hl, hp, hq, h0 => by simp at hl
theorem hsO_app (l t : List S79) : hsO (l ++ t) = hsO l ++ hsO t := by simp [hsO]
theorem vsO_app (l t : List S79) : vsO (l ++ t) = vsO l ++ vsO t := by simp [vsO]
theorem dsO_app (l t : List S79) : dsO (l ++ t) = dsO l ++ dsO t := by simp [dsO]
theorem sm_app : ∀ (l t : List Int), sm (l ++ t) = sm l + sm t
  | [], t => by simp [sm]
  | a :: l, t => by simp only [List.cons_append, sm, sm_app l t]; omega
theorem mT_app {l t : List S79} (hl : Pos (hsO l)) (ht : Pos (hsO t)) {x : Rat} (h0 : 0 ≤ x) : mT (l ++ t) x = if x ≤ (sm (hsO l) : Rat) then mT l x else (sm (dsO l) : Rat) + mT t (x - (sm (hsO l) : Rat)) := by
  unfold mT; rw [hsO_app, dsO_app]; exact conv_app (by simp [hsO, dsO]) hl ht h0
theorem vT_app {l t : List S79} (hl : Pos (hsO l)) (ht : Pos (hsO t)) {x : Rat} (h0 : 0 ≤ x) : vT (l ++ t) x = if x ≤ (sm (hsO l) : Rat) then vT l x else (sm (vsO l) : Rat) + vT t (x - (sm (hsO l) : Rat)) := by
  unfold vT; rw [hsO_app, vsO_app]; exact conv_app (by simp [hsO, vsO]) hl ht h0
theorem stk_agree {v w : List S79} (hv : validB v = true) (hw : validB w = true) {n : Rat} (h : n ≤ (sm (hsO v) : Rat)) : Agree (v ++ w) v n := by
  have pv := (valid_GV hv).h.pos
  have pw := (valid_GV hw).h.pos
  refine ⟨?_, fun x h0 h1 => ?_, fun x h0 h1 => ?_⟩
  · rw [hsO_app, sm_app, Rat.intCast_add]
    have : (0 : Rat) ≤ (sm (hsO w) : Rat) := by have := castLe pw.sum; simpa using this
    grind
  · rw [mT_app pv pw h0, if_pos (Rat.le_trans h1 h)]
  · rw [vT_app pv pw h0, if_pos (Rat.le_trans h1 h)]
end Go.Proofs.Ytlhfclpbodfmcaa.Pr
namespace Go.Proofs.Ytlhfclpbodfmcaa.Pr
open Go.Proofs.Ytlhfclpbodfmcaa.Vm
set_option linter.unusedVariables false
theorem mergeS_snoc (d : List S79) (b r : S79) : mergeS (d ++ [b]) r = if mrgB b r then d ++ [sumS b r] else d ++ [b] ++ [r] := by
  have e1 : (d ++ [b]).length - 1 = d.length := by simp
  have e2 : rd_T79 (d ++ [b]) ((d.length : Nat) : Int) = b := by simp [rd_T79]
  unfold mergeS
  rw [if_neg (by simp), e1, e2]
  split
  · simp [List.set_append]
  · rfl
theorem mergeS_emp (r : S79) : mergeS [] r = [r] := by simp [mergeS]
/-- What merging two rings asks. -/
theorem mrg_iff {b r : S79} : mrgB b r = true ↔ b.f1 * r.f0 = r.f1 * b.f0 ∧ b.f2 * r.f0 = r.f2 * b.f0 ∧ ringB (sumS b r) = true := by
  unfold mrgB
  rw [Bool.and_eq_true, Bool.and_eq_true, decide_eq_true_iff, decide_eq_true_iff]
theorem mul_cancel {c x y : Int} (hc : 1 ≤ c) (h : c * x = c * y) : x = y := Int.eq_of_mul_eq_mul_left (by omega) h
theorem mul_cancel_le {c x y : Int} (hc : 1 ≤ c) (h : c * x ≤ c * y) : x ≤ y := Int.le_of_mul_le_mul_left h (by omega)
/-- No two rings that lie on one another run equally, or they are too great together. -/
def noM : List S79 → Prop
  | a :: b :: l => mrgB a b = false ∧ noM (b :: l)
  | _ => True
theorem noM_snoc : ∀ {d : List S79} {b r : S79}, noM (d ++ [b]) → mrgB b r = false → noM (d ++ [b] ++ [r])
  | [], b, r, h, hm => ⟨hm, trivial⟩
  | [p], b, r, h, hm => ⟨h.1, hm, trivial⟩
  | p :: q :: d, b, r, h, hm => ⟨h.1, noM_snoc (d := q :: d) h.2 hm⟩
theorem noM_mid : ∀ {d : List S79} {b r : S79} {t : List S79}, noM (d ++ b :: r :: t) → mrgB b r = false
  | [], b, r, t, h => h.1
  | [p], b, r, t, h => h.2.1
  | p :: q :: d, b, r, t, h => noM_mid (d := q :: d) h.2
theorem mrg_sum {p b r : S79} (hp : ringB p = true) (hb : ringB b = true) (hr : ringB r = true) (hm : mrgB b r = true) (hn : mrgB p b = false) : mrgB p (sumS b r) = false := by
  cases h : mrgB p (sumS b r) with
  | false => rfl
  | true =>
    obtain ⟨h1, h2, h3⟩ := mrg_iff.1 h
    obtain ⟨m1, m2, m3⟩ := mrg_iff.1 hm
    have rp := ringB_iff.1 hp
    have rb := ringB_iff.1 hb
    have rr := ringB_iff.1 hr
    have r3 := ringB_iff.1 h3
    simp only [sumS] at h1 h2 r3
    have : mrgB p b = true := by
      refine mrg_iff.2 ⟨?_, ?_, ringB_iff.2 ?_⟩
      · refine mul_cancel (c := b.f0 + r.f0) (by omega) ?_
        have : (b.f0 + r.f0) * (p.f1 * b.f0) = p.f1 * (b.f0 + r.f0) * b.f0 := by grind
        rw [this, h1]
        have : (b.f1 + r.f1) * p.f0 * b.f0 = p.f0 * (b.f1 * b.f0 + r.f1 * b.f0) := by grind
        rw [this, ← m1]
        grind
      · refine mul_cancel (c := b.f0 + r.f0) (by omega) ?_
        have : (b.f0 + r.f0) * (p.f2 * b.f0) = p.f2 * (b.f0 + r.f0) * b.f0 := by grind
        rw [this, h2]
        have : (b.f2 + r.f2) * p.f0 * b.f0 = p.f0 * (b.f2 * b.f0 + r.f2 * b.f0) := by grind
        rw [this, ← m2]
        grind
      · simp only [sumS]; omega
    rw [hn] at this
    cases this
theorem noM_put : ∀ {d : List S79} {b r : S79}, (∀ x, x ∈ d ++ [b] → ringB x = true) → ringB r = true → noM (d ++ [b]) → mrgB b r = true → noM (d ++ [sumS b r])
  | [], b, r, hd, hr, h, hm => trivial
  | [p], b, r, hd, hr, h, hm => ⟨mrg_sum (hd p (by simp)) (hd b (by simp)) hr hm h.1, trivial⟩
  | p :: q :: d, b, r, hd, hr, h, hm => ⟨h.1, noM_put (d := q :: d) (fun x hx => hd x (by simp at hx ⊢; exact .inr hx)) hr h.2 hm⟩
theorem fold_noM : ∀ (l done : List S79), noM (done ++ l) → l.foldl mergeS done = done ++ l
  | [], done, h => by simp
  | r :: t, done, h => by
    have e : mergeS done r = done ++ [r] := by
      rcases List.eq_nil_or_concat done with rfl | ⟨d, b, rfl⟩
      · exact mergeS_emp r
      · simp only [List.concat_eq_append] at h ⊢
        have hn := noM_mid (d := d) (b := b) (r := r) (t := t) (by simpa using h)
        rw [mergeS_snoc, hn]
        rfl
    rw [List.foldl_cons, e, fold_noM t (done ++ [r]) (by simpa using h)]
    simp
/-- Two rings as one in a chain. -/
theorem slope_eq {b r : S79} (hb : ringB b = true) (m1 : b.f1 * r.f0 = r.f1 * b.f0) (m2 : b.f2 * r.f0 = r.f2 * b.f0) : b.f1 * r.f2 = r.f1 * b.f2 := by
  have rb := ringB_iff.1 hb
  refine mul_cancel (c := b.f0) (by omega) ?_
  have : b.f0 * (b.f1 * r.f2) = b.f1 * (r.f2 * b.f0) := by grind
  rw [this, ← m2]
  have : b.f0 * (r.f1 * b.f2) = b.f2 * (r.f1 * b.f0) := by grind
  rw [this, ← m1]
  grind
theorem slope_next {b r c : S79} (hr : ringB r = true) (hb : ringB b = true) (e : b.f1 * r.f2 = r.f1 * b.f2) (h : r.f1 * c.f2 ≤ c.f1 * r.f2) : b.f1 * c.f2 ≤ c.f1 * b.f2 := by
  have rr := ringB_iff.1 hr
  have rb := ringB_iff.1 hb
  refine mul_cancel_le (c := r.f2) (by omega) ?_
  have e1 : r.f2 * (b.f1 * c.f2) = b.f2 * (r.f1 * c.f2) := by have : r.f2 * (b.f1 * c.f2) = (b.f1 * r.f2) * c.f2 := by grind
                                                              rw [this, e]; grind
  have e2 : r.f2 * (c.f1 * b.f2) = b.f2 * (c.f1 * r.f2) := by grind
  rw [e1, e2]
  exact Int.mul_le_mul_of_nonneg_left h (by omega)
theorem slope_prev {p b r : S79} (hr : ringB r = true) (hb : ringB b = true) (e : b.f1 * r.f2 = r.f1 * b.f2) (h : p.f1 * b.f2 ≤ b.f1 * p.f2) : p.f1 * r.f2 ≤ r.f1 * p.f2 := by
  have rr := ringB_iff.1 hr
  have rb := ringB_iff.1 hb
  refine mul_cancel_le (c := b.f2) (by omega) ?_
  have e1 : b.f2 * (p.f1 * r.f2) = r.f2 * (p.f1 * b.f2) := by grind
  have e2 : b.f2 * (r.f1 * p.f2) = r.f2 * (b.f1 * p.f2) := by have : b.f2 * (r.f1 * p.f2) = (r.f1 * b.f2) * p.f2 := by grind
                                                              rw [this, ← e]; grind
  rw [e1, e2]
  exact Int.mul_le_mul_of_nonneg_left h (by omega)
theorem chain_cons {a b : S79} {l : List S79} : chainB (a :: b :: l) = true ↔ ringB a = true ∧ a.f1 * b.f2 ≤ b.f1 * a.f2 ∧ chainB (b :: l) = true := by
  simp only [chainB, Bool.and_eq_true, decide_eq_true_iff]
  exact ⟨fun h => ⟨h.1.1, h.1.2, h.2⟩, fun h => ⟨⟨h.1, h.2.1⟩, h.2.2⟩⟩
theorem chain_head {a : S79} {l : List S79} (h : chainB (a :: l) = true) : ringB a = true := chain_ring h a (by simp)
theorem chain_put : ∀ {d : List S79} {b r : S79} {t : List S79}, chainB (d ++ b :: r :: t) = true → mrgB b r = true → chainB (d ++ sumS b r :: t) = true
  | [], b, r, t, h, hm => by
    obtain ⟨m1, m2, m3⟩ := mrg_iff.1 hm
    obtain ⟨hb, h1, h2⟩ := chain_cons.1 h
    have hr := chain_head h2
    have e := slope_eq hb m1 m2
    cases t with
    | nil => exact m3
    | cons c t =>
      obtain ⟨_, k1, k2⟩ := chain_cons.1 h2
      refine chain_cons.2 ⟨m3, ?_, k2⟩
      have := slope_next hr hb e k1
      simp only [sumS]
      have e3 : (b.f1 + r.f1) * c.f2 = b.f1 * c.f2 + r.f1 * c.f2 := by grind
      have e4 : c.f1 * (b.f2 + r.f2) = c.f1 * b.f2 + c.f1 * r.f2 := by grind
      omega
  | [p], b, r, t, h, hm => by
    obtain ⟨hp, h1, h2⟩ := chain_cons.1 h
    have ih := chain_put (d := []) h2 hm
    obtain ⟨m1, m2, m3⟩ := mrg_iff.1 hm
    have hb := chain_head h2
    have hr := chain_head (chain_cons.1 h2).2.2
    refine chain_cons.2 ⟨hp, ?_, ih⟩
    have := slope_prev hr hb (slope_eq hb m1 m2) h1
    simp only [sumS]
    have e3 : p.f1 * (b.f2 + r.f2) = p.f1 * b.f2 + p.f1 * r.f2 := by grind
    have e4 : (b.f1 + r.f1) * p.f2 = b.f1 * p.f2 + r.f1 * p.f2 := by grind
    omega
  | p :: q :: d, b, r, t, h, hm => by
    obtain ⟨hp, h1, h2⟩ := chain_cons.1 h
    exact chain_cons.2 ⟨hp, h1, chain_put (d := q :: d) h2 hm⟩
/-- What has been merged tells what the rings tell. -/
structure Tells (d p : List S79) : Prop where
  eh : sm (hsO d) = sm (hsO p)
  ev : sm (vsO d) = sm (vsO p)
  ed : sm (dsO d) = sm (dsO p)
  m : ∀ x, 0 ≤ x → x ≤ (sm (hsO p) : Rat) → mT d x = mT p x
  c : ∀ x, 0 ≤ x → x ≤ (sm (hsO p) : Rat) → vT d x = vT p x
theorem ring_pos {l : List S79} (h : ∀ r, r ∈ l → ringB r = true) : Pos (hsO l) := by
  intro a ha
  simp only [hsO, List.mem_map] at ha
  obtain ⟨r, hr, rfl⟩ := ha
  exact (ringB_iff.1 (h r hr)).1
theorem Tells.app {d p : List S79} {r : S79} (t : Tells d p) (hd : Pos (hsO d)) (hp : Pos (hsO p)) (hr : ringB r = true) : Tells (d ++ [r]) (p ++ [r]) := by
  have pr : Pos (hsO [r]) := ring_pos (by simp; exact hr)
  refine ⟨by rw [hsO_app, hsO_app, sm_app, sm_app, t.eh], by rw [vsO_app, vsO_app, sm_app, sm_app, t.ev], by rw [dsO_app, dsO_app, sm_app, sm_app, t.ed], fun x h0 h1 => ?_, fun x h0 h1 => ?_⟩
  · rw [mT_app hd pr h0, mT_app hp pr h0, t.eh, t.ed]
    split
    · rename_i hx; exact t.m x h0 hx
    · rfl
  · rw [vT_app hd pr h0, vT_app hp pr h0, t.eh, t.ev]
    split
    · rename_i hx; exact t.c x h0 hx
    · rfl
theorem conv_two {a b c d : Int} {y : Rat} (ha : 1 ≤ a) (hc : 1 ≤ c) (e : b * c = d * a) (h1 : y ≤ ((a + c : Int) : Rat)) : conv [a, c] [b, d] y = conv [a + c] [b + d] y := by
  have aR := one_le ha
  have cR := one_le hc
  have eR : (b : Rat) * (c : Rat) = (d : Rat) * (a : Rat) := by have := congrArg (fun z : Int => (z : Rat)) e; simp only [Rat.intCast_mul] at this; exact this
  have i1 : (a : Rat) * (a : Rat)⁻¹ = 1 := Rat.mul_inv_cancel _ (by grind)
  have i2 : (c : Rat) * (c : Rat)⁻¹ = 1 := Rat.mul_inv_cancel _ (by grind)
  have i3 : ((a : Rat) + (c : Rat)) * ((a : Rat) + (c : Rat))⁻¹ = 1 := Rat.mul_inv_cancel _ (by grind)
  have key : ((b : Rat) + (d : Rat)) * ((a : Rat) + (c : Rat))⁻¹ = (b : Rat) * (a : Rat)⁻¹ := by
    have : (b : Rat) * (a : Rat)⁻¹ = (b : Rat) * (a : Rat)⁻¹ * (((a : Rat) + (c : Rat)) * ((a : Rat) + (c : Rat))⁻¹) := by rw [i3, Rat.mul_one]
    rw [this]
    have k : (b : Rat) * (a : Rat)⁻¹ * ((a : Rat) + (c : Rat)) = (b : Rat) + (d : Rat) := by
      have : (b : Rat) * (a : Rat)⁻¹ * ((a : Rat) + (c : Rat)) = (b : Rat) * ((a : Rat) * (a : Rat)⁻¹) + ((b : Rat) * (c : Rat)) * (a : Rat)⁻¹ := by grind
      rw [this, i1, eR]
      have : (d : Rat) * (a : Rat) * (a : Rat)⁻¹ = (d : Rat) * ((a : Rat) * (a : Rat)⁻¹) := by grind
      rw [this, i1]; grind
    rw [← k]; grind
  have key2 : (d : Rat) * (c : Rat)⁻¹ = (b : Rat) * (a : Rat)⁻¹ := by
    have : (d : Rat) * (c : Rat)⁻¹ = ((d : Rat) * (a : Rat)) * (a : Rat)⁻¹ * (c : Rat)⁻¹ := by
      have : ((d : Rat) * (a : Rat)) * (a : Rat)⁻¹ * (c : Rat)⁻¹ = (d : Rat) * ((a : Rat) * (a : Rat)⁻¹) * (c : Rat)⁻¹ := by grind
      rw [this, i1]; grind
    rw [this, ← eR]
    have : (b : Rat) * (c : Rat) * (a : Rat)⁻¹ * (c : Rat)⁻¹ = (b : Rat) * (a : Rat)⁻¹ * ((c : Rat) * (c : Rat)⁻¹) := by grind
    rw [this, i2]; grind
  rw [Rat.intCast_add] at h1
  rw [conv_low (a := a + c) (b := b + d) (by rw [Rat.intCast_add]; exact h1), Rat.div_def, Rat.intCast_add, Rat.intCast_add]
  have r : y * ((b : Rat) + (d : Rat)) * ((a : Rat) + (c : Rat))⁻¹ = y * ((b : Rat) * (a : Rat)⁻¹) := by rw [← key]; grind
  rw [r]
  by_cases h : y ≤ (a : Rat)
  · rw [conv_low h, Rat.div_def]; grind
  · rw [conv_high h, conv_low (by grind), Rat.div_def]
    have : (y - (a : Rat)) * (d : Rat) * (c : Rat)⁻¹ = (y - (a : Rat)) * ((b : Rat) * (a : Rat)⁻¹) := by rw [← key2]; grind
    rw [this]
    have : (b : Rat) = (a : Rat) * ((b : Rat) * (a : Rat)⁻¹) := by
      have : (a : Rat) * ((b : Rat) * (a : Rat)⁻¹) = (b : Rat) * ((a : Rat) * (a : Rat)⁻¹) := by grind
      rw [this, i1]; grind
    grind
theorem two_tells {d : List S79} {b r : S79} (hd : Pos (hsO d)) (hb : ringB b = true) (hr : ringB r = true) (hm : mrgB b r = true) : Tells (d ++ [sumS b r]) (d ++ [b] ++ [r]) := by
  obtain ⟨m1, m2, m3⟩ := mrg_iff.1 hm
  have rb := ringB_iff.1 hb
  have rr := ringB_iff.1 hr
  have ps : Pos (hsO [sumS b r]) := ring_pos (by simp; exact m3)
  have p2 : Pos (hsO [b, r]) := ring_pos (by simp; exact ⟨hb, hr⟩)
  have e : d ++ [b] ++ [r] = d ++ [b, r] := by simp
  rw [e]
  refine ⟨?_, ?_, ?_, fun x h0 h1 => ?_, fun x h0 h1 => ?_⟩
  · rw [hsO_app, hsO_app, sm_app, sm_app]; simp [hsO, sm, sumS]
  · rw [vsO_app, vsO_app, sm_app, sm_app]; simp [vsO, sm, sumS]
  · rw [dsO_app, dsO_app, sm_app, sm_app]; simp [dsO, sm, sumS]
  · rw [mT_app hd ps h0, mT_app hd p2 h0]
    split
    · rfl
    · rename_i hx
      congr 1
      exact (conv_two (a := b.f0) (b := b.f2) (c := r.f0) (d := r.f2) rb.1 rr.1 m2 (by
        rw [hsO_app, sm_app, Rat.intCast_add] at h1
        have : sm (hsO [b, r]) = b.f0 + r.f0 := by simp [hsO, sm]
        rw [this] at h1; grind)).symm
  · rw [vT_app hd ps h0, vT_app hd p2 h0]
    split
    · rfl
    · rename_i hx
      congr 1
      exact (conv_two (a := b.f0) (b := b.f1) (c := r.f0) (d := r.f1) rb.1 rr.1 m1 (by
        rw [hsO_app, sm_app, Rat.intCast_add] at h1
        have : sm (hsO [b, r]) = b.f0 + r.f0 := by simp [hsO, sm]
        rw [this] at h1; grind)).symm
theorem Tells.trans {a b c : List S79} (h1 : Tells a b) (h2 : Tells b c) : Tells a c :=
  ⟨h1.eh.trans h2.eh, h1.ev.trans h2.ev, h1.ed.trans h2.ed, fun x x0 x1 => (h1.m x x0 (by rw [h2.eh]; exact x1)).trans (h2.m x x0 x1), fun x x0 x1 => (h1.c x x0 (by rw [h2.eh]; exact x1)).trans (h2.c x x0 x1)⟩
theorem merge_go : ∀ (l done pre : List S79), chainB (done ++ l) = true → (∀ r, r ∈ pre → ringB r = true) → Tells done pre → noM done → chainB (l.foldl mergeS done) = true ∧ Tells (l.foldl mergeS done) (pre ++ l) ∧ noM (l.foldl mergeS done)
  | [], done, pre, hc, hp, ht, hn => by simpa using ⟨by simpa using hc, ht, hn⟩
  | r :: t, done, pre, hc, hp, ht, hn => by
    have hall := chain_ring hc
    have hr : ringB r = true := hall r (by simp)
    have hdone : ∀ x, x ∈ done → ringB x = true := fun x hx => hall x (by simp [hx])
    have hpre : ∀ x, x ∈ pre ++ [r] → ringB x = true := fun x hx => by
      rcases List.mem_append.1 hx with h | h
      · exact hp x h
      · simp at h; subst h; exact hr
    have ta := ht.app (ring_pos hdone) (ring_pos hp) hr
    have goal : chainB (mergeS done r ++ t) = true ∧ Tells (mergeS done r) (pre ++ [r]) ∧ noM (mergeS done r) := by
      rcases List.eq_nil_or_concat done with rfl | ⟨d, b, rfl⟩
      · rw [mergeS_emp]
        exact ⟨by simpa using hc, by simpa using ta, trivial⟩
      · simp only [List.concat_eq_append] at *
        have hb : ringB b = true := hdone b (by simp)
        have hd : ∀ x, x ∈ d → ringB x = true := fun x hx => hdone x (by simp [hx])
        rw [mergeS_snoc]
        cases hm : mrgB b r with
        | false => exact ⟨by simpa using hc, ta, noM_snoc hn hm⟩
        | true =>
          refine ⟨?_, (two_tells (ring_pos hd) hb hr hm).trans ta, noM_put hdone hr hn hm⟩
          have := chain_put (d := d) (b := b) (r := r) (t := t) (by simpa using hc) hm
          simpa using this
    have ih := merge_go t (mergeS done r) (pre ++ [r]) goal.1 hpre goal.2.1 goal.2.2
    rw [List.foldl_cons]
    refine ⟨ih.1, ?_, ih.2.2⟩
    have := ih.2.1
    simpa using this
end Go.Proofs.Ytlhfclpbodfmcaa.Pr
namespace Go.Proofs.Ytlhfclpbodfmcaa.Pr
open Go.RowKit Go.Proofs.YtlhfclpbodfmcaaW.PrintWords Go.Proofs.YtlhfclpbodfmcaaW.PrintLast Go.Proofs.YtlhfclpbodfmcaaW.PrintMore
open Go.Proofs.Ytlhfclpbodfmcaa.Vm
set_option linter.unusedVariables false
set_option linter.unusedSimpArgs false
theorem cutGo_len : ∀ {l : List S79} {lv : Int} {x : List S79}, cutGo l lv = some x → x.length ≤ l.length
  | [], lv, x, h => by simp [cutGo] at h; subst h; simp
  | r :: t, lv, x, h => by
    simp only [cutGo] at h
    split at h
    · split at h
      · cases h; simp
      · cases hc : cutGo t (lv - r.f0) with
        | none => rw [hc] at h; cases h
        | some y =>
          rw [hc] at h
          have := cutGo_len hc
          cases h
          simp; omega
    · cases h
theorem valid_len24 {l : List S79} (h : validB l = true) : l.length ≤ 24 := by have := (valid_GV h).h.ln; rwa [List.length_map] at this
theorem mergeS_len (d : List S79) (r : S79) : (mergeS d r).length ≤ d.length + 1 := by
  unfold mergeS
  split
  · simp
  · split <;> simp
theorem merged_len0 : ∀ (l d : List S79), (l.foldl mergeS d).length ≤ d.length + l.length
  | [], d => by simp
  | r :: t, d => by
    have := merged_len0 t (mergeS d r)
    have := mergeS_len d r
    simp only [List.foldl_cons, List.length_cons]
    omega
end Go.Proofs.Ytlhfclpbodfmcaa.Pr
namespace Go.Proofs.Ytlhfclpbodfmcaa.Pr
open Go.Proofs.Ytlhfclpbodfmcaa.Vm
set_option linter.unusedVariables false
theorem part_whole {r : S79} (h : ringB r = true) : (partF r r.f0).1 = r := by
  have q := ringB_iff.1 h
  have e1 : r.f1 * r.f0 / r.f0 = r.f1 := Int.mul_ediv_cancel _ (by omega)
  have e2 : r.f2 * r.f0 / r.f0 = r.f2 := Int.mul_ediv_cancel _ (by omega)
  unfold partF
  rw [e1, e2]
theorem frac_eq {a b c d : Int} (hb : 1 ≤ b) (hd : 1 ≤ d) (h : a * d = c * b) : (a : Rat) / (b : Rat) = (c : Rat) / (d : Rat) :=
  Rat.le_antisymm (frac_le hb hd (by omega)) (frac_le hd hb (by omega))
theorem part_ring {r : S79} {m : Int} (h : ringB r = true) (m1 : 1 ≤ m) (m2 : m ≤ r.f0) (hp : (partF r m).2 = true) :
    ringB (partF r m).1 = true ∧ (partF r m).1.f0 = m ∧ (partF r m).1.f1 * r.f0 = r.f1 * m ∧ (partF r m).1.f2 * r.f0 = r.f2 * m := by
  have q := ringB_iff.1 h
  have hp2 : r.f1 * m % r.f0 = 0 ∧ r.f2 * m % r.f0 = 0 := of_decide_eq_true hp
  have e1 : (r.f1 * m / r.f0) * r.f0 = r.f1 * m := Int.ediv_mul_cancel (Int.dvd_of_emod_eq_zero hp2.1)
  have e2 : (r.f2 * m / r.f0) * r.f0 = r.f2 * m := Int.ediv_mul_cancel (Int.dvd_of_emod_eq_zero hp2.2)
  have p1 := mul_b q.2.2.1 q.2.2.2.1 m1 m2
  have p2 := mul_b q.2.2.2.2.1 q.2.2.2.2.2 m1 m2
  have g1 : 1 ≤ r.f1 * m := by have := Int.mul_le_mul q.2.2.1 m1 (by omega) (by omega); omega
  have g2 : 1 ≤ r.f2 * m := by have := Int.mul_le_mul q.2.2.2.2.1 m1 (by omega) (by omega); omega
  have l1 : r.f1 * m ≤ r.f1 * r.f0 := Int.mul_le_mul_of_nonneg_left m2 (by omega)
  have l2 : r.f2 * m ≤ r.f2 * r.f0 := Int.mul_le_mul_of_nonneg_left m2 (by omega)
  have a1 : r.f1 * m / r.f0 ≤ r.f1 := mul_cancel_le (c := r.f0) q.1 (by rw [Int.mul_comm r.f0 (r.f1 * m / r.f0), e1, Int.mul_comm r.f0 r.f1]; exact l1)
  have a2 : r.f2 * m / r.f0 ≤ r.f2 := mul_cancel_le (c := r.f0) q.1 (by rw [Int.mul_comm r.f0 (r.f2 * m / r.f0), e2, Int.mul_comm r.f0 r.f2]; exact l2)
  have b1 : 1 ≤ r.f1 * m / r.f0 := by
    apply Classical.byContradiction; intro hn
    have : (r.f1 * m / r.f0) * r.f0 ≤ 0 := Int.mul_nonpos_of_nonpos_of_nonneg (by omega) (by omega)
    omega
  have b2 : 1 ≤ r.f2 * m / r.f0 := by
    apply Classical.byContradiction; intro hn
    have : (r.f2 * m / r.f0) * r.f0 ≤ 0 := Int.mul_nonpos_of_nonpos_of_nonneg (by omega) (by omega)
    omega
  refine ⟨ringB_iff.2 ?_, rfl, e1, e2⟩
  show 1 ≤ m ∧ m ≤ 1000 ∧ 1 ≤ r.f1 * m / r.f0 ∧ r.f1 * m / r.f0 ≤ 100000 ∧ 1 ≤ r.f2 * m / r.f0 ∧ r.f2 * m / r.f0 ≤ 20000
  omega
structure CutS (l u : List S79) (lv : Int) : Prop where
  ch : chainB u = true
  h : sm (hsO u) = lv
  m : ∀ x, 0 ≤ x → x ≤ (lv : Rat) → mT u x = mT l x
  c : ∀ x, 0 ≤ x → x ≤ (lv : Rat) → vT u x = vT l x
  hd : ∃ (a : S79) (t : List S79) (q : S79) (w : List S79), l = a :: t ∧ u = q :: w ∧ a.f1 * q.f2 = q.f1 * a.f2 ∧ ringB q = true
theorem cut_says : ∀ {l u : List S79} {lv : Int}, cutGo l lv = some u → 1 ≤ lv → chainB l = true → lv ≤ sm (hsO l) → CutS l u lv
  | [], u, lv, h, h1, hc, hl => by simp [hsO, sm] at hl; omega
  | r :: t, u, lv, h, h1, hc, hl => by
    have hr := chain_head hc
    have q := ringB_iff.1 hr
    simp only [cutGo] at h
    by_cases hp : (partF r (min lv r.f0)).2 = true
    · rw [if_pos hp] at h
      by_cases hx : lv - r.f0 ≤ 0
      · have em : min lv r.f0 = lv := by omega
        rw [if_pos hx, em] at h
        rw [em] at hp
        obtain ⟨p1, p2, p3, p4⟩ := part_ring hr h1 (by omega) hp
        obtain rfl := Option.some.inj h
        generalize (partF r lv).1 = p at p1 p2 p3 p4
        have lvR : (lv : Rat) ≤ (r.f0 : Rat) := castLe (by omega)
        refine ⟨p1, by simp [hsO, sm, p2], fun x x0 x1 => ?_, fun x x0 x1 => ?_, ⟨r, t, p, [], rfl, rfl, ?_, p1⟩⟩
        · show conv [p.f0] [p.f2] x = conv (r.f0 :: hsO t) (r.f2 :: dsO t) x
          rw [conv_low (by rw [p2]; exact x1), conv_low (Rat.le_trans x1 lvR), p2, Rat.div_def, Rat.div_def, Rat.mul_assoc, Rat.mul_assoc]
          have := frac_eq (a := p.f2) (b := lv) (c := r.f2) (d := r.f0) h1 q.1 p4
          rw [Rat.div_def, Rat.div_def] at this
          rw [this]
        · show conv [p.f0] [p.f1] x = conv (r.f0 :: hsO t) (r.f1 :: vsO t) x
          rw [conv_low (by rw [p2]; exact x1), conv_low (Rat.le_trans x1 lvR), p2, Rat.div_def, Rat.div_def, Rat.mul_assoc, Rat.mul_assoc]
          have := frac_eq (a := p.f1) (b := lv) (c := r.f1) (d := r.f0) h1 q.1 p3
          rw [Rat.div_def, Rat.div_def] at this
          rw [this]
        · refine mul_cancel (c := r.f0) q.1 ?_
          have a1 : r.f0 * (r.f1 * p.f2) = r.f1 * (p.f2 * r.f0) := by grind
          have a2 : r.f0 * (p.f1 * r.f2) = r.f2 * (p.f1 * r.f0) := by grind
          rw [a1, a2, p3, p4]; grind
      · have em : min lv r.f0 = r.f0 := by omega
        rw [if_neg hx, em, part_whole hr] at h
        have es : sm (hsO (r :: t)) = r.f0 + sm (hsO t) := by simp [hsO, sm]
        cases hu : cutGo t (lv - r.f0) with
        | none => rw [hu] at h; cases h
        | some u2 =>
          rw [hu] at h
          obtain rfl : r :: u2 = u := Option.some.inj h
          cases t with
          | nil => simp [hsO, sm] at es; simp [hsO, sm] at hl; omega
          | cons a t =>
            obtain ⟨_, k1, k2⟩ := chain_cons.1 hc
            have ih := cut_says hu (by omega) k2 (by omega)
            obtain ⟨a', t', p, w, e1, rfl, e3, e4⟩ := ih.hd
            have ea : a = a' := (List.cons.inj e1).1
            subst ea
            refine ⟨chain_cons.2 ⟨hr, slope_prev e4 (chain_head k2) e3 k1, ih.ch⟩, ?_, fun x x0 x1 => ?_, fun x x0 x1 => ?_, ⟨r, a :: t, r, p :: w, rfl, rfl, rfl, hr⟩⟩
            · have : sm (hsO (r :: p :: w)) = r.f0 + sm (hsO (p :: w)) := by simp [hsO, sm]
              rw [this, ih.h]; omega
            · show conv (r.f0 :: hsO (p :: w)) (r.f2 :: dsO (p :: w)) x = conv (r.f0 :: hsO (a :: t)) (r.f2 :: dsO (a :: t)) x
              by_cases h2 : x ≤ (r.f0 : Rat)
              · rw [conv_low h2, conv_low h2]
              · rw [conv_high h2, conv_high h2]
                have := ih.m (x - (r.f0 : Rat)) (by grind) (by rw [Rat.intCast_sub]; grind)
                unfold mT at this
                rw [this]
            · show conv (r.f0 :: hsO (p :: w)) (r.f1 :: vsO (p :: w)) x = conv (r.f0 :: hsO (a :: t)) (r.f1 :: vsO (a :: t)) x
              by_cases h2 : x ≤ (r.f0 : Rat)
              · rw [conv_low h2, conv_low h2]
              · rw [conv_high h2, conv_high h2]
                have := ih.c (x - (r.f0 : Rat)) (by grind) (by rw [Rat.intCast_sub]; grind)
                unfold vT at this
                rw [this]
    · rw [if_neg hp] at h; cases h
theorem valid_mk {l : List S79} (h0 : 1 ≤ l.length) (h1 : l.length ≤ 24) (hc : chainB l = true) : validB l = true := by unfold validB; rw [decide_eq_true ⟨h0, h1⟩, hc]; rfl
theorem valid_chain {l : List S79} (h : validB l = true) : chainB l = true := by unfold validB at h; rw [Bool.and_eq_true] at h; exact h.2
theorem cut_ok {v : List S79} {lv a : Int} (va : VL v a) : ∃ u e, CutF v lv = (u, e) ∧ (¬ e = 0 ∨ e = 0 ∧ (¬ a ≤ lv ∨ a ≤ lv ∧ validB u = true ∧ Agree u v (a : Rat))) := by
  unfold CutF
  rw [if_pos va.v]
  by_cases h : lv ≠ 0 ∧ lvB v lv = true
  · rw [if_pos h]
    cases hc : cutGo v lv with
    | none => exact ⟨_, _, rfl, .inl (by decide)⟩
    | some u =>
      have hl := lvB_iff.1 h.2
      have s := cut_says hc (by omega) (valid_chain va.v) hl.2
      refine ⟨u, 0, rfl, .inr ⟨rfl, ?_⟩⟩
      by_cases ha : a ≤ lv
      · refine .inr ⟨ha, ?_, ?_⟩
        · obtain ⟨_, _, q, w, _, rfl, _, _⟩ := s.hd
          exact valid_mk (by simp) (Nat.le_trans (cutGo_len hc) (valid_len24 va.v)) s.ch
        · exact ⟨by rw [s.h]; exact castLe ha, fun x x0 x1 => s.m x x0 (Rat.le_trans x1 (castLe ha)), fun x x0 x1 => s.c x x0 (Rat.le_trans x1 (castLe ha))⟩
      · exact .inl ha
  · rw [if_neg h]; exact ⟨_, _, rfl, .inl (by decide)⟩
theorem merged_ok {v : List S79} {a : Int} (va : VL v a) : ∃ u, MergedF v = (u, 0) ∧ MergedF u = (u, 0) ∧ u.length ≤ v.length ∧ validB u = true ∧ Agree u v (a : Rat) := by
  have g := merge_go v [] [] (by simpa using valid_chain va.v) (by simp) ⟨rfl, rfl, rfl, fun _ _ _ => rfl, fun _ _ _ => rfl⟩ trivial
  have e : MergedF v = (MergedL v, 0) := by unfold MergedF; rw [if_pos va.v]
  have hl := merged_len0 v []
  simp only [List.nil_append, List.length_nil, Nat.zero_add] at g hl
  obtain ⟨g1, g2, g3⟩ := g
  have n1 : 1 ≤ (v.foldl mergeS []).length := by
    apply Classical.byContradiction; intro hn
    have e0 : v.foldl mergeS [] = [] := List.length_eq_zero_iff.1 (by omega)
    have z := g2.eh
    rw [e0] at z
    have z2 : sm (hsO v) = 0 := z.symm
    have hv := va.v
    cases v with
    | nil => simp [validB] at hv
    | cons r t =>
      have p := (valid_GV hv).h.pos
      have q : 1 ≤ r.f0 := Pos.head (l := hsO t) p
      have s := Pos.sum (l := hsO t) (Pos.tail (a := r.f0) p)
      have e : sm (hsO (r :: t)) = r.f0 + sm (hsO t) := by simp [hsO, sm]
      omega
  have hv := valid_mk n1 (Nat.le_trans hl (valid_len24 va.v)) g1
  refine ⟨MergedL v, e, ?_, hl, hv, ⟨?_, fun x x0 x1 => ?_, fun x x0 x1 => ?_⟩⟩
  · unfold MergedF
    rw [if_pos (show validB (MergedL v) = true from hv)]
    have := fold_noM (v.foldl mergeS []) [] (by simpa using g3)
    rw [List.nil_append] at this
    show ((MergedL v).foldl mergeS [], 0) = _
    unfold MergedL
    rw [this]
  · show _ ≤ ((sm (hsO (v.foldl mergeS [])) : Int) : Rat); rw [g2.eh]; exact va.c1
  · exact g2.m x x0 (Rat.le_trans x1 va.c1)
  · exact g2.c x x0 (Rat.le_trans x1 va.c1)
theorem stk_ok {v : List S79} {a : Int} (va : VL v a) (w : List S79) : ∃ u e, StackedF v w = (u, e) ∧ (¬ e = 0 ∨ e = 0 ∧ validB u = true ∧ Agree u v (a : Rat)) := by
  unfold StackedF
  rw [if_pos va.v]
  by_cases hw : validB w = true
  · rw [if_pos hw]
    split
    · exact ⟨_, _, rfl, .inl (by decide)⟩
    · split
      · rename_i h; exact ⟨_, _, rfl, .inr ⟨rfl, h, stk_agree va.v hw va.c1⟩⟩
      · exact ⟨_, _, rfl, .inl (by decide)⟩
  · rw [if_neg hw]; exact ⟨_, _, rfl, .inl (by decide)⟩
def AlikeS (u : List S79) (a b m s1 s2 f1 f2 r1 r2 : Int) : Prop := SinkingF u a b = (s1, s2, 0) ∧ AfterF u a m = (f1, f2, 0) ∧ RunF u a m = (r1, r2, 0)
def SameS (v w : List S79) (lv a b m : Int) : Prop :=
  ∃ (s1 s2 f1 f2 r1 r2 : Int) (u cu su : List S79) (ce se : Int), AlikeS v a b m s1 s2 f1 f2 r1 r2 ∧ MergedF v = (u, 0) ∧ MergedF u = (u, 0) ∧ u.length ≤ v.length ∧ u.length ≤ 200 ∧ AlikeS u a b m s1 s2 f1 f2 r1 r2 ∧
    CutF v lv = (cu, ce) ∧ (¬ ce = 0 ∨ ce = 0 ∧ (¬ a ≤ lv ∨ a ≤ lv ∧ AlikeS cu a b m s1 s2 f1 f2 r1 r2)) ∧ StackedF v w = (su, se) ∧ (¬ se = 0 ∨ se = 0 ∧ AlikeS su a b m s1 s2 f1 f2 r1 r2)
theorem same_says {v w : List S79} {lv a b m : Int} (hR : rightB v [m] [a, b] = true) (hba : b ≤ a) : SameS v w lv a b m := by
  obtain ⟨hv, hl, hn, _⟩ := rightP hR
  have va : VL v a := ⟨hv, (hl a (by simp)).1, (hl a (by simp)).2⟩
  have vb : VL v b := ⟨hv, (hl b (by simp)).1, (hl b (by simp)).2⟩
  obtain ⟨m0, m1⟩ := hn m (by simp)
  obtain ⟨s1, s2, s3, e1⟩ : ∃ x y z, SinkingF v a b = (x, y, z) := ⟨_, _, _, rfl⟩
  obtain ⟨f1, f2, f3, e2⟩ : ∃ x y z, AfterF v a m = (x, y, z) := ⟨_, _, _, rfl⟩
  obtain ⟨r1, r2, r3, e3⟩ : ∃ x y z, RunF v a m = (x, y, z) := ⟨_, _, _, rfl⟩
  have z1 : s3 = 0 := by have h := sink_val va vb hba; rw [e1] at h; exact congrArg (fun z => z.2.2) h
  have z2 : f3 = 0 := by have h := after_val va m0 (show m ≤ 16777216 by omega); rw [e2] at h; exact congrArg (fun z => z.2.2) h
  have z3 : r3 = 0 := by have h := run_val va m0 (show m ≤ 16777216 by omega); rw [e3] at h; exact congrArg (fun z => z.2.2) h
  subst z1 z2 z3
  have al : ∀ {u : List S79}, validB u = true → Agree u v (a : Rat) → AlikeS u a b m s1 s2 f1 f2 r1 r2 := fun hu h => by
    obtain ⟨k1, k2, k3⟩ := agree_says hu va vb hba m0 m1 h
    exact ⟨k1.trans e1, k2.trans e2, k3.trans e3⟩
  obtain ⟨u, u1, u2, u3, u4, u5⟩ := merged_ok va
  obtain ⟨cu, ce, c1, c2⟩ := cut_ok (lv := lv) va
  obtain ⟨su, se, t1, t2⟩ := stk_ok va w
  refine ⟨s1, s2, f1, f2, r1, r2, u, cu, su, ce, se, ⟨e1, e2, e3⟩, u1, u2, u3, by have := valid_len24 hv; omega, al u4 u5, c1, ?_, t1, ?_⟩
  · rcases c2 with h | ⟨h, h2 | ⟨h2, h3, h4⟩⟩
    · exact .inl h
    · exact .inr ⟨h, .inl h2⟩
    · exact .inr ⟨h, .inr ⟨h2, al h3 h4⟩⟩
  · rcases t2 with h | ⟨h, h2, h3⟩
    · exact .inl h
    · exact .inr ⟨h, al h2 h3⟩
end Go.Proofs.Ytlhfclpbodfmcaa.Pr
namespace Go.Proofs.Ytlhfclpbodfmcaa.Pr
open Go.RowKit Go.Proofs.YtlhfclpbodfmcaaW.PrintWords Go.Proofs.YtlhfclpbodfmcaaW.PrintLast Go.Proofs.YtlhfclpbodfmcaaW.PrintMore
open Go.Proofs.Ytlhfclpbodfmcaa.Vm
set_option linter.unusedVariables false
set_option linter.unusedSimpArgs false
attribute [local go_sem] fld79_0 fld79_1 fld79_2
set_option maxHeartbeats 1600000 in
set_option maxRecDepth 100000 in
theorem vessel_Merged.calls (A0 : Option Addr) (c0 : Nat) (l0 : List S79) (w : World) (hr0 : Kd.C k79 w A0 l0.length l0) (hc0 : l0.length ≤ c0) :
    Calls Try.prog 64 #[.slice A0 l0.length c0] w fun e w' => ∃ v0_ : Value, e = .returned (.tuple #[v0_, .int .i64 (MergedF l0).2]) ∧ Kd.R k79 79 w' w.heap.size (fun _ => True) v0_ (MergedF l0).1 ∧ Below w.heap.size w w' := by
  have hu79 := Try.underlying79
  have HR0 := Aside0.mk hr0
  have HC0 := Aside0.mk hc0
  clear hr0 hc0
  have HB := Aside0.mk (Below.refl w.heap.size w)
  cases hv : validB l0
  · have HF : Aside0 (MergedF l0 = ([], 20)) := ⟨by unfold MergedF; rw [hv]; rfl⟩
    have C0 : Aside0 (∀ W, Below w.heap.size w W → Calls Try.prog 48 #[.slice A0 l0.length c0] W fun e w' => e = .returned (.int .i64 20) ∧ Below W.heap.size W w') := ⟨fun W hB => vessel_Check.calls 30 A0 c0 l0 20 W (Kd.C_below HR0.out hB) HC0.out (by rw [vCheck]; unfold checkF; rw [hv]; rfl)⟩
    clear hv
    go_enter Try.func64, Try.ntmps64
    go_wp2_with fail
    refine (C0.out _ HB.out).mono ?_
    rintro e w2 ⟨rfl, hb⟩
    replace hb := nb_ HB hb
    replace HB := bs_ HB hb
    clear hb
    go_wp2
    go_ret2
    rw [HF.out]
    exact ⟨_, rfl, Kd.R_nil _ _ _ _ _, HB.out⟩
  · have HF : Aside0 (MergedF l0 = ((l0.take l0.length).foldl mergeS [], 0)) := ⟨by unfold MergedF MergedL; rw [hv, List.take_of_length_le (Nat.le_refl _)]; rfl⟩
    have C0 : Aside0 (∀ W, Below w.heap.size w W → Calls Try.prog 48 #[.slice A0 l0.length c0] W fun e w' => e = .returned (.int .i64 0) ∧ Below W.heap.size W w') := ⟨fun W hB => vessel_Check.calls 30 A0 c0 l0 0 W (Kd.C_below HR0.out hB) HC0.out (by rw [vCheck]; unfold checkF; rw [hv]; rfl)⟩
    have HRING := Aside0.mk (valid_ring hv)
    have HLEN : Aside0 (l0.length ≤ 24) := ⟨by have := (valid_GV hv).h.ln; rw [List.length_map] at this; exact this⟩
    clear hv
    go_enter Try.func64, Try.ntmps64
    go_wp2_with fail
    refine (C0.out _ HB.out).mono ?_
    rintro e w2 ⟨rfl, hb⟩
    replace hb := nb_ HB hb
    replace HB := bs_ HB hb
    clear hb
    have RO : Aside0 (Kd.R k79 79 w2 w.heap.size (fun _ => True) (.slice none 0 0) ([] : List S79)) := ⟨Kd.R_nil _ _ _ _ _⟩
    go_wp2
    go_loopg [5, 18] l0.length (fun kq v5 v18 w' => ∃ (n : Nat) (done : List S79), v18 = .int .i64 (n : Int) ∧ Aside0 (n + kq = l0.length ∧ MInv l0 done n) ∧ Aside0 (Kd.R k79 79 w' w.heap.size (fun _ => True) v5 done) ∧ Aside0 (Below w.heap.size w w'))
    case atStart => exact ⟨0, [], rfl, ⟨by omega, ⟨by simp, by simp, by simp⟩⟩, RO, HB⟩
    case round =>
      clear RO HB
      obtain ⟨n, done, rfl, HI, RO, HB⟩ := hrel
      by_cases hij : n < l0.length
      · have hd : decide ((n : Int) < (l0.length : Int)) = true := decide_eq_true (by omega)
        have hd2 : decide (n < l0.length) = true := decide_eq_true hij
        have HIJ := Aside0.mk hij
        have p1 : (0 : Int) ≤ (n : Int) := by omega
        have q1 : (n : Int) < (l0.length : Int) := by omega
        obtain ⟨ad, e9, x0, x1, x2⟩ := at_T79 HR0.out (n : Int) p1 q1
        cases e9
        simp only [Int.toNat_natCast] at x0 x1 x2
        replace x0 := pw_cell_below HB.out x0
        replace x1 := pw_cell_below HB.out x1
        replace x2 := pw_cell_below HB.out x2
        have HRB := Aside0.mk (HRING.out _ (rd_mem hij))
        have HM1 := Aside0.mk (fun h => MInv.app HI.out.2 hij HRB.out h)
        have HM2 := Aside0.mk (fun k h1 h2 => MInv.put (k := k) HI.out.2 hij h1 h2)
        clear hij
        generalize rd_T79 l0 (n : Int) = rr at *
        obtain ⟨ra, rb, rc⟩ := rr
        simp only at x0 x1 x2
        have HRQ := Aside0.mk (ringB_iff.1 HRB.out)
        have HDL : Aside0 (done.length ≤ 1000) := ⟨by have := HI.out.2.len; have := HI.out.1; have := HLEN.out; omega⟩
        have hn24 : n ≤ 24 := by have := HLEN.out; have := HI.out.1; omega
        by_cases hk0 : done.length = 0
        · obtain ⟨A1, c1, rfl, hc1, k1⟩ := Kd.R_reads RO.out
          have HK0 : Aside0 (mergeS done ⟨ra, rb, rc⟩ = done ++ [⟨ra, rb, rc⟩]) := ⟨mergeS_nil hk0⟩
          have e8 : wrap64 ((done.length : Int) - 1) = -1 := by unfold wrap64; omega
          clear hk0 hc1 k1
          go_wp2_with (first | ((with_reducible refine gate_dst (N := 7) rfl ?_); refine bx_ 7 #[.int .i64 0, .int .i64 0, .int .i64 0] 79 ?_; intro gr hg w5 hbox hb; have NOgr := Aside0.mk (show ∀ k, (.slice A1 done.length c1 : Value).ownBlock = some k → k ≠ gr from fun k hk => by rw [hg]; exact Nat.ne_of_lt (Kd.R_lt RO.out k hk)); have GEgr := ge_ hg HB; replace hb := nb_ HB hb; replace RO := Aside0.mk (Kd.R_below RO.out hb); replace HB := bs_ HB hb; have BKgr := Aside0.mk hbox; obtain ⟨Ogr_0, Ogr_1, Ogr_2⟩ := c3_ BKgr; replace x0 := pw_cell_below hb x0; replace x1 := pw_cell_below hb x1; replace x2 := pw_cell_below hb x2; clear hb hbox hg) | ((with_reducible refine gate_store (t := 79) (p := 7) rfl ?_); have hc_ := cf3_ BKgr; refine st3_ ?_; intro w6 hp_; clear hc_; clear Ogr_0 Ogr_1 Ogr_2; replace RO : Aside0 (Kd.R k79 79 w6 w.heap.size (fun _ => True) (.slice A1 done.length c1) done) := ⟨by rw [← hp_.e]; exact row_other3 NOgr.out RO.out⟩; replace BKgr := pp3_ BKgr hp_; replace HB := pb3_ GEgr HB hp_; clear hp_; obtain ⟨Ogr_0, Ogr_1, Ogr_2⟩ := c3_ BKgr; clear x0 x1 x2) | ((with_reducible refine gate_dst (N := 81) rfl ?_); refine litv_list ?hg (N := 81) ?hd (cs := #[.int .i64 ra, .int .i64 rb, .int .i64 rc]) (E := 79) ?hr ?_; (case hd => rfl); (case hg => rfl); (case hr => first | (go_simp; done) | (go_simp; rfl)); intro ga hg wl hbox hb; replace hb := nb_ HB hb; replace RO := Aside0.mk (Kd.R_below RO.out hb); replace HB := bs_ HB hb; clear Ogr_0 Ogr_1 Ogr_2 BKgr; have BKga := Aside0.mk hbox; clear hb hbox hg) | ((with_reducible refine gate_dst (N := 82) rfl ?_); refine app79_list (w := w) ?hg (.tmp 79) (.tmp 81) 23 79 ?ho Try.underlying23 info79 (.slice A1 done.length c1) done ⟨ra, rb, rc⟩ ga ?hs ?hx RO.out BKga.out HB.out HDL.out ?_; (case hg => rfl); (case ho => rfl); (case hs => rfl); (case hx => rfl); intro u9_ wa ho hb hg hat; have n1_ := Aside0.mk hb; have n2_ := Aside0.mk ho; clear HB RO BKga; have HB := n1_; have RO := n2_; clear n1_ n2_ ho hb hg hat))
          go_roundg (gk - 1)
          case measure => have := HI.out.1; have := HIJ.out; omega
          case rel => exact ⟨n + 1, done ++ [⟨ra, rb, rc⟩], by go_num, ⟨by have := HI.out.1; have := HIJ.out; omega, HM1.out HK0.out⟩, RO, HB⟩
        · obtain ⟨K, hK⟩ : ∃ K, done.length = K + 1 := ⟨done.length - 1, by omega⟩
          clear hk0
          obtain ⟨go, c1, rfl, _, _, _⟩ := Kd.R_form RO.out (by omega)
          have e8 : wrap64 ((done.length : Int) - 1) = (K : Int) := by have := HI.out.2.len; rw [wrp_ (by omega) (by omega)]; omega
          have HP : Aside0 ((0 : Int) ≤ (K : Int) ∧ (K : Int) < (done.length : Int)) := ⟨by omega, by omega⟩
          have hp0 : (0 : Int) ≤ (K : Int) := HP.out.1
          have hp1 : (K : Int) < (done.length : Int) := HP.out.2
          have hp2 : K < done.length := by omega
          have HBR := Aside0.mk (HI.out.2.ring _ (rd_mem hp2))
          have HK := Aside0.mk hK
          clear hK
          have HN1 := Aside0.mk (fun h => mergeS_no (r := ⟨ra, rb, rc⟩) HK.out h)
          have HM3 := Aside0.mk (fun h => HM2.out K HK.out h)
          clear HM2
          obtain ⟨bq, hbq⟩ : ∃ b, rd_T79 done (K : Int) = b := ⟨_, rfl⟩
          have HBQ := Aside0.mk hbq
          rw [hbq] at HBR HN1 HM3
          clear hbq
          obtain ⟨ba, bb, bc⟩ := bq
          have HBO := Aside0.mk (ringB_iff.1 HBR.out)
          have hE : (wrap64 (bb * ra) = bb * ra ∧ wrap64 (rb * ba) = rb * ba ∧ wrap64 (bc * ra) = bc * ra ∧ wrap64 (rc * ba) = rc * ba) ∧ wrap64 (ba + ra) = ba + ra ∧ wrap64 (bb + rb) = bb + rb ∧ wrap64 (bc + rc) = bc + rc := by
            have q := HBO.out
            have r := HRQ.out
            simp only at q r
            have m1 := mul_b q.2.2.1 q.2.2.2.1 r.1 r.2.1
            have m2 := mul_b r.2.2.1 r.2.2.2.1 q.1 q.2.1
            have m3 := mul_b q.2.2.2.2.1 q.2.2.2.2.2 r.1 r.2.1
            have m4 := mul_b r.2.2.2.2.1 r.2.2.2.2.2 q.1 q.2.1
            exact ⟨⟨wrp_ (by omega) (by omega), wrp_ (by omega) (by omega), wrp_ (by omega) (by omega), wrp_ (by omega) (by omega)⟩, wrp_ (by omega) (by omega), wrp_ (by omega) (by omega), wrp_ (by omega) (by omega)⟩
          obtain ⟨⟨e1, e2, e3, e4⟩, e5, e6, e7⟩ := hE
          go_upto_region 12 with (first | ((with_reducible refine gate_dst (N := 7) rfl ?_); refine bx_ 7 #[.int .i64 0, .int .i64 0, .int .i64 0] 79 ?_; intro gr hg w5 hbox hb; have NOgr := Aside0.mk (show ∀ k, (.slice (some ⟨go, 0, none⟩) done.length c1 : Value).ownBlock = some k → k ≠ gr from fun k hk => by rw [hg]; exact Nat.ne_of_lt (Kd.R_lt RO.out k hk)); have GEgr := ge_ hg HB; replace hb := nb_ HB hb; replace RO := Aside0.mk (Kd.R_below RO.out hb); replace HB := bs_ HB hb; have BKgr := Aside0.mk hbox; obtain ⟨Ogr_0, Ogr_1, Ogr_2⟩ := c3_ BKgr; replace x0 := pw_cell_below hb x0; replace x1 := pw_cell_below hb x1; replace x2 := pw_cell_below hb x2; clear hb hbox hg) | ((with_reducible refine gate_store (t := 79) (p := 7) rfl ?_); have hc_ := cf3_ BKgr; refine st3_ ?_; intro w6 hp_; clear hc_; clear Ogr_0 Ogr_1 Ogr_2; replace RO : Aside0 (Kd.R k79 79 w6 w.heap.size (fun _ => True) (.slice (some ⟨go, 0, none⟩) done.length c1) done) := ⟨by rw [← hp_.e]; exact row_other3 NOgr.out RO.out⟩; replace BKgr := pp3_ BKgr hp_; replace HB := pb3_ GEgr HB hp_; clear hp_; obtain ⟨Ogr_0, Ogr_1, Ogr_2⟩ := c3_ BKgr; clear x0 x1 x2; obtain ⟨_, e9, y0, y1, y2⟩ := at_T79 (Kd.R_reads' RO.out).2.2 (K : Int) HP.out.1 HP.out.2; cases e9; simp only [Int.toNat_natCast] at y0 y1 y2; rw [HBQ.out] at y0 y1 y2; have z0 := y0; have z1 := y1; have z2 := y2; simp only [add_plain] at z0 z1 z2) | ((with_reducible refine gate_dst (N := 9) rfl ?_); refine bx_ 9 #[.int .i64 0, .int .i64 0, .int .i64 0] 79 ?_; intro gb hg w7 hbox hb; have NOgb := Aside0.mk (show ∀ k, (.slice (some ⟨go, 0, none⟩) done.length c1 : Value).ownBlock = some k → k ≠ gb from fun k hk => by rw [hg]; exact Nat.ne_of_lt (Kd.R_lt RO.out k hk)); have GEgb := ge_ hg HB; have NEgr_gb := ne_ hg BKgr; replace hb := nb_ HB hb; replace BKgr := kb_ BKgr hb; replace RO := Aside0.mk (Kd.R_below RO.out hb); replace HB := bs_ HB hb; have BKgb := Aside0.mk hbox; clear Ogr_0 Ogr_1 Ogr_2; obtain ⟨Ogr_0, Ogr_1, Ogr_2⟩ := c3_ BKgr; obtain ⟨Ogb_0, Ogb_1, Ogb_2⟩ := c3_ BKgb; replace y0 := pw_cell_below hb y0; replace y1 := pw_cell_below hb y1; replace y2 := pw_cell_below hb y2; replace z0 := pw_cell_below hb z0; replace z1 := pw_cell_below hb z1; replace z2 := pw_cell_below hb z2; clear hb hbox hg) | ((with_reducible refine gate_store (t := 79) (p := 9) rfl ?_); have hc_ := cf3_ BKgb; refine st3_ ?_; intro w8 hp_; clear hc_; clear Ogr_0 Ogr_1 Ogr_2; clear Ogb_0 Ogb_1 Ogb_2; replace RO : Aside0 (Kd.R k79 79 w8 w.heap.size (fun _ => True) (.slice (some ⟨go, 0, none⟩) done.length c1) done) := ⟨by rw [← hp_.e]; exact row_other3 NOgb.out RO.out⟩; replace BKgr := pf3_ NEgr_gb BKgr hp_; replace BKgb := pp3_ BKgb hp_; replace HB := pb3_ GEgb HB hp_; clear hp_; obtain ⟨Ogr_0, Ogr_1, Ogr_2⟩ := c3_ BKgr; obtain ⟨Ogb_0, Ogb_1, Ogb_2⟩ := c3_ BKgb; clear y0 y1 y2 z0 z1 z2) | ((with_reducible refine gate_dst (N := 10) rfl ?_); refine bx_ 10 #[.int .i64 0, .int .i64 0, .int .i64 0] 79 ?_; intro gs hg w9 hbox hb; have NOgs := Aside0.mk (show ∀ k, (.slice (some ⟨go, 0, none⟩) done.length c1 : Value).ownBlock = some k → k ≠ gs from fun k hk => by rw [hg]; exact Nat.ne_of_lt (Kd.R_lt RO.out k hk)); have GEgs := ge_ hg HB; have NEgr_gs := ne_ hg BKgr; have NEgb_gs := ne_ hg BKgb; replace hb := nb_ HB hb; replace BKgr := kb_ BKgr hb; replace BKgb := kb_ BKgb hb; replace RO := Aside0.mk (Kd.R_below RO.out hb); replace HB := bs_ HB hb; have BKgs := Aside0.mk hbox; clear Ogr_0 Ogr_1 Ogr_2; clear Ogb_0 Ogb_1 Ogb_2; obtain ⟨Ogr_0, Ogr_1, Ogr_2⟩ := c3_ BKgr; obtain ⟨Ogb_0, Ogb_1, Ogb_2⟩ := c3_ BKgb; obtain ⟨Ogs_0, Ogs_1, Ogs_2⟩ := c3_ BKgs; clear hb hbox hg) | ((with_reducible refine gate_store (t := 79) (p := 10) rfl ?_); have hc_ := cf3_ BKgs; refine st3_ ?_; intro w10 hp_; clear hc_; clear Ogr_0 Ogr_1 Ogr_2; clear Ogb_0 Ogb_1 Ogb_2; clear Ogs_0 Ogs_1 Ogs_2; replace RO : Aside0 (Kd.R k79 79 w10 w.heap.size (fun _ => True) (.slice (some ⟨go, 0, none⟩) done.length c1) done) := ⟨by rw [← hp_.e]; exact row_other3 NOgs.out RO.out⟩; replace BKgr := pf3_ NEgr_gs BKgr hp_; replace BKgb := pf3_ NEgb_gs BKgb hp_; replace BKgs := pp3_ BKgs hp_; replace HB := pb3_ GEgs HB hp_; clear hp_; obtain ⟨Ogr_0, Ogr_1, Ogr_2⟩ := c3_ BKgr; obtain ⟨Ogb_0, Ogb_1, Ogb_2⟩ := c3_ BKgb; obtain ⟨Ogs_0, Ogs_1, Ogs_2⟩ := c3_ BKgs))
          clear e5 e6 e7
          by_cases m1 : bb * ra = rb * ba
          · by_cases m2 : bc * ra = rc * ba
            · have q1 : (bb * ra == rb * ba) = true := beq_iff_eq.2 m1
              have q2 : (bc * ra == rc * ba) = true := beq_iff_eq.2 m2
              cases hr : ringB (sumS ⟨ba, bb, bc⟩ ⟨ra, rb, rc⟩)
              · have HN2 : Aside0 (mergeS done ⟨ra, rb, rc⟩ = done ++ [⟨ra, rb, rc⟩]) := ⟨HN1.out (by unfold mrgB; simp [hr])⟩
                have C1 : Aside0 (∀ W, Calls Try.prog 117 #[.agg #[.int .i64 (ba + ra), .int .i64 (bb + rb), .int .i64 (bc + rc)]] W fun e w' => e = .returned (.bool false) ∧ Below W.heap.size W w') := ⟨fun W => vessel_isRing.calls (ba + ra) (bb + rb) (bc + rc) false W ((isRing_eq (sumS ⟨ba, bb, bc⟩ ⟨ra, rb, rc⟩)).trans (congrArg some hr))⟩
                clear hr
                go_wp2_with fail
                refine (C1.out _).mono ?_
                rintro e wq ⟨rfl, hb⟩
                replace hb := nb_ HB hb
                replace BKgr := kb_ BKgr hb
                replace BKgb := kb_ BKgb hb
                replace BKgs := kb_ BKgs hb
                replace RO := Aside0.mk (Kd.R_below RO.out hb)
                replace HB := bs_ HB hb
                clear hb
                clear Ogr_0 Ogr_1 Ogr_2
                clear Ogb_0 Ogb_1 Ogb_2
                clear Ogs_0 Ogs_1 Ogs_2
                obtain ⟨Ogr_0, Ogr_1, Ogr_2⟩ := c3_ BKgr
                obtain ⟨Ogb_0, Ogb_1, Ogb_2⟩ := c3_ BKgb
                obtain ⟨Ogs_0, Ogs_1, Ogs_2⟩ := c3_ BKgs
                go_wp2_with (first | ((with_reducible refine gate_dst (N := 81) rfl ?_); refine litv_list ?hg (N := 81) ?hd (cs := #[.int .i64 ra, .int .i64 rb, .int .i64 rc]) (E := 79) ?hr ?_; (case hd => rfl); (case hg => rfl); (case hr => first | (go_simp; done) | (go_simp; rfl)); intro ga hg wl hbox hb; replace hb := nb_ HB hb; replace RO := Aside0.mk (Kd.R_below RO.out hb); replace HB := bs_ HB hb; clear Ogr_0 Ogr_1 Ogr_2 BKgr; clear Ogb_0 Ogb_1 Ogb_2 BKgb; clear Ogs_0 Ogs_1 Ogs_2 BKgs; have BKga := Aside0.mk hbox; clear hb hbox hg) | ((with_reducible refine gate_dst (N := 82) rfl ?_); refine app79_list (w := w) ?hg (.tmp 79) (.tmp 81) 23 79 ?ho Try.underlying23 info79 (.slice (some ⟨go, 0, none⟩) done.length c1) done ⟨ra, rb, rc⟩ ga ?hs ?hx RO.out BKga.out HB.out HDL.out ?_; (case hg => rfl); (case ho => rfl); (case hs => rfl); (case hx => rfl); intro u9_ wa ho hb hg hat; have n1_ := Aside0.mk hb; have n2_ := Aside0.mk ho; clear HB RO BKga; have HB := n1_; have RO := n2_; clear n1_ n2_ ho hb hg hat))
                go_roundg (gk - 1)
                case measure => have := HI.out.1; have := HIJ.out; omega
                case rel => exact ⟨n + 1, done ++ [⟨ra, rb, rc⟩], by go_num, ⟨by have := HI.out.1; have := HIJ.out; omega, HM1.out HN2.out⟩, RO, HB⟩
              · have HMM := Aside0.mk (HM3.out (by unfold mrgB; simp [m1, m2, hr]))
                have C1 : Aside0 (∀ W, Calls Try.prog 117 #[.agg #[.int .i64 (ba + ra), .int .i64 (bb + rb), .int .i64 (bc + rc)]] W fun e w' => e = .returned (.bool true) ∧ Below W.heap.size W w') := ⟨fun W => vessel_isRing.calls (ba + ra) (bb + rb) (bc + rc) true W ((isRing_eq (sumS ⟨ba, bb, bc⟩ ⟨ra, rb, rc⟩)).trans (congrArg some hr))⟩
                clear hr
                go_wp2_with fail
                refine (C1.out _).mono ?_
                rintro e wq ⟨rfl, hb⟩
                replace hb := nb_ HB hb
                replace BKgr := kb_ BKgr hb
                replace BKgb := kb_ BKgb hb
                replace BKgs := kb_ BKgs hb
                replace RO := Aside0.mk (Kd.R_below RO.out hb)
                replace HB := bs_ HB hb
                clear hb
                clear Ogr_0 Ogr_1 Ogr_2
                clear Ogb_0 Ogb_1 Ogb_2
                clear Ogs_0 Ogs_1 Ogs_2
                obtain ⟨Ogr_0, Ogr_1, Ogr_2⟩ := c3_ BKgr
                obtain ⟨Ogb_0, Ogb_1, Ogb_2⟩ := c3_ BKgb
                obtain ⟨Ogs_0, Ogs_1, Ogs_2⟩ := c3_ BKgs
                go_wp2_with (first | ((with_reducible refine gate_store (t := 79) (p := 78) rfl ?_); obtain ⟨ce, hcl, hM0, hcc, _⟩ := Kd.R_elem RO.out z79 (K : Int) HP.out.1 HP.out.2; obtain rfl := k79_openM hM0; refine Kd.R_store (α := S79) (g := go) (n := done.length) (cap := c1) (o' := K * 3) k79 (w0 := w) w.heap.size ?hN ?hgd 79 (Operand.tmp 78) (Operand.tmp 77) ?ho 79 (K : Int) 0 done (⟨ba + ra, bb + rb, bc + rc⟩ : S79) (Value.agg #[.int .i64 (ba + ra), .int .i64 (bb + rb), .int .i64 (bc + rc)]) [.int .i64 (ba + ra), .int .i64 (bb + rb), .int .i64 (bc + rc)] _ (fun _ => True) (fun _ => False) ?haddr ?hoff ?hx ?hu ?ht ?h1 RO.out HP.out.1 HP.out.2 hcl hcc ?hj ?hM (fun _ hk => False.elim hk) HB.out ?_; (case hM => exact k79_mkM _ _ _ (⟨ba + ra, bb + rb, bc + rc⟩ : S79)); (case hN => rfl); (case hgd => rfl); (case ho => rfl); (case haddr => rfl); (case hx => rfl); (case hu => rfl); (case ht => rfl); (case hj => exact Nat.le_refl _); (case h1 => (simp [Value.oneCell']; done)); (case hoff => first | rfl | (show _ = (K : Int).toNat * 3 + 0; simp; done) | (simp; done) | (simp; rfl)); intro ws ho hb hg; simp only [Int.toNat_natCast] at ho; clear Ogr_0 Ogr_1 Ogr_2 BKgr; clear Ogb_0 Ogb_1 Ogb_2 BKgb; clear Ogs_0 Ogs_1 Ogs_2 BKgs; clear RO HB hcl hM0 hcc hg; have RO := Aside0.mk ho; have HB := Aside0.mk hb; clear ho hb))
                go_roundg (gk - 1)
                case measure => have := HI.out.1; have := HIJ.out; omega
                case rel => exact ⟨n + 1, done.set K ⟨ba + ra, bb + rb, bc + rc⟩, by go_num, ⟨by have := HI.out.1; have := HIJ.out; omega, HMM.out⟩, RO, HB⟩
            · have q1 : (bb * ra == rb * ba) = true := beq_iff_eq.2 m1
              have q2 : (bc * ra == rc * ba) = false := beq_eq_false_iff_ne.2 m2
              have HN2 : Aside0 (mergeS done ⟨ra, rb, rc⟩ = done ++ [⟨ra, rb, rc⟩]) := ⟨HN1.out (by unfold mrgB; simp [m1, m2])⟩
              clear m1 m2
              go_wp2_with (first | ((with_reducible refine gate_dst (N := 81) rfl ?_); refine litv_list ?hg (N := 81) ?hd (cs := #[.int .i64 ra, .int .i64 rb, .int .i64 rc]) (E := 79) ?hr ?_; (case hd => rfl); (case hg => rfl); (case hr => first | (go_simp; done) | (go_simp; rfl)); intro ga hg wl hbox hb; replace hb := nb_ HB hb; replace RO := Aside0.mk (Kd.R_below RO.out hb); replace HB := bs_ HB hb; clear Ogr_0 Ogr_1 Ogr_2 BKgr; clear Ogb_0 Ogb_1 Ogb_2 BKgb; clear Ogs_0 Ogs_1 Ogs_2 BKgs; have BKga := Aside0.mk hbox; clear hb hbox hg) | ((with_reducible refine gate_dst (N := 82) rfl ?_); refine app79_list (w := w) ?hg (.tmp 79) (.tmp 81) 23 79 ?ho Try.underlying23 info79 (.slice (some ⟨go, 0, none⟩) done.length c1) done ⟨ra, rb, rc⟩ ga ?hs ?hx RO.out BKga.out HB.out HDL.out ?_; (case hg => rfl); (case ho => rfl); (case hs => rfl); (case hx => rfl); intro u9_ wa ho hb hg hat; have n1_ := Aside0.mk hb; have n2_ := Aside0.mk ho; clear HB RO BKga; have HB := n1_; have RO := n2_; clear n1_ n2_ ho hb hg hat))
              go_roundg (gk - 1)
              case measure => have := HI.out.1; have := HIJ.out; omega
              case rel => exact ⟨n + 1, done ++ [⟨ra, rb, rc⟩], by go_num, ⟨by have := HI.out.1; have := HIJ.out; omega, HM1.out HN2.out⟩, RO, HB⟩
          · have q1 : (bb * ra == rb * ba) = false := beq_eq_false_iff_ne.2 m1
            have HN2 : Aside0 (mergeS done ⟨ra, rb, rc⟩ = done ++ [⟨ra, rb, rc⟩]) := ⟨HN1.out (by unfold mrgB; simp [m1])⟩
            clear m1
            go_wp2_with (first | ((with_reducible refine gate_dst (N := 81) rfl ?_); refine litv_list ?hg (N := 81) ?hd (cs := #[.int .i64 ra, .int .i64 rb, .int .i64 rc]) (E := 79) ?hr ?_; (case hd => rfl); (case hg => rfl); (case hr => first | (go_simp; done) | (go_simp; rfl)); intro ga hg wl hbox hb; replace hb := nb_ HB hb; replace RO := Aside0.mk (Kd.R_below RO.out hb); replace HB := bs_ HB hb; clear Ogr_0 Ogr_1 Ogr_2 BKgr; clear Ogb_0 Ogb_1 Ogb_2 BKgb; clear Ogs_0 Ogs_1 Ogs_2 BKgs; have BKga := Aside0.mk hbox; clear hb hbox hg) | ((with_reducible refine gate_dst (N := 82) rfl ?_); refine app79_list (w := w) ?hg (.tmp 79) (.tmp 81) 23 79 ?ho Try.underlying23 info79 (.slice (some ⟨go, 0, none⟩) done.length c1) done ⟨ra, rb, rc⟩ ga ?hs ?hx RO.out BKga.out HB.out HDL.out ?_; (case hg => rfl); (case ho => rfl); (case hs => rfl); (case hx => rfl); intro u9_ wa ho hb hg hat; have n1_ := Aside0.mk hb; have n2_ := Aside0.mk ho; clear HB RO BKga; have HB := n1_; have RO := n2_; clear n1_ n2_ ho hb hg hat))
            go_roundg (gk - 1)
            case measure => have := HI.out.1; have := HIJ.out; omega
            case rel => exact ⟨n + 1, done ++ [⟨ra, rb, rc⟩], by go_num, ⟨by have := HI.out.1; have := HIJ.out; omega, HM1.out HN2.out⟩, RO, HB⟩
      · have hd : decide ((n : Int) < (l0.length : Int)) = false := decide_eq_false (by omega)
        have hd2 : decide (n < l0.length) = false := decide_eq_false hij
        have HF2 : Aside0 (MergedF l0 = (done, 0)) := ⟨by have h := HI.out; have e : l0.length = n := (by omega); rw [HF.out, e, h.2.eq]⟩
        clear hij
        go_wp2
        go_ret2
        rw [HF2.out]
        exact ⟨_, rfl, RO.out, HB.out⟩
end Go.Proofs.Ytlhfclpbodfmcaa.Pr
namespace Go.Proofs.Ytlhfclpbodfmcaa.Pr
open Go.RowKit Go.Proofs.YtlhfclpbodfmcaaW.PrintWords Go.Proofs.YtlhfclpbodfmcaaW.PrintLast Go.Proofs.YtlhfclpbodfmcaaW.PrintMore
open Go.Proofs.Ytlhfclpbodfmcaa.Vm
set_option linter.unusedVariables false
set_option linter.unusedSimpArgs false
attribute [local go_sem] fld79_0 fld79_1 fld79_2
set_option maxHeartbeats 1600000 in
set_option maxRecDepth 100000 in
theorem vessel_Stacked.calls (A0 : Option Addr) (c0 : Nat) (l0 : List S79) (A1 : Option Addr) (c1 : Nat) (l1 : List S79) (w : World) (hr0 : Kd.C k79 w A0 l0.length l0) (hc0 : l0.length ≤ c0) (hr1 : Kd.C k79 w A1 l1.length l1) (hc1 : l1.length ≤ c1) :
    Calls Try.prog 60 #[.slice A0 l0.length c0, .slice A1 l1.length c1] w fun e w' => ∃ v0_ : Value, e = .returned (.tuple #[v0_, .int .i64 (StackedF l0 l1).2]) ∧ Kd.R k79 79 w' w.heap.size (fun _ => True) v0_ (StackedF l0 l1).1 ∧ Below w.heap.size w w' := by
  have hu79 := Try.underlying79
  have HR0 := Aside0.mk hr0
  have HC0 := Aside0.mk hc0
  have HR1 := Aside0.mk hr1
  have HC1 := Aside0.mk hc1
  clear hr0 hc0 hr1 hc1
  have HB := Aside0.mk (Below.refl w.heap.size w)
  by_cases hv : validB l0 = true
  · by_cases hu : validB l1 = true
    · obtain ⟨ll, hll⟩ : ∃ x, l0 ++ l1 = x := ⟨_, rfl⟩
      have HFF : Aside0 (StackedF l0 l1 = if 24 < ll.length then ([], 2) else if validB ll then (ll, 0) else ([], 1)) := ⟨by unfold StackedF; rw [if_pos hv, if_pos hu, hll]⟩
      have HLL := Aside0.mk hll
      clear hll
      have HK : Aside0 (vessel_checked.f 40 [l0, l1] = some 0) := ⟨checked_good hv hu⟩
      have HLN : Aside0 (l0.length ≤ 24 ∧ l1.length ≤ 24) := ⟨by have h0 := (valid_GV hv).h.ln; have h1 := (valid_GV hu).h.ln; rw [List.length_map] at h0 h1; exact ⟨h0, h1⟩⟩
      clear hv hu
      go_enter Try.func60, Try.ntmps60
      go_wp2_with fail
      refine (vessel_checked.calls 40 _ 2 [l0, l1] 0 _ (pair_row (Kd.C_below (kc_ HR0 HB) (ba_ _ _)) HC0.out (Kd.C_below (kc_ HR1 HB) (ba_ _ _)) HC1.out (blk_new _ _)) (by simp) HK.out).mono ?_
      rintro e w1 ⟨rfl, hb⟩
      replace hb := below_step (ba_ _ _) hb
      replace HB := bs_ HB hb
      clear hb
      by_cases hb : 24 < ll.length
      · have HF : Aside0 (StackedF l0 l1 = ([], 2)) := ⟨by rw [HFF.out, if_pos hb]⟩
        have d1 : decide ((24 : Int) < (ll.length : Int)) = true := decide_eq_true (by omega)
        have d2 : decide (24 < ll.length) = true := decide_eq_true hb
        clear hb
        go_wp2_with (first | ((with_reducible refine gate_dst (N := 15) rfl ?_); refine Kd.R_lit k79 (w0 := w) w.heap.size 79 ?hg (N := 15) ?hd (xs := ([] : List S79)) (inner := []) (ok := fun _ => True) (okp := fun _ => True) ?hr ?hp (fun _ hk => hk) trivial HB.out HB.out.size (by simp) ?_; (case hd => rfl); (case hg => rfl); (case hr => first | (go_simp; done) | (go_simp; rfl)); (case hp => exact (Reps.none _ _)); intro v1_ wl ho hb hg hat; have RO := Aside0.mk ho; have h_ := Aside0.mk hb; clear HB ho hb hg hat; have HB := h_; clear h_) | ((with_reducible refine gate_dst (N := 17) rfl ?_); refine Kd.R_append_rows (α := S79) k79 (Rr := k79.K _) (w0 := w) w.heap.size ?hg (Operand.tmp 15) (Operand.tmp 16) 23 79 (.agg #[.int .i64 0, .int .i64 0, .int .i64 0]) 24 ?ho Try.underlying23 info79 (by rfl) (by decide) (by decide) (v1_) ([] : List S79) l0 A0 l0.length c0 (fun _ => True) (fun _ => False) ?hs ?hx RO.out (kc_ HR0 HB) ?hKM (fun _ hk => False.elim hk) (fun _ _ => trivial) HB.out HB.out.size ?hl ?_; (case hg => rfl); (case ho => rfl); (case hs => rfl); (case hx => rfl); (case hKM => intro x cs h; obtain rfl := k79_open h; exact k79_mkM _ _ _ _); (case hl => have := HLN.out; first | omega | (simp; omega)); intro v2_ wa0 ho hb hg hat; simp only [List.nil_append] at ho; have h_ := Aside0.mk hb; clear RO HB hb hg hat; have HB := h_; clear h_; have RO := Aside0.mk ho; clear ho) | ((with_reducible refine gate_dst (N := 19) rfl ?_); refine Kd.R_append_rows (α := S79) k79 (Rr := k79.K _) (w0 := w) w.heap.size ?hg (Operand.tmp 17) (Operand.tmp 18) 23 79 (.agg #[.int .i64 0, .int .i64 0, .int .i64 0]) 24 ?ho Try.underlying23 info79 (by rfl) (by decide) (by decide) (v2_) l0 l1 A1 l1.length c1 (fun _ => True) (fun _ => False) ?hs ?hx RO.out (kc_ HR1 HB) ?hKM (fun _ hk => False.elim hk) (fun _ _ => trivial) HB.out HB.out.size ?hl ?_; (case hg => rfl); (case ho => rfl); (case hs => rfl); (case hx => rfl); (case hKM => intro x cs h; obtain rfl := k79_open h; exact k79_mkM _ _ _ _); (case hl => have := HLN.out; first | omega | (simp; omega)); intro v3_ wa1 ho hb hg hat; rw [HLL.out] at ho; have h_ := Aside0.mk hb; clear RO HB hb hg hat; have HB := h_; clear h_; obtain ⟨A3, c3, rfl, hc3, k3⟩ := Kd.R_reads ho; have RO := Aside0.mk ho; have C3 := Aside0.mk hc3; have K3 := Aside0.mk k3; clear ho hc3 k3))
        go_ret2
        rw [HF.out]
        exact ⟨_, rfl, Kd.R_nil _ _ _ _ _, HB.out⟩
      · cases hw : validB ll
        · have HV := Aside0.mk hw
          have HF : Aside0 (StackedF l0 l1 = ([], 1)) := ⟨by rw [HFF.out, if_neg hb, hw]; rfl⟩
          have d1 : decide ((24 : Int) < (ll.length : Int)) = false := decide_eq_false (by omega)
          have d2 : decide (24 < ll.length) = false := decide_eq_false hb
          clear hb hw
          go_wp2_with (first | ((with_reducible refine gate_dst (N := 15) rfl ?_); refine Kd.R_lit k79 (w0 := w) w.heap.size 79 ?hg (N := 15) ?hd (xs := ([] : List S79)) (inner := []) (ok := fun _ => True) (okp := fun _ => True) ?hr ?hp (fun _ hk => hk) trivial HB.out HB.out.size (by simp) ?_; (case hd => rfl); (case hg => rfl); (case hr => first | (go_simp; done) | (go_simp; rfl)); (case hp => exact (Reps.none _ _)); intro v1_ wl ho hb hg hat; have RO := Aside0.mk ho; have h_ := Aside0.mk hb; clear HB ho hb hg hat; have HB := h_; clear h_) | ((with_reducible refine gate_dst (N := 17) rfl ?_); refine Kd.R_append_rows (α := S79) k79 (Rr := k79.K _) (w0 := w) w.heap.size ?hg (Operand.tmp 15) (Operand.tmp 16) 23 79 (.agg #[.int .i64 0, .int .i64 0, .int .i64 0]) 24 ?ho Try.underlying23 info79 (by rfl) (by decide) (by decide) (v1_) ([] : List S79) l0 A0 l0.length c0 (fun _ => True) (fun _ => False) ?hs ?hx RO.out (kc_ HR0 HB) ?hKM (fun _ hk => False.elim hk) (fun _ _ => trivial) HB.out HB.out.size ?hl ?_; (case hg => rfl); (case ho => rfl); (case hs => rfl); (case hx => rfl); (case hKM => intro x cs h; obtain rfl := k79_open h; exact k79_mkM _ _ _ _); (case hl => have := HLN.out; first | omega | (simp; omega)); intro v2_ wa0 ho hb hg hat; simp only [List.nil_append] at ho; have h_ := Aside0.mk hb; clear RO HB hb hg hat; have HB := h_; clear h_; have RO := Aside0.mk ho; clear ho) | ((with_reducible refine gate_dst (N := 19) rfl ?_); refine Kd.R_append_rows (α := S79) k79 (Rr := k79.K _) (w0 := w) w.heap.size ?hg (Operand.tmp 17) (Operand.tmp 18) 23 79 (.agg #[.int .i64 0, .int .i64 0, .int .i64 0]) 24 ?ho Try.underlying23 info79 (by rfl) (by decide) (by decide) (v2_) l0 l1 A1 l1.length c1 (fun _ => True) (fun _ => False) ?hs ?hx RO.out (kc_ HR1 HB) ?hKM (fun _ hk => False.elim hk) (fun _ _ => trivial) HB.out HB.out.size ?hl ?_; (case hg => rfl); (case ho => rfl); (case hs => rfl); (case hx => rfl); (case hKM => intro x cs h; obtain rfl := k79_open h; exact k79_mkM _ _ _ _); (case hl => have := HLN.out; first | omega | (simp; omega)); intro v3_ wa1 ho hb hg hat; rw [HLL.out] at ho; have h_ := Aside0.mk hb; clear RO HB hb hg hat; have HB := h_; clear h_; obtain ⟨A3, c3, rfl, hc3, k3⟩ := Kd.R_reads ho; have RO := Aside0.mk ho; have C3 := Aside0.mk hc3; have K3 := Aside0.mk k3; clear ho hc3 k3))
          refine (vessel_Check.calls 30 A3 c3 ll 20 _ K3.out C3.out (by rw [vCheck]; unfold checkF; rw [HV.out]; rfl)).mono ?_
          rintro e wz ⟨rfl, hb⟩
          replace RO := Aside0.mk (Kd.R_below RO.out hb)
          replace HB := bs_ HB hb
          clear hb
          go_wp2
          go_ret2
          rw [HF.out]
          exact ⟨_, rfl, Kd.R_nil _ _ _ _ _, HB.out⟩
        · have HV := Aside0.mk hw
          have HF : Aside0 (StackedF l0 l1 = (ll, 0)) := ⟨by rw [HFF.out, if_neg hb, hw]; rfl⟩
          have d1 : decide ((24 : Int) < (ll.length : Int)) = false := decide_eq_false (by omega)
          have d2 : decide (24 < ll.length) = false := decide_eq_false hb
          clear hb hw
          go_wp2_with (first | ((with_reducible refine gate_dst (N := 15) rfl ?_); refine Kd.R_lit k79 (w0 := w) w.heap.size 79 ?hg (N := 15) ?hd (xs := ([] : List S79)) (inner := []) (ok := fun _ => True) (okp := fun _ => True) ?hr ?hp (fun _ hk => hk) trivial HB.out HB.out.size (by simp) ?_; (case hd => rfl); (case hg => rfl); (case hr => first | (go_simp; done) | (go_simp; rfl)); (case hp => exact (Reps.none _ _)); intro v1_ wl ho hb hg hat; have RO := Aside0.mk ho; have h_ := Aside0.mk hb; clear HB ho hb hg hat; have HB := h_; clear h_) | ((with_reducible refine gate_dst (N := 17) rfl ?_); refine Kd.R_append_rows (α := S79) k79 (Rr := k79.K _) (w0 := w) w.heap.size ?hg (Operand.tmp 15) (Operand.tmp 16) 23 79 (.agg #[.int .i64 0, .int .i64 0, .int .i64 0]) 24 ?ho Try.underlying23 info79 (by rfl) (by decide) (by decide) (v1_) ([] : List S79) l0 A0 l0.length c0 (fun _ => True) (fun _ => False) ?hs ?hx RO.out (kc_ HR0 HB) ?hKM (fun _ hk => False.elim hk) (fun _ _ => trivial) HB.out HB.out.size ?hl ?_; (case hg => rfl); (case ho => rfl); (case hs => rfl); (case hx => rfl); (case hKM => intro x cs h; obtain rfl := k79_open h; exact k79_mkM _ _ _ _); (case hl => have := HLN.out; first | omega | (simp; omega)); intro v2_ wa0 ho hb hg hat; simp only [List.nil_append] at ho; have h_ := Aside0.mk hb; clear RO HB hb hg hat; have HB := h_; clear h_; have RO := Aside0.mk ho; clear ho) | ((with_reducible refine gate_dst (N := 19) rfl ?_); refine Kd.R_append_rows (α := S79) k79 (Rr := k79.K _) (w0 := w) w.heap.size ?hg (Operand.tmp 17) (Operand.tmp 18) 23 79 (.agg #[.int .i64 0, .int .i64 0, .int .i64 0]) 24 ?ho Try.underlying23 info79 (by rfl) (by decide) (by decide) (v2_) l0 l1 A1 l1.length c1 (fun _ => True) (fun _ => False) ?hs ?hx RO.out (kc_ HR1 HB) ?hKM (fun _ hk => False.elim hk) (fun _ _ => trivial) HB.out HB.out.size ?hl ?_; (case hg => rfl); (case ho => rfl); (case hs => rfl); (case hx => rfl); (case hKM => intro x cs h; obtain rfl := k79_open h; exact k79_mkM _ _ _ _); (case hl => have := HLN.out; first | omega | (simp; omega)); intro v3_ wa1 ho hb hg hat; rw [HLL.out] at ho; have h_ := Aside0.mk hb; clear RO HB hb hg hat; have HB := h_; clear h_; obtain ⟨A3, c3, rfl, hc3, k3⟩ := Kd.R_reads ho; have RO := Aside0.mk ho; have C3 := Aside0.mk hc3; have K3 := Aside0.mk k3; clear ho hc3 k3))
          refine (vessel_Check.calls 30 A3 c3 ll 0 _ K3.out C3.out (by rw [vCheck]; unfold checkF; rw [HV.out]; rfl)).mono ?_
          rintro e wz ⟨rfl, hb⟩
          replace RO := Aside0.mk (Kd.R_below RO.out hb)
          replace HB := bs_ HB hb
          clear hb
          go_wp2
          go_ret2
          rw [HF.out]
          exact ⟨_, rfl, RO.out, HB.out⟩
    · have HF : Aside0 (StackedF l0 l1 = ([], 20)) := ⟨by unfold StackedF; rw [if_pos hv, if_neg hu]⟩
      have HK : Aside0 (vessel_checked.f 40 [l0, l1] = some 20) := ⟨checked_bad2 hv hu⟩
      clear hv hu
      go_enter Try.func60, Try.ntmps60
      go_wp2_with fail
      refine (vessel_checked.calls 40 _ 2 [l0, l1] 20 _ (pair_row (Kd.C_below (kc_ HR0 HB) (ba_ _ _)) HC0.out (Kd.C_below (kc_ HR1 HB) (ba_ _ _)) HC1.out (blk_new _ _)) (by simp) HK.out).mono ?_
      rintro e w1 ⟨rfl, hb⟩
      replace hb := below_step (ba_ _ _) hb
      replace HB := bs_ HB hb
      clear hb
      go_wp2
      go_ret2
      rw [HF.out]
      exact ⟨_, rfl, Kd.R_nil _ _ _ _ _, HB.out⟩
  · have HF : Aside0 (StackedF l0 l1 = ([], 20)) := ⟨by unfold StackedF; rw [if_neg hv]⟩
    have HK : Aside0 (vessel_checked.f 40 [l0, l1] = some 20) := ⟨checked_bad1 hv⟩
    clear hv
    go_enter Try.func60, Try.ntmps60
    go_wp2_with fail
    refine (vessel_checked.calls 40 _ 2 [l0, l1] 20 _ (pair_row (Kd.C_below (kc_ HR0 HB) (ba_ _ _)) HC0.out (Kd.C_below (kc_ HR1 HB) (ba_ _ _)) HC1.out (blk_new _ _)) (by simp) HK.out).mono ?_
    rintro e w1 ⟨rfl, hb⟩
    replace hb := below_step (ba_ _ _) hb
    replace HB := bs_ HB hb
    clear hb
    go_wp2
    go_ret2
    rw [HF.out]
    exact ⟨_, rfl, Kd.R_nil _ _ _ _ _, HB.out⟩
end Go.Proofs.Ytlhfclpbodfmcaa.Pr
namespace Go.Proofs.Ytlhfclpbodfmcaa.Pr
open Go.RowKit Go.Proofs.YtlhfclpbodfmcaaW.PrintWords Go.Proofs.YtlhfclpbodfmcaaW.PrintLast Go.Proofs.YtlhfclpbodfmcaaW.PrintMore
theorem same_self (l : List S79) (hl : l.length ≤ 200) : waterhourref02_Same.f 300 l l = some true := by
  have key : ∀ (n i k : Nat), n + i = l.length → n < k → waterhourref02_Same.l0 k l l (i : Int) = some true := by
    intro n
    induction n with
    | zero =>
      intro i k h hk
      obtain ⟨k, rfl⟩ : ∃ m, k = m + 1 := ⟨k - 1, by omega⟩
      simp only [waterhourref02_Same.l0]
      rw [if_neg (by omega)]
    | succ n ih =>
      intro i k h hk
      obtain ⟨k, rfl⟩ : ∃ m, k = m + 1 := ⟨k - 1, by omega⟩
      simp only [waterhourref02_Same.l0]
      rw [if_pos (by omega), if_pos (by omega), if_pos (by omega), if_neg (by simp), wr (by omega) (by omega)]
      exact ih (i + 1) k (by omega) (by omega)
  unfold waterhourref02_Same.f
  rw [if_pos rfl]
  exact key l.length 0 300 (by omega) (by omega)
end Go.Proofs.Ytlhfclpbodfmcaa.Pr
