/- A part of the proof: Pr0, Kq, Ra, Gc, Lc, Le, Lh, Kl. -/
import Derived.Test.YtlhfclpbodfmcaaProg
import Derived.Below
import Derived.Deep.Draws
import Derived.Deep.AppendLies
import Derived.Maps.AppendAt
import Derived.OwnWalk
import Derived.Laws.BytesArg
import Derived.Laws.MakeOwn
import Derived.Laws.OwnMore
import Derived.Deep.OwnRows
import Derived.Tactics
import Derived.Lib.ConvBytes
import Derived.Laws.Slices
import Derived.WalkKit
import Derived.KernelRfl
import Derived.RowKit3
import Derived.Deep.LoopGhost
import Derived.Deep.QuietTactic
import Derived.BigQuiet
import Derived.WideLaws
import Derived.Deep.DeepCutAuto
import Derived.Deep.CutBlock
import Derived.Deep.RegionHeld3
import Derived.Laws.Rows
import Derived.Lib.AppendStr
import Derived.ArgAppend
import Derived.Laws.IdiomCopy
import Derived.OrdersHeld
import Derived.Laws.BitsLemmas
import Derived.RowKit
import Derived.Test.YtlhfclpbodfmcaaYQVm
import Derived.Test.YtlhfclpbodfmcaaXRt
import Derived.Lib.AppendZeros
import Derived.Test.YtlhfclpbodfmcaaXLb
namespace Go.Proofs.Ytlhfclpbodfmcaa.Pr
open Go.RowKit Go.Proofs.YtlhfclpbodfmcaaW.PrintWords Go.Proofs.YtlhfclpbodfmcaaW.PrintLast Go.Proofs.YtlhfclpbodfmcaaW.PrintMore
attribute [local go_sem] max2_int min2_int max_two min_two max_three min_three max_four min_four   -- for this text's walks alone
set_option linter.unusedVariables false
set_option linter.unusedSimpArgs false
theorem k27_mk (w : World) (x : S27)  : k27.K w x [.int .i64 x.f0, .int .i64 x.f1] := ⟨[.int .i64 x.f0], [.int .i64 x.f1], rfl, rfl, rfl⟩
end Go.Proofs.Ytlhfclpbodfmcaa.Pr
namespace Go.Proofs.Ytlhfclpbodfmcaa.Pr
open Go.RowKit Go.Proofs.YtlhfclpbodfmcaaW.PrintWords Go.Proofs.YtlhfclpbodfmcaaW.PrintLast Go.Proofs.YtlhfclpbodfmcaaW.PrintMore
set_option linter.unusedVariables false
section
variable {P : Program} {ops : Array Oper} {Q : Exit → Act → World → Prop} {md : Region.Mode} {S : World → Prop} {ds : List Nat}
end
theorem fb_ {n : Nat} {w W X : World} (HB : Aside0 (Below n w W)) (h : Below W.heap.size W X := by repeat (first | exact Below.refl _ _ | apply below_alloc | apply pw_below_drewN | apply below_drew1)) (hn : n ≤ W.heap.size := by first | exact HB.out.size | exact Nat.le_refl _) : Below n w X := HB.out.trans (h.mono hn)
section
variable {P : Program} {ops : Array Oper} {Q : Exit → Act → World → Prop}
end
end Go.Proofs.Ytlhfclpbodfmcaa.Pr
namespace Go.Proofs.Ytlhfclpbodfmcaa.Pr
open Go.RowKit Go.Proofs.YtlhfclpbodfmcaaW.PrintWords Go.Proofs.YtlhfclpbodfmcaaW.PrintLast Go.Proofs.YtlhfclpbodfmcaaW.PrintMore
open Go.Proofs.Ytlhfclpbodfmcaa.Vm
set_option linter.unusedVariables false
set_option linter.unusedSimpArgs false
theorem wrp_ {n : Int} (h0 : -9223372036854775808 ≤ n) (h1 : n ≤ 9223372036854775807) : wrap64 n = n := wr h0 h1
end Go.Proofs.Ytlhfclpbodfmcaa.Pr
namespace Go.Proofs.Ytlhfclpbodfmcaa.Pr
open Go.RowKit Go.Proofs.YtlhfclpbodfmcaaW.PrintWords Go.Proofs.YtlhfclpbodfmcaaW.PrintLast Go.Proofs.YtlhfclpbodfmcaaW.PrintMore
open Go.Proofs.Ytlhfclpbodfmcaa.Vm
set_option linter.unusedVariables false
set_option linter.unusedSimpArgs false
set_option maxHeartbeats 1600000 in
set_option maxRecDepth 100000 in
theorem grow_nil (n : Nat) (h1 : 1 ≤ n) (h2 : n ≤ 1000) (w : World) : Calls Try.prog 123 #[.slice none 0 0, .int .i64 (n : Int)] w fun e w' => ∃ v, e = .returned v ∧ Kd.R k27 27 w' w.heap.size (fun _ => True) v ([] : List S27) ∧ Below w.heap.size w w' := by
  obtain ⟨i, hi, e⟩ := Option.map_eq_some_iff.1 info27
  simp only [Prod.mk.injEq] at e
  obtain ⟨hz, hs, hb⟩ := e
  have hr : ∀ ty, (Builtin.append_ #[62, 3] ty #[.slice none 0 0, .int .i64 (n : Int)]).run Try.prog w = .ok (.slice (some ⟨w.heap.size, 0, none⟩) n (grownCap w n 0 27)) (w.drew.alloc (.cells (Builtin.zeroCells (Value.agg #[.int .i64 0, .int .i64 0]).cells n ++ Builtin.zeroCells (Value.agg #[.int .i64 0, .int .i64 0]).cells (grownCap w n 0 27 - n)) 27)) := fun ty =>
    Lib.run_append_nil_zeros w 62 3 ty 27 i _ .i64 .i64 Try.underlying62 Try.underlying3 hi hz n (by omega) (by omega) (by omega) (by rw [hb]; omega)
  have hge := grownCap_ge w n 0 27
  have hcm : grownCap w n 0 27 ≤ maxLen := grownCap_le_maxLen w n 0 27 (by unfold maxLen; omega)
  obtain ⟨G, hG⟩ : ∃ G, grownCap w n 0 27 = G := ⟨_, rfl⟩
  rw [hG] at hr hge hcm
  have hsz : (Builtin.zeroCells (Value.agg #[.int .i64 0, .int .i64 0]).cells n ++ Builtin.zeroCells (Value.agg #[.int .i64 0, .int .i64 0]).cells (G - n)).size = G * 2 := by
    simp only [Array.size_append, size_zeroCells]
    show n * 2 + (G - n) * 2 = G * 2
    omega
  generalize Builtin.zeroCells (Value.agg #[.int .i64 0, .int .i64 0]).cells n ++ Builtin.zeroCells (Value.agg #[.int .i64 0, .int .i64 0]).cells (G - n) = CS at hr hsz
  have HX : Aside0 (Kd.R k27 27 (w.drew.alloc (.cells CS 27)) w.heap.size (fun _ => True) (.slice (some ⟨w.heap.size, 0, none⟩) 0 G) ([] : List S27)) := ⟨⟨fun _ _ => trivial, [], ⟨rfl, .inr ⟨w.heap.size, G, CS, rfl, Nat.le_refl _, heap_alloc_new w.drew _, Nat.zero_le _, hcm, hsz, rfl⟩⟩, Reps.none _ _⟩⟩
  have d1 : decide ((n : Int) < 0) = false := decide_eq_false (by omega)
  have d2 : decide ((0 : Int) < (n : Int)) = true := decide_eq_true (by omega)
  have d3 : decide (0 < n) = true := decide_eq_true (by omega)
  have e1 : wrap64 (n : Int) = (n : Int) := wrp_ (by omega) (by omega)
  have hG63 : (G : Int) ≤ 9223372036854775807 := by unfold maxLen at hcm; omega
  clear hG hcm hsz hi hz hs hb
  go_enter Try.func123, Try.ntmps123
  go_wp2_with (at_builtin; refine Lib.wpList_append_run _ rfl _ _ _ _ rfl _ _ rfl rfl _ _ (hr _) ?_)
  go_ret
  exact ⟨_, rfl, HX.out, below_alloc (below_drew1 (Below.refl _ _)) _⟩
def rd_S2 (xs : List (List S27)) (i : Int) : List S27 := xs.getD i.toNat []
theorem at_S2 {w : World} {A : Option Addr} {n : Nat} {xs : List (List S27)} (h : Kd.C (Kd.slice 27 k27) w A n xs) (i : Int) (h0 : 0 ≤ i) (h1 : i < n) : ∃ ad A0 c0, A = some ad ∧ w.cell? (ad.add i.toNat) = some (.slice A0 (rd_S2 xs i).length c0) ∧ (rd_S2 xs i).length ≤ c0 ∧ k27.C w A0 (rd_S2 xs i).length (rd_S2 xs i) := by
  obtain ⟨ad, c, e, _, hK, hc0⟩ := Kd.C_get h ([] : List S27) i h0 h1
  have hc : ∀ j u, c[j]? = some u → w.cell? (ad.add (i.toNat * 1 + j)) = some u := hc0
  obtain ⟨A0, c0, rfl, l0, g0⟩ := hK
  exact ⟨ad, A0, c0, e, by have hq := hc 0 _ rfl; rwa [Nat.mul_one, Nat.add_zero] at hq, l0, g0⟩
theorem flat_step (ls : List (List S27)) (n : Nat) (h : n < ls.length) : (ls.take (n + 1)).flatten = (ls.take n).flatten ++ rd_S2 ls (n : Int) := by
  rw [List.take_add_one, List.flatten_append]
  simp [List.getElem?_eq_getElem h, rd_S2, List.getD_eq_getElem?_getD]
theorem flat_le (ls : List (List S27)) (n : Nat) : (ls.take n).flatten.length ≤ ls.flatten.length := by
  have e : ls.flatten = (ls.take n).flatten ++ (ls.drop n).flatten := by rw [← List.flatten_append, List.take_append_drop]
  rw [e, List.length_append]; omega
set_option maxHeartbeats 1600000 in
set_option maxRecDepth 100000 in
theorem concat_run (A0 : Option Addr) (c0 : Nat) (ls : List (List S27)) (w : World) (hr0 : Kd.C (Kd.slice 27 k27) w A0 ls.length ls) (hl : ls.length ≤ 10) (ht0 : 1 ≤ ls.flatten.length) (ht1 : ls.flatten.length ≤ 1000) :
    Calls Try.prog 67 #[.slice A0 ls.length c0] w fun e w' => ∃ v, e = .returned v ∧ Kd.R k27 27 w' w.heap.size (fun _ => True) v ls.flatten ∧ Below w.heap.size w w' := by
  have HR0 := Aside0.mk hr0
  have HB := Aside0.mk (Below.refl w.heap.size w)
  obtain ⟨T, hT⟩ : ∃ T : Nat → Nat, ∀ n, (ls.take n).flatten.length = T n := ⟨_, fun _ => rfl⟩
  have HT0 : Aside0 (T 0 = 0) := ⟨by rw [← hT]; rfl⟩
  have HTS : Aside0 (∀ n, n < ls.length → T (n + 1) = T n + (rd_S2 ls (n : Int)).length) := ⟨fun n h => by rw [← hT, ← hT, flat_step ls n h, List.length_append]⟩
  have HTB : Aside0 (∀ n, T n ≤ 1000) := ⟨fun n => by rw [← hT]; exact Nat.le_trans (flat_le ls n) ht1⟩
  have HTE : Aside0 (1 ≤ T ls.length) := ⟨by rw [← hT, List.take_of_length_le (Nat.le_refl _)]; exact ht0⟩
  have HT := Aside0.mk hT
  have HL := Aside0.mk hl
  clear hr0 hl ht0 ht1 hT
  go_enter Try.func67, Try.ntmps67
  go_wp2
  go_loopg [3, 11] ls.length (fun kq v3 v11 w' => ∃ n : Nat, v3 = .int .i64 (T n : Int) ∧ v11 = .int .i64 (n : Int) ∧ Aside0 (n + kq = ls.length) ∧ Aside0 (Below w.heap.size w w'))
  case atStart => exact ⟨0, by rw [HT0.out]; rfl, rfl, ⟨by omega⟩, HB⟩
  case round =>
    clear HB
    obtain ⟨n, rfl, rfl, HI, HB⟩ := hrel
    by_cases hij : n < ls.length
    · have hd : decide ((n : Int) < (ls.length : Int)) = true := decide_eq_true (by omega)
      have hd2 : decide (n < ls.length) = true := decide_eq_true hij
      obtain ⟨ad, ax, cx, q1, x0, lx, x1⟩ := at_S2 HR0.out (n : Int) (by omega) (by omega)
      subst q1
      replace x0 := pw_cell_below HB.out x0
      simp only [Int.toNat_natCast] at x0
      have e1 : wrap64 ((T n : Int) + ((rd_S2 ls (n : Int)).length : Int)) = (T (n + 1) : Int) := by
        have h := HTS.out n hij
        have := HTB.out (n + 1)
        rw [wrp_ (by omega) (by omega)]; omega
      have d1 : decide ((T (n + 1) : Int) < 0) = false := decide_eq_false (by omega)
      have p1 : (0 : Int) ≤ (n : Int) := by omega
      have q1 : (n : Int) < (ls.length : Int) := by omega
      have hn10 : n ≤ 10 := by have := HL.out; omega
      have HIJ := Aside0.mk hij
      clear lx x1 hij
      go_wp2
      go_roundg (gk - 1)
      case measure => have := HI.out; have := HIJ.out; omega
      case rel => exact ⟨n + 1, by rw [e1], by go_num, ⟨by have := HI.out; have := HIJ.out; omega⟩, HB⟩
    · have hd : decide ((n : Int) < (ls.length : Int)) = false := decide_eq_false (by omega)
      have hd2 : decide (n < ls.length) = false := decide_eq_false hij
      have hn : n = ls.length := by have := HI.out; omega
      subst hn
      clear HI hij
      have HBD := Aside0.mk (And.intro HTE.out (HTB.out ls.length))
      go_wp2_with fail
      refine (grow_nil (T ls.length) HBD.out.1 HBD.out.2 _).mono ?_
      rintro e w3 ⟨v6, rfl, hr, hb⟩
      replace hb := nb_ HB hb
      have RO : Aside0 (Kd.R k27 27 w3 w.heap.size (fun _ => True) v6 ([] : List S27)) := ⟨Kd.R_lower hr (below_size HB.out)⟩
      replace HB := bs_ HB hb
      clear hb hr
      go_wp2
      go_loopg [6, 27] ls.length (fun kq v6 v27 w' => ∃ (n : Nat) (done : List S27), v27 = .int .i64 (n : Int) ∧ Aside0 (n + kq = ls.length ∧ done = (ls.take n).flatten) ∧ Aside0 (Kd.R k27 27 w' w.heap.size (fun _ => True) v6 done) ∧ Aside0 (Below w.heap.size w w'))
      case atStart => exact ⟨0, [], rfl, ⟨by omega, by simp⟩, RO, HB⟩
      case round =>
        clear RO HB
        obtain ⟨n, done, rfl, HI, RO, HB⟩ := hrel
        by_cases hij : n < ls.length
        · have hd3 : decide ((n : Int) < (ls.length : Int)) = true := decide_eq_true (by omega)
          have hd4 : decide (n < ls.length) = true := decide_eq_true hij
          obtain ⟨ad, ax, cx, q1, x0, lx, x1⟩ := at_S2 HR0.out (n : Int) (by omega) (by omega)
          subst q1
          replace x0 := pw_cell_below HB.out x0
          simp only [Int.toNat_natCast] at x0
          have p1 : (0 : Int) ≤ (n : Int) := by omega
          have q1 : (n : Int) < (ls.length : Int) := by omega
          have hn10 : n ≤ 10 := by have := HL.out; omega
          have X1 := Aside0.mk x1
          have HLN : Aside0 (done.length ≤ 1000 ∧ (rd_S2 ls (n : Int)).length ≤ 1000) := ⟨by have h := HTS.out n hij; have := HTB.out (n + 1); rw [HI.out.2, HT.out n]; omega⟩
          have HDN : Aside0 (done ++ rd_S2 ls (n : Int) = (ls.take (n + 1)).flatten) := ⟨by rw [HI.out.2, flat_step ls n hij]⟩
          have HIJ := Aside0.mk hij
          clear lx x1 hij
          go_wp2_with (first | ((with_reducible refine gate_dst (N := 33) rfl ?_); refine Kd.R_append_rows (α := S27) k27 (Rr := k27.K _) (w0 := w) w.heap.size ?hg (Operand.tmp 31) (Operand.tmp 32) 62 27 (.agg #[.int .i64 0, .int .i64 0]) 16 ?ho Try.underlying62 info27 (by rfl) (by decide) (by decide) _ done (rd_S2 ls (n : Int)) ax (rd_S2 ls (n : Int)).length cx (fun _ => True) (fun _ => False) ?hs ?hx RO.out (Kd.C_below X1.out HB.out) ?hKM (fun _ hk => False.elim hk) (fun _ _ => trivial) HB.out HB.out.size ?hl ?_; (case hg => rfl); (case ho => rfl); (case hs => rfl); (case hx => rfl); (case hKM => intro x cs h; obtain rfl := k27_open h; exact k27_mkM _ _ _ _); (case hl => have := HLN.out; omega); intro v3_ wa3 ho hb hg hat; clear RO HB hg hat; have HB := Aside0.mk hb; have RO := Aside0.mk ho; clear ho hb))
          go_roundg (gk - 1)
          case measure => have := HI.out; have := HIJ.out; omega
          case rel => exact ⟨n + 1, _, by go_num, ⟨by have := HI.out; have := HIJ.out; omega, HDN.out⟩, RO, HB⟩
        · have hd3 : decide ((n : Int) < (ls.length : Int)) = false := decide_eq_false (by omega)
          have hd4 : decide (n < ls.length) = false := decide_eq_false hij
          have HE : Aside0 (done = ls.flatten) := ⟨by have h := HI.out; have e : n = ls.length := (by omega); rw [h.2, e, List.take_of_length_le (Nat.le_refl _)]⟩
          clear hij
          go_wp2
          go_ret
          exact ⟨_, rfl, by rw [← HE.out]; exact RO.out, HB.out⟩
end Go.Proofs.Ytlhfclpbodfmcaa.Pr
namespace Go.Proofs.Ytlhfclpbodfmcaa.Pr
open Go.Proofs.Ytlhfclpbodfmcaa.Vm
set_option linter.unusedVariables false
theorem fl_mono {x y : Rat} (h : x ≤ y) : x.floor ≤ y.floor := Rat.le_floor_iff.2 (by have := Rat.floor_le x; grind)
theorem ce_mono {x y : Rat} (h : x ≤ y) : x.ceil ≤ y.ceil := Rat.ceil_le_iff.2 (by have := Rat.le_ceil (x := y); grind)
theorem fl_nn {x : Rat} (h : 0 ≤ x) : 0 ≤ x.floor := Rat.le_floor_iff.2 (by simpa using h)
theorem fl_le {x : Rat} {n : Int} (h : x ≤ (n : Rat)) : x.floor ≤ n := by
  have := Rat.floor_le x
  exact Rat.intCast_le_intCast.1 (by grind)
theorem ce_le {x : Rat} {n : Int} (h : x ≤ (n : Rat)) : x.ceil ≤ n := Rat.ceil_le_iff.2 h
theorem le_ce {x : Rat} {n : Int} (h : (n : Rat) ≤ x) : n ≤ x.ceil := by
  have := Rat.le_ceil (x := x)
  exact Rat.intCast_le_intCast.1 (by grind)
theorem ce_nn {x : Rat} (h : 0 ≤ x) : 0 ≤ x.ceil := le_ce (by simpa using h)
section
variable {l : List S79}
theorem VL.fl {lv : Int} (h : VL l lv) {x : Rat} (h0 : 0 ≤ x) (h1 : x ≤ (sm (hsO l) : Rat)) : VL l x.floor := ⟨h.v, fl_nn h0, fl_le h1⟩
theorem VL.ce {lv : Int} (h : VL l lv) {x : Rat} (h0 : 0 ≤ x) (h1 : x ≤ (sm (hsO l) : Rat)) : VL l x.ceil := ⟨h.v, ce_nn h0, ce_le h1⟩
theorem hT_le {lv : Int} (h : VL l lv) {x y : Rat} (x0 : 0 ≤ x) (x1 : x ≤ (sm (dsO l) : Rat)) (y0 : 0 ≤ y) (y1 : y ≤ (sm (dsO l) : Rat)) : hT l x ≤ hT l y ↔ x ≤ y := conv_le_iff h.gv.hd.symm h.gv.d.pos h.gv.h.pos x0 x1 y0 y1
theorem hT_mT {lv : Int} (h : VL l lv) {x : Rat} (h0 : 0 ≤ x) (h1 : x ≤ (sm (hsO l) : Rat)) : hT l (mT l x) = x := conv_back h.gv.hd h.gv.h.pos h.gv.d.pos h0 h1
end
end Go.Proofs.Ytlhfclpbodfmcaa.Pr
namespace Go.Proofs.Ytlhfclpbodfmcaa.Pr
open Go.Proofs.Ytlhfclpbodfmcaa.Vm
set_option linter.unusedVariables false
theorem rightP {l0 : List S79} {l1 l2 : List Int} (h : rightB l0 l1 l2 = true) : validB l0 = true ∧ (∀ n ∈ l2, 0 ≤ n ∧ n ≤ sm (hsO l0)) ∧ (∀ n ∈ l1, 0 ≤ n ∧ n ≤ 8388608) ∧ l0.length ≤ 40 := by
  unfold rightB fewB lvlB at h
  simp only [Bool.and_eq_true, decide_eq_true_eq, List.all_eq_true] at h
  exact ⟨h.2.1, h.2.2.1, h.2.2.2, h.1⟩
theorem fl_ce (x : Rat) : x.floor ≤ x.ceil := (rnd_bd x).1
end Go.Proofs.Ytlhfclpbodfmcaa.Pr
namespace Go.Proofs.Ytlhfclpbodfmcaa.Pr
open Go.Proofs.Ytlhfclpbodfmcaa.Vm
set_option linter.unusedVariables false
/-- The time left at a mark. -/
def Qm (l : List S79) (parts i : Int) : Rat := ((sm (dsO l) * (parts - i) : Int) : Rat) / (parts : Rat)
theorem one_leR {n : Int} (h : 1 ≤ n) : (1 : Rat) ≤ (n : Rat) := by have := castLe h; simpa using this
theorem Qm_v {l : List S79} {parts i : Int} : Qm l parts i = (sm (dsO l) : Rat) * ((parts : Rat) - (i : Rat)) / (parts : Rat) := by unfold Qm; rw [Rat.intCast_mul, Rat.intCast_sub]
theorem mark_val {l : List S79} (hv : validB l = true) {parts i : Int} (hp : 1 ≤ parts ∧ parts ≤ 60) (hi : 0 ≤ i ∧ i ≤ parts) : (markS l parts i).f0 = (hT l (Qm l parts i)).floor ∧ (markS l parts i).f1 = (hT l (Qm l parts i)).ceil := by
  have g := valid_GV hv
  have m := mark_spec g hp hi
  obtain ⟨f1, f2, f3, f4, f5, f6, f7⟩ := tell g.d g.h g.hd.symm m.2.2.2.1 m.2.2.2.2.2.1 m.2.2.2.2.2.2 m.2.2.2.2.1
  have e : (markF l parts i).v = hT l (Qm l parts i) := by
    show (atF _ _).v = _
    rw [f3, m.2.2.1, Qm_v]
    rfl
  have s : spanF (markF l parts i) = ((markF l parts i).v.floor, (markF l parts i).v.ceil) := spanF_eq f4
  unfold markS
  rw [s, e]
  exact ⟨rfl, rfl⟩
theorem Qm_bd {l : List S79} (hv : validB l = true) {parts i : Int} (hp : 1 ≤ parts ∧ parts ≤ 60) (hi : 0 ≤ i ∧ i ≤ parts) : 0 ≤ Qm l parts i ∧ Qm l parts i ≤ (sm (dsO l) : Rat) := by
  have g := valid_GV hv
  have m := mark_spec g hp hi
  refine ⟨?_, by rw [Qm_v, ← m.2.2.1]; exact m.2.2.2.2.2.2⟩
  have := castLe m.1
  exact div_nn (by simpa using this) (one_leR hp.1)
theorem Qm_step {l : List S79} {parts i : Int} (hp : 1 ≤ parts) : Qm l parts i - Qm l parts (i + 1) = (sm (dsO l) : Rat) / (parts : Rat) := by
  have h1 := one_leR hp
  rw [Qm_v, Qm_v, Rat.intCast_add]
  have e : ((1 : Int) : Rat) = 1 := rfl
  grind
theorem VL0 {l : List S79} (hv : validB l = true) : VL l 0 := ⟨hv, by omega, (valid_GV hv).h.pos.sum⟩
theorem hT_top {l : List S79} (hv : validB l = true) : hT l (sm (dsO l) : Rat) = (sm (hsO l) : Rat) := by
  have v := VL0 hv
  have d0 : (0 : Rat) ≤ (sm (dsO l) : Rat) := by have := castLe (valid_GV hv).d.pos.sum; simpa using this
  have h0 : (0 : Rat) ≤ (sm (hsO l) : Rat) := by have := castLe (valid_GV hv).h.pos.sum; simpa using this
  have b := hT_bd v d0 Rat.le_refl
  have m := mT_bd v h0 Rat.le_refl
  have c := (hT_le v m.1 m.2 d0 Rat.le_refl).2 m.2
  rw [hT_mT v h0 Rat.le_refl] at c
  exact Rat.le_antisymm b.2 c
theorem marksL_get (l : List S79) (parts : Int) : ∀ (k n : Nat), n < k → (marksL l parts k).getD n z27 = markS l parts ((n : Int) + 1)
  | 0, n, h => by omega
  | k + 1, n, h => by
    show (marksL l parts k ++ [markS l parts ((k : Int) + 1)]).getD n z27 = _
    by_cases hn : n < k
    · rw [List.getD_eq_getElem?_getD, List.getElem?_append_left (by rw [marksL_length]; exact hn), ← List.getD_eq_getElem?_getD, marksL_get l parts k n hn]
    · have e : n = k := by omega
      subst e
      rw [List.getD_eq_getElem?_getD, List.getElem?_append_right (by rw [marksL_length]; omega), marksL_length]
      simp
/-- The top, the marks, the bottom. -/
def eqList (l : List S79) (parts : Int) : List S27 := [[⟨sm (hsO l), sm (hsO l)⟩], marksL l parts (parts - 1).toNat, [⟨0, 0⟩]].flatten
theorem eqList_length (l : List S79) {parts : Int} (hp : 1 ≤ parts) : ((eqList l parts).length : Int) = parts + 1 := by
  unfold eqList
  simp only [List.flatten_cons, List.flatten_nil, List.length_append, List.length_cons, List.length_nil, marksL_length]
  omega
theorem eqList_get {l : List S79} (hv : validB l = true) {parts : Int} (hp : 1 ≤ parts ∧ parts ≤ 60) (n : Nat) (hn : (n : Int) ≤ parts) : rd_T27 (eqList l parts) (n : Int) = markS l parts (n : Int) := by
  have ext : ∀ x y : S27, x.f0 = y.f0 → x.f1 = y.f1 → x = y := fun x y h0 h1 => by cases x; cases y; simp only at h0 h1; subst h0 h1; rfl
  have mv := mark_val hv hp (i := (n : Int)) ⟨by omega, hn⟩
  have hp1 := one_leR hp.1
  show (eqList l parts).getD ((n : Int).toNat) z27 = _
  rw [Int.toNat_natCast]
  show ([(⟨sm (hsO l), sm (hsO l)⟩ : S27)] ++ (marksL l parts (parts - 1).toNat ++ ([(⟨0, 0⟩ : S27)] ++ []))).getD n z27 = _
  rw [List.append_nil]
  rcases n with _ | n
  · have q : Qm l parts ((0 : Nat) : Int) = (sm (dsO l) : Rat) := by
      rw [Qm_v]
      have e : (((0 : Nat) : Int) : Rat) = 0 := rfl
      rw [e]; grind
    rw [q, hT_top hv, Rat.floor_intCast, Rat.ceil_intCast] at mv
    exact ext _ _ mv.1.symm mv.2.symm
  · show (marksL l parts (parts - 1).toNat ++ [(⟨0, 0⟩ : S27)]).getD n z27 = _
    by_cases hk : n < (parts - 1).toNat
    · rw [List.getD_eq_getElem?_getD, List.getElem?_append_left (by rw [marksL_length]; exact hk), ← List.getD_eq_getElem?_getD, marksL_get l parts _ n hk]
      rfl
    · have e : ((n + 1 : Nat) : Int) = parts := by omega
      rw [List.getD_eq_getElem?_getD, List.getElem?_append_right (by rw [marksL_length]; omega), marksL_length, show n - (parts - 1).toNat = 0 by omega]
      rw [e] at mv ⊢
      have q : Qm l parts parts = 0 := by rw [Qm_v]; grind
      have z : hT l 0 = 0 := conv_zero (valid_GV hv).d.pos
      rw [q, z] at mv
      exact ext _ _ mv.1.symm mv.2.symm
def StepS (l : List S79) (parts : Int) (a b : S27) : Prop :=
  b.f0 ≤ a.f0 ∧ b.f1 ≤ a.f1 ∧ b.f0 ≤ b.f1 ∧ (a.f0 < b.f1 ∨ b.f1 ≤ a.f0 ∧ ∃ s t : Int, SinkingF l a.f0 b.f1 = (s, t, 0) ∧ t ≤ (sm (dsO l) + parts - 1) / parts)
theorem step_says {l : List S79} (hv : validB l = true) {parts : Int} (hp : 1 ≤ parts ∧ parts ≤ 60) (n : Nat) (hn : (n : Int) + 1 ≤ parts) : StepS l parts (rd_T27 (eqList l parts) (n : Int)) (rd_T27 (eqList l parts) ((n + 1 : Nat) : Int)) := by
  rw [eqList_get hv hp n (by omega), eqList_get hv hp (n + 1) (by omega)]
  have m1 := mark_val hv hp (i := (n : Int)) ⟨by omega, by omega⟩
  have m2 := mark_val hv hp (i := ((n + 1 : Nat) : Int)) ⟨by omega, by omega⟩
  have b1 := Qm_bd hv hp (i := (n : Int)) ⟨by omega, by omega⟩
  have b2 := Qm_bd hv hp (i := ((n + 1 : Nat) : Int)) ⟨by omega, by omega⟩
  have st := Qm_step (l := l) (parts := parts) (i := (n : Int)) hp.1
  have e : (n : Int) + 1 = ((n + 1 : Nat) : Int) := by omega
  rw [e] at st
  have dp : (0 : Rat) ≤ (sm (dsO l) : Rat) / (parts : Rat) := div_nn (by have := castLe (valid_GV hv).d.pos.sum; simpa using this) (one_leR hp.1)
  have v := VL0 hv
  have le := (hT_le v b2.1 b2.2 b1.1 b1.2).2 (by grind)
  have h1 := hT_bd v b1.1 b1.2
  have h2 := hT_bd v b2.1 b2.2
  refine ⟨by rw [m1.1, m2.1]; exact fl_mono le, by rw [m1.2, m2.2]; exact ce_mono le, by rw [m2.1, m2.2]; exact fl_ce _, ?_⟩
  by_cases hx : (markS l parts (n : Int)).f0 < (markS l parts ((n + 1 : Nat) : Int)).f1
  · exact .inl hx
  · refine .inr ⟨by omega, ?_⟩
    have va := v.fl h1.1 h1.2
    have vb := v.ce h2.1 h2.2
    rw [← m1.1] at va
    rw [← m2.2] at vb
    refine ⟨_, _, sink_val va vb (by omega), ?_⟩
    rw [← ceil_div (sm (dsO l)) parts hp.1, m1.1, m2.2]
    refine ce_mono ?_
    have f1 := Rat.floor_le (hT l (Qm l parts (n : Int)))
    have f2 := Rat.le_ceil (x := hT l (Qm l parts ((n + 1 : Nat) : Int)))
    rw [m1.1] at va
    rw [m2.2] at vb
    have g1 := (mT_le v va.c0 va.c1 h1.1 h1.2).2 f1
    have g2 := (mT_le v h2.1 h2.2 vb.c0 vb.c1).2 f2
    rw [mT_hT v b1.1 b1.2] at g1
    rw [mT_hT v b2.1 b2.2] at g2
    grind
end Go.Proofs.Ytlhfclpbodfmcaa.Pr
namespace Go.Proofs.Ytlhfclpbodfmcaa.Pr
open Go.RowKit Go.Proofs.YtlhfclpbodfmcaaW.PrintWords Go.Proofs.YtlhfclpbodfmcaaW.PrintLast Go.Proofs.YtlhfclpbodfmcaaW.PrintMore
set_option linter.unusedVariables false
theorem ba_ (W : World) (C : Obj) : Below W.heap.size W (W.alloc C) := below_alloc (Below.refl _ _) _
/-- A row of the caller's, later. -/
theorem kc_ {α : Type} {d : Kd α} {w W : World} {A : Option Addr} {l : List α} (h : Aside0 (Kd.C d w A l.length l)) (hb : Aside0 (Below w.heap.size w W)) : Kd.C d W A l.length l := Kd.C_below h.out hb.out
end Go.Proofs.Ytlhfclpbodfmcaa.Pr
