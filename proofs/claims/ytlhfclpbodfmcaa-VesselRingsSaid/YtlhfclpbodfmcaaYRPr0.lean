/- A part of the proof: Pr0, Kq, Kl, Sm, Ra, Ma, Rb, Rc, Re, Mb, Ss, Mc, Md, Rf, Me, Fb. -/
import Derived.Test.YtlhfclpbodfmcaaProg
import Derived.Below
import Derived.Deep.Draws
import Derived.Deep.AppendLies
import Derived.Maps.AppendAt
import Derived.OwnWalk
import Derived.Laws.BytesArg
import Derived.Laws.MakeOwn
import Derived.Laws.OwnMore
import Derived.Deep.OwnRows
import Derived.Tactics
import Derived.Lib.ConvBytes
import Derived.Laws.Slices
import Derived.WalkKit
import Derived.KernelRfl
import Derived.RowKit3
import Derived.Deep.LoopGhost
import Derived.Deep.QuietTactic
import Derived.BigQuiet
import Derived.WideLaws
import Derived.Deep.DeepCutAuto
import Derived.Deep.CutBlock
import Derived.Deep.RegionHeld3
import Derived.Laws.Rows
import Derived.Lib.AppendStr
import Derived.ArgAppend
import Derived.Laws.IdiomCopy
import Derived.OrdersHeld
import Derived.Laws.BitsLemmas
import Derived.RowKit
import Derived.Test.YtlhfclpbodfmcaaYRWWords
import Derived.Test.YtlhfclpbodfmcaaXRt
import Derived.Test.YtlhfclpbodfmcaaXLb
namespace Go.Proofs.Ytlhfclpbodfmcaa.Pr
open Go.RowKit Go.Proofs.YtlhfclpbodfmcaaW.PrintWords Go.Proofs.YtlhfclpbodfmcaaW.PrintLast Go.Proofs.YtlhfclpbodfmcaaW.PrintMore
attribute [local go_sem] max2_int min2_int max_two min_two max_three min_three max_four min_four   -- for this text's walks alone
set_option linter.unusedVariables false
set_option linter.unusedSimpArgs false
theorem k79_openM {w : World} {base : Nat} {ok : Nat → Prop} {x : S79} {cs : List Value} (h : k79.M w base ok x cs) : cs = [.int .i64 x.f0, .int .i64 x.f1, .int .i64 x.f2] := by
  obtain ⟨_, _, rfl, rfl, ⟨_, _, rfl, rfl, rfl⟩⟩ := h
  exact rfl
end Go.Proofs.Ytlhfclpbodfmcaa.Pr
namespace Go.Proofs.Ytlhfclpbodfmcaa.Pr
open Go.RowKit Go.Proofs.YtlhfclpbodfmcaaW.PrintWords Go.Proofs.YtlhfclpbodfmcaaW.PrintLast Go.Proofs.YtlhfclpbodfmcaaW.PrintMore
set_option linter.unusedVariables false
section
variable {P : Program} {ops : Array Oper} {Q : Exit → Act → World → Prop} {md : Region.Mode} {S : World → Prop} {ds : List Nat}
end
theorem fb_ {n : Nat} {w W X : World} (HB : Aside0 (Below n w W)) (h : Below W.heap.size W X := by repeat (first | exact Below.refl _ _ | apply below_alloc | apply pw_below_drewN | apply below_drew1)) (hn : n ≤ W.heap.size := by first | exact HB.out.size | exact Nat.le_refl _) : Below n w X := HB.out.trans (h.mono hn)
section
variable {P : Program} {ops : Array Oper} {Q : Exit → Act → World → Prop}
end
end Go.Proofs.Ytlhfclpbodfmcaa.Pr
namespace Go.Proofs.Ytlhfclpbodfmcaa.Pr
open Go.RowKit Go.Proofs.YtlhfclpbodfmcaaW.PrintWords Go.Proofs.YtlhfclpbodfmcaaW.PrintLast Go.Proofs.YtlhfclpbodfmcaaW.PrintMore
set_option linter.unusedVariables false
/-- A literal row of numbers. -/
theorem litJ (W : World) (xs : List Int) (hm : xs.length ≤ 1000) : Kd.C (Kd.int .i64) (W.alloc (.cells (xs.map (.int .i64)).toArray 3 (0, 0))) (some ⟨W.heap.size, 0, none⟩) xs.length xs := by
  refine ⟨rfl, by omega, fun _ => ⟨⟨W.heap.size, 0, none⟩, rfl, fun j p hj => ⟨[.int .i64 p], rfl, rfl, fun i u hu => ?_⟩⟩⟩
  rcases i with _ | i
  · simp at hu
    subst hu
    obtain ⟨hl, hp⟩ := List.getElem?_eq_some_iff.1 hj
    have h2 := blk_cell (blk_new W (.cells (xs.map (.int .i64)).toArray 3 (0, 0))) j
    simp [add_plain, show (Kd.int IntKind.i64).sz = 1 from rfl, hj]
  · simp at hu
theorem ba_ (W : World) (C : Obj) : Below W.heap.size W (W.alloc C) := below_alloc (Below.refl _ _) _
/-- A row of the caller's, later. -/
theorem kc_ {α : Type} {d : Kd α} {w W : World} {A : Option Addr} {l : List α} (h : Aside0 (Kd.C d w A l.length l)) (hb : Aside0 (Below w.heap.size w W)) : Kd.C d W A l.length l := Kd.C_below h.out hb.out
end Go.Proofs.Ytlhfclpbodfmcaa.Pr
namespace Go.Proofs.Ytlhfclpbodfmcaa.Pr
open Go.RowKit Go.Proofs.YtlhfclpbodfmcaaW.PrintWords Go.Proofs.YtlhfclpbodfmcaaW.PrintLast Go.Proofs.YtlhfclpbodfmcaaW.PrintMore
open Go.Proofs.Ytlhfclpbodfmcaa.Vm
set_option linter.unusedVariables false
set_option linter.unusedSimpArgs false
/-- Two rings as one. -/
def sumS (b r : S79) : S79 := ⟨b.f0 + r.f0, b.f1 + r.f1, b.f2 + r.f2⟩
def mrgB (b r : S79) : Bool := decide (b.f1 * r.f0 = r.f1 * b.f0) && (decide (b.f2 * r.f0 = r.f2 * b.f0) && ringB (sumS b r))
/-- One ring more. -/
def mergeS (done : List S79) (r : S79) : List S79 := if done.length = 0 then done ++ [r] else if mrgB (rd_T79 done ((done.length - 1 : Nat) : Int)) r then done.set (done.length - 1) (sumS (rd_T79 done ((done.length - 1 : Nat) : Int)) r) else done ++ [r]
def MergedL (l : List S79) : List S79 := l.foldl mergeS []
def MergedF (l : List S79) : List S79 × Int := if validB l then (MergedL l, 0) else ([], 20)
theorem mergeS_nil {d : List S79} {r : S79} (h : d.length = 0) : mergeS d r = d ++ [r] := by unfold mergeS; rw [if_pos h]
theorem mergeS_no {d : List S79} {r : S79} {k : Nat} (h : d.length = k + 1) (hm : mrgB (rd_T79 d (k : Int)) r = false) : mergeS d r = d ++ [r] := by
  unfold mergeS
  have e : d.length - 1 = k := by omega
  rw [if_neg (by omega), e, if_neg (by rw [hm]; simp)]
theorem mergeS_yes {d : List S79} {r : S79} {k : Nat} (h : d.length = k + 1) (hm : mrgB (rd_T79 d (k : Int)) r = true) : mergeS d r = d.set k (sumS (rd_T79 d (k : Int)) r) := by
  unfold mergeS
  have e : d.length - 1 = k := by omega
  rw [if_neg (by omega), e, if_pos hm]
theorem merge_step (l : List S79) (n : Nat) (h : n < l.length) : (l.take (n + 1)).foldl mergeS [] = mergeS ((l.take n).foldl mergeS []) (rd_T79 l (n : Int)) := by
  rw [List.take_add_one, List.foldl_append]
  simp [List.getElem?_eq_getElem h, rd_T79, List.getD_eq_getElem?_getD]
theorem rd_mem {l : List S79} {n : Nat} (h : n < l.length) : rd_T79 l (n : Int) ∈ l := by simp [rd_T79, List.getD_eq_getElem?_getD, List.getElem?_eq_getElem h]
theorem valid_ring {l : List S79} (h : validB l = true) : ∀ r, r ∈ l → ringB r = true := chain_ring (by unfold validB at h; rw [Bool.and_eq_true] at h; exact h.2)
/-- What holds of the rings so far. -/
structure MInv (l done : List S79) (n : Nat) : Prop where
  len : done.length ≤ n
  ring : ∀ r, r ∈ done → ringB r = true
  eq : (l.take n).foldl mergeS [] = done
theorem MInv.app {l done : List S79} {n : Nat} (h : MInv l done n) (hn : n < l.length) (hr : ringB (rd_T79 l (n : Int)) = true) (hm : mergeS done (rd_T79 l (n : Int)) = done ++ [rd_T79 l (n : Int)]) : MInv l (done ++ [rd_T79 l (n : Int)]) (n + 1) :=
  ⟨by have := h.len; simp; omega, fun r hr' => by
    rcases List.mem_append.1 hr' with h1 | h1
    · exact h.ring r h1
    · simp at h1; subst h1; exact hr, by rw [merge_step l n hn, h.eq, hm]⟩
theorem MInv.put {l done : List S79} {n k : Nat} (h : MInv l done n) (hn : n < l.length) (hk : done.length = k + 1) (hm : mrgB (rd_T79 done (k : Int)) (rd_T79 l (n : Int)) = true) : MInv l (done.set k (sumS (rd_T79 done (k : Int)) (rd_T79 l (n : Int)))) (n + 1) :=
  ⟨by have := h.len; simp; omega, fun r hr' => by
    rcases List.mem_or_eq_of_mem_set hr' with h1 | h1
    · exact h.ring r h1
    · subst h1; unfold mrgB at hm; rw [Bool.and_eq_true, Bool.and_eq_true] at hm; exact hm.2.2, by rw [merge_step l n hn, h.eq, mergeS_yes hk hm]⟩
end Go.Proofs.Ytlhfclpbodfmcaa.Pr
namespace Go.Proofs.Ytlhfclpbodfmcaa.Pr
open Go.RowKit Go.Proofs.YtlhfclpbodfmcaaW.PrintWords Go.Proofs.YtlhfclpbodfmcaaW.PrintLast Go.Proofs.YtlhfclpbodfmcaaW.PrintMore
open Go.Proofs.Ytlhfclpbodfmcaa.Vm
set_option linter.unusedVariables false
set_option linter.unusedSimpArgs false
def inB (n lo hi : Int) : Bool := decide (lo ≤ n) && decide (n ≤ hi)
theorem inB_iff {n lo hi : Int} : inB n lo hi = true ↔ lo ≤ n ∧ n ≤ hi := by unfold inB; simp
set_option maxHeartbeats 1600000 in
set_option maxRecDepth 100000 in
theorem ref_within.calls (n lo hi : Int) (w : World) : Calls Try.prog 104 #[.int .i64 n, .int .i64 lo, .int .i64 hi] w fun e w' => e = .returned (.bool (inB n lo hi)) ∧ Below w.heap.size w w' := by
  have HB := Aside0.mk (Below.refl w.heap.size w)
  unfold inB
  cases hd : decide (lo ≤ n)
  all_goals go_enter Try.func104, Try.ntmps104
  all_goals go_wp2
  all_goals go_ret
  all_goals exact ⟨by simp, HB.out⟩
set_option maxHeartbeats 1600000 in
set_option maxRecDepth 100000 in
theorem ref_isRing.calls (r : S79) (w : World) : Calls Try.prog 119 #[.agg #[.int .i64 r.f0, .int .i64 r.f1, .int .i64 r.f2]] w fun e w' => e = .returned (.bool (ringB r)) ∧ Below w.heap.size w w' := by
  have hu79 := Try.underlying79
  have HB := Aside0.mk (Below.refl w.heap.size w)
  have key : ringB r = (inB r.f0 1 1000 && (inB r.f1 1 100000 && inB r.f2 1 20000)) := by
    rw [Bool.eq_iff_iff, ringB_iff, Bool.and_eq_true, Bool.and_eq_true, inB_iff, inB_iff, inB_iff]; constructor <;> (intro h; omega)
  rw [key]
  clear key
  obtain ⟨b0, h0⟩ : ∃ b, inB r.f0 1 1000 = b := ⟨_, rfl⟩
  obtain ⟨b1, h1⟩ : ∃ b, inB r.f1 1 100000 = b := ⟨_, rfl⟩
  obtain ⟨b2, h2⟩ : ∃ b, inB r.f2 1 20000 = b := ⟨_, rfl⟩
  have C0 : Aside0 (∀ W, Calls Try.prog 104 #[.int .i64 r.f0, .int .i64 1, .int .i64 1000] W fun e w' => e = .returned (.bool b0) ∧ Below W.heap.size W w') := ⟨fun W => h0 ▸ ref_within.calls r.f0 1 1000 W⟩
  have C1 : Aside0 (∀ W, Calls Try.prog 104 #[.int .i64 r.f1, .int .i64 1, .int .i64 100000] W fun e w' => e = .returned (.bool b1) ∧ Below W.heap.size W w') := ⟨fun W => h1 ▸ ref_within.calls r.f1 1 100000 W⟩
  have C2 : Aside0 (∀ W, Calls Try.prog 104 #[.int .i64 r.f2, .int .i64 1, .int .i64 20000] W fun e w' => e = .returned (.bool b2) ∧ Below W.heap.size W w') := ⟨fun W => h2 ▸ ref_within.calls r.f2 1 20000 W⟩
  rw [h0, h1, h2]
  clear h0 h1 h2
  go_enter Try.func119, Try.ntmps119
  go_wp2_with (first | ((with_reducible refine gate_dst (N := 1) rfl ?_); refine bx_ 1 #[.int .i64 (r.f0), .int .i64 (r.f1), .int .i64 (r.f2)] 79 ?_; intro gx hg w1 hbox hb; have GEgx := ge_ hg HB; replace hb := nb_ HB hb; replace HB := bs_ HB hb; have BKgx := Aside0.mk hbox; obtain ⟨Ogx_0, Ogx_1, Ogx_2⟩ := c3_ BKgx; clear hb hbox hg))
  go_wp2_with fail
  refine (C0.out _).mono ?_
  rintro e w2 ⟨rfl, hb⟩
  replace hb := nb_ HB hb
  replace BKgx := kb_ BKgx hb
  replace HB := bs_ HB hb
  clear Ogx_0 Ogx_1 Ogx_2
  obtain ⟨Ogx_0, Ogx_1, Ogx_2⟩ := c3_ BKgx
  clear hb
  cases b0
  · go_wp2
    go_ret
    exact ⟨rfl, HB.out⟩
  go_wp2_with fail
  refine (C1.out _).mono ?_
  rintro e w3 ⟨rfl, hb⟩
  replace hb := nb_ HB hb
  replace BKgx := kb_ BKgx hb
  replace HB := bs_ HB hb
  clear Ogx_0 Ogx_1 Ogx_2
  obtain ⟨Ogx_0, Ogx_1, Ogx_2⟩ := c3_ BKgx
  clear hb
  cases b1
  · go_wp2
    go_ret
    exact ⟨rfl, HB.out⟩
  go_wp2_with fail
  refine (C2.out _).mono ?_
  rintro e w4 ⟨rfl, hb⟩
  replace hb := nb_ HB hb
  replace BKgx := kb_ BKgx hb
  replace HB := bs_ HB hb
  clear Ogx_0 Ogx_1 Ogx_2
  obtain ⟨Ogx_0, Ogx_1, Ogx_2⟩ := c3_ BKgx
  clear hb
  go_wp2
  go_ret
  exact ⟨rfl, HB.out⟩
theorem wrp_ {n : Int} (h0 : -9223372036854775808 ≤ n) (h1 : n ≤ 9223372036854775807) : wrap64 n = n := wr h0 h1
end Go.Proofs.Ytlhfclpbodfmcaa.Pr
namespace Go.Proofs.Ytlhfclpbodfmcaa.Pr
open Go.RowKit Go.Proofs.YtlhfclpbodfmcaaW.PrintWords Go.Proofs.YtlhfclpbodfmcaaW.PrintLast Go.Proofs.YtlhfclpbodfmcaaW.PrintMore
open Go.Proofs.Ytlhfclpbodfmcaa.Vm
set_option linter.unusedVariables false
set_option linter.unusedSimpArgs false
attribute [local go_sem] fld79_0 fld79_1 fld79_2
set_option maxHeartbeats 1600000 in
set_option maxRecDepth 100000 in
theorem vessel_Merged.calls (A0 : Option Addr) (c0 : Nat) (l0 : List S79) (w : World) (hr0 : Kd.C k79 w A0 l0.length l0) (hc0 : l0.length ≤ c0) :
    Calls Try.prog 64 #[.slice A0 l0.length c0] w fun e w' => ∃ v0_ : Value, e = .returned (.tuple #[v0_, .int .i64 (MergedF l0).2]) ∧ Kd.R k79 79 w' w.heap.size (fun _ => True) v0_ (MergedF l0).1 ∧ Below w.heap.size w w' := by
  have hu79 := Try.underlying79
  have HR0 := Aside0.mk hr0
  have HC0 := Aside0.mk hc0
  clear hr0 hc0
  have HB := Aside0.mk (Below.refl w.heap.size w)
  cases hv : validB l0
  · have HF : Aside0 (MergedF l0 = ([], 20)) := ⟨by unfold MergedF; rw [hv]; rfl⟩
    have C0 : Aside0 (∀ W, Below w.heap.size w W → Calls Try.prog 48 #[.slice A0 l0.length c0] W fun e w' => e = .returned (.int .i64 20) ∧ Below W.heap.size W w') := ⟨fun W hB => vessel_Check.calls 30 A0 c0 l0 20 W (Kd.C_below HR0.out hB) HC0.out (by rw [vCheck]; unfold checkF; rw [hv]; rfl)⟩
    clear hv
    go_enter Try.func64, Try.ntmps64
    go_wp2_with fail
    refine (C0.out _ HB.out).mono ?_
    rintro e w2 ⟨rfl, hb⟩
    replace hb := nb_ HB hb
    replace HB := bs_ HB hb
    clear hb
    go_wp2
    go_ret2
    rw [HF.out]
    exact ⟨_, rfl, Kd.R_nil _ _ _ _ _, HB.out⟩
  · have HF : Aside0 (MergedF l0 = ((l0.take l0.length).foldl mergeS [], 0)) := ⟨by unfold MergedF MergedL; rw [hv, List.take_of_length_le (Nat.le_refl _)]; rfl⟩
    have C0 : Aside0 (∀ W, Below w.heap.size w W → Calls Try.prog 48 #[.slice A0 l0.length c0] W fun e w' => e = .returned (.int .i64 0) ∧ Below W.heap.size W w') := ⟨fun W hB => vessel_Check.calls 30 A0 c0 l0 0 W (Kd.C_below HR0.out hB) HC0.out (by rw [vCheck]; unfold checkF; rw [hv]; rfl)⟩
    have HRING := Aside0.mk (valid_ring hv)
    have HLEN : Aside0 (l0.length ≤ 24) := ⟨by have := (valid_GV hv).h.ln; rw [List.length_map] at this; exact this⟩
    clear hv
    go_enter Try.func64, Try.ntmps64
    go_wp2_with fail
    refine (C0.out _ HB.out).mono ?_
    rintro e w2 ⟨rfl, hb⟩
    replace hb := nb_ HB hb
    replace HB := bs_ HB hb
    clear hb
    have RO : Aside0 (Kd.R k79 79 w2 w.heap.size (fun _ => True) (.slice none 0 0) ([] : List S79)) := ⟨Kd.R_nil _ _ _ _ _⟩
    go_wp2
    go_loopg [5, 18] l0.length (fun kq v5 v18 w' => ∃ (n : Nat) (done : List S79), v18 = .int .i64 (n : Int) ∧ Aside0 (n + kq = l0.length ∧ MInv l0 done n) ∧ Aside0 (Kd.R k79 79 w' w.heap.size (fun _ => True) v5 done) ∧ Aside0 (Below w.heap.size w w'))
    case atStart => exact ⟨0, [], rfl, ⟨by omega, ⟨by simp, by simp, by simp⟩⟩, RO, HB⟩
    case round =>
      clear RO HB
      obtain ⟨n, done, rfl, HI, RO, HB⟩ := hrel
      by_cases hij : n < l0.length
      · have hd : decide ((n : Int) < (l0.length : Int)) = true := decide_eq_true (by omega)
        have hd2 : decide (n < l0.length) = true := decide_eq_true hij
        have HIJ := Aside0.mk hij
        have p1 : (0 : Int) ≤ (n : Int) := by omega
        have q1 : (n : Int) < (l0.length : Int) := by omega
        obtain ⟨ad, e9, x0, x1, x2⟩ := at_T79 HR0.out (n : Int) p1 q1
        cases e9
        simp only [Int.toNat_natCast] at x0 x1 x2
        replace x0 := pw_cell_below HB.out x0
        replace x1 := pw_cell_below HB.out x1
        replace x2 := pw_cell_below HB.out x2
        have HRB := Aside0.mk (HRING.out _ (rd_mem hij))
        have HM1 := Aside0.mk (fun h => MInv.app HI.out.2 hij HRB.out h)
        have HM2 := Aside0.mk (fun k h1 h2 => MInv.put (k := k) HI.out.2 hij h1 h2)
        clear hij
        generalize rd_T79 l0 (n : Int) = rr at *
        obtain ⟨ra, rb, rc⟩ := rr
        simp only at x0 x1 x2
        have HRQ := Aside0.mk (ringB_iff.1 HRB.out)
        have HDL : Aside0 (done.length ≤ 1000) := ⟨by have := HI.out.2.len; have := HI.out.1; have := HLEN.out; omega⟩
        have hn24 : n ≤ 24 := by have := HLEN.out; have := HI.out.1; omega
        by_cases hk0 : done.length = 0
        · obtain ⟨A1, c1, rfl, hc1, k1⟩ := Kd.R_reads RO.out
          have HK0 : Aside0 (mergeS done ⟨ra, rb, rc⟩ = done ++ [⟨ra, rb, rc⟩]) := ⟨mergeS_nil hk0⟩
          have e8 : wrap64 ((done.length : Int) - 1) = -1 := by unfold wrap64; omega
          clear hk0 hc1 k1
          go_wp2_with (first | ((with_reducible refine gate_dst (N := 7) rfl ?_); refine bx_ 7 #[.int .i64 0, .int .i64 0, .int .i64 0] 79 ?_; intro gr hg w5 hbox hb; have NOgr := Aside0.mk (show ∀ k, (.slice A1 done.length c1 : Value).ownBlock = some k → k ≠ gr from fun k hk => by rw [hg]; exact Nat.ne_of_lt (Kd.R_lt RO.out k hk)); have GEgr := ge_ hg HB; replace hb := nb_ HB hb; replace RO := Aside0.mk (Kd.R_below RO.out hb); replace HB := bs_ HB hb; have BKgr := Aside0.mk hbox; obtain ⟨Ogr_0, Ogr_1, Ogr_2⟩ := c3_ BKgr; replace x0 := pw_cell_below hb x0; replace x1 := pw_cell_below hb x1; replace x2 := pw_cell_below hb x2; clear hb hbox hg) | ((with_reducible refine gate_store (t := 79) (p := 7) rfl ?_); have hc_ := cf3_ BKgr; refine st3_ ?_; intro w6 hp_; clear hc_; clear Ogr_0 Ogr_1 Ogr_2; replace RO : Aside0 (Kd.R k79 79 w6 w.heap.size (fun _ => True) (.slice A1 done.length c1) done) := ⟨by rw [← hp_.e]; exact row_other3 NOgr.out RO.out⟩; replace BKgr := pp3_ BKgr hp_; replace HB := pb3_ GEgr HB hp_; clear hp_; obtain ⟨Ogr_0, Ogr_1, Ogr_2⟩ := c3_ BKgr; clear x0 x1 x2) | ((with_reducible refine gate_dst (N := 81) rfl ?_); refine litv_list ?hg (N := 81) ?hd (cs := #[.int .i64 ra, .int .i64 rb, .int .i64 rc]) (E := 79) ?hr ?_; (case hd => rfl); (case hg => rfl); (case hr => first | (go_simp; done) | (go_simp; rfl)); intro ga hg wl hbox hb; replace hb := nb_ HB hb; replace RO := Aside0.mk (Kd.R_below RO.out hb); replace HB := bs_ HB hb; clear Ogr_0 Ogr_1 Ogr_2 BKgr; have BKga := Aside0.mk hbox; clear hb hbox hg) | ((with_reducible refine gate_dst (N := 82) rfl ?_); refine app79_list (w := w) ?hg (.tmp 79) (.tmp 81) 23 79 ?ho Try.underlying23 info79 (.slice A1 done.length c1) done ⟨ra, rb, rc⟩ ga ?hs ?hx RO.out BKga.out HB.out HDL.out ?_; (case hg => rfl); (case ho => rfl); (case hs => rfl); (case hx => rfl); intro u9_ wa ho hb hg hat; have n1_ := Aside0.mk hb; have n2_ := Aside0.mk ho; clear HB RO BKga; have HB := n1_; have RO := n2_; clear n1_ n2_ ho hb hg hat))
          go_roundg (gk - 1)
          case measure => have := HI.out.1; have := HIJ.out; omega
          case rel => exact ⟨n + 1, done ++ [⟨ra, rb, rc⟩], by go_num, ⟨by have := HI.out.1; have := HIJ.out; omega, HM1.out HK0.out⟩, RO, HB⟩
        · obtain ⟨K, hK⟩ : ∃ K, done.length = K + 1 := ⟨done.length - 1, by omega⟩
          clear hk0
          obtain ⟨go, c1, rfl, _, _, _⟩ := Kd.R_form RO.out (by omega)
          have e8 : wrap64 ((done.length : Int) - 1) = (K : Int) := by have := HI.out.2.len; rw [wrp_ (by omega) (by omega)]; omega
          have HP : Aside0 ((0 : Int) ≤ (K : Int) ∧ (K : Int) < (done.length : Int)) := ⟨by omega, by omega⟩
          have hp0 : (0 : Int) ≤ (K : Int) := HP.out.1
          have hp1 : (K : Int) < (done.length : Int) := HP.out.2
          have hp2 : K < done.length := by omega
          have HBR := Aside0.mk (HI.out.2.ring _ (rd_mem hp2))
          have HK := Aside0.mk hK
          clear hK
          have HN1 := Aside0.mk (fun h => mergeS_no (r := ⟨ra, rb, rc⟩) HK.out h)
          have HM3 := Aside0.mk (fun h => HM2.out K HK.out h)
          clear HM2
          obtain ⟨bq, hbq⟩ : ∃ b, rd_T79 done (K : Int) = b := ⟨_, rfl⟩
          have HBQ := Aside0.mk hbq
          rw [hbq] at HBR HN1 HM3
          clear hbq
          obtain ⟨ba, bb, bc⟩ := bq
          have HBO := Aside0.mk (ringB_iff.1 HBR.out)
          have hE : (wrap64 (bb * ra) = bb * ra ∧ wrap64 (rb * ba) = rb * ba ∧ wrap64 (bc * ra) = bc * ra ∧ wrap64 (rc * ba) = rc * ba) ∧ wrap64 (ba + ra) = ba + ra ∧ wrap64 (bb + rb) = bb + rb ∧ wrap64 (bc + rc) = bc + rc := by
            have q := HBO.out
            have r := HRQ.out
            simp only at q r
            have m1 := mul_b q.2.2.1 q.2.2.2.1 r.1 r.2.1
            have m2 := mul_b r.2.2.1 r.2.2.2.1 q.1 q.2.1
            have m3 := mul_b q.2.2.2.2.1 q.2.2.2.2.2 r.1 r.2.1
            have m4 := mul_b r.2.2.2.2.1 r.2.2.2.2.2 q.1 q.2.1
            exact ⟨⟨wrp_ (by omega) (by omega), wrp_ (by omega) (by omega), wrp_ (by omega) (by omega), wrp_ (by omega) (by omega)⟩, wrp_ (by omega) (by omega), wrp_ (by omega) (by omega), wrp_ (by omega) (by omega)⟩
          obtain ⟨⟨e1, e2, e3, e4⟩, e5, e6, e7⟩ := hE
          go_upto_region 12 with (first | ((with_reducible refine gate_dst (N := 7) rfl ?_); refine bx_ 7 #[.int .i64 0, .int .i64 0, .int .i64 0] 79 ?_; intro gr hg w5 hbox hb; have NOgr := Aside0.mk (show ∀ k, (.slice (some ⟨go, 0, none⟩) done.length c1 : Value).ownBlock = some k → k ≠ gr from fun k hk => by rw [hg]; exact Nat.ne_of_lt (Kd.R_lt RO.out k hk)); have GEgr := ge_ hg HB; replace hb := nb_ HB hb; replace RO := Aside0.mk (Kd.R_below RO.out hb); replace HB := bs_ HB hb; have BKgr := Aside0.mk hbox; obtain ⟨Ogr_0, Ogr_1, Ogr_2⟩ := c3_ BKgr; replace x0 := pw_cell_below hb x0; replace x1 := pw_cell_below hb x1; replace x2 := pw_cell_below hb x2; clear hb hbox hg) | ((with_reducible refine gate_store (t := 79) (p := 7) rfl ?_); have hc_ := cf3_ BKgr; refine st3_ ?_; intro w6 hp_; clear hc_; clear Ogr_0 Ogr_1 Ogr_2; replace RO : Aside0 (Kd.R k79 79 w6 w.heap.size (fun _ => True) (.slice (some ⟨go, 0, none⟩) done.length c1) done) := ⟨by rw [← hp_.e]; exact row_other3 NOgr.out RO.out⟩; replace BKgr := pp3_ BKgr hp_; replace HB := pb3_ GEgr HB hp_; clear hp_; obtain ⟨Ogr_0, Ogr_1, Ogr_2⟩ := c3_ BKgr; clear x0 x1 x2; obtain ⟨_, e9, y0, y1, y2⟩ := at_T79 (Kd.R_reads' RO.out).2.2 (K : Int) HP.out.1 HP.out.2; cases e9; simp only [Int.toNat_natCast] at y0 y1 y2; rw [HBQ.out] at y0 y1 y2; have z0 := y0; have z1 := y1; have z2 := y2; simp only [add_plain] at z0 z1 z2) | ((with_reducible refine gate_dst (N := 9) rfl ?_); refine bx_ 9 #[.int .i64 0, .int .i64 0, .int .i64 0] 79 ?_; intro gb hg w7 hbox hb; have NOgb := Aside0.mk (show ∀ k, (.slice (some ⟨go, 0, none⟩) done.length c1 : Value).ownBlock = some k → k ≠ gb from fun k hk => by rw [hg]; exact Nat.ne_of_lt (Kd.R_lt RO.out k hk)); have GEgb := ge_ hg HB; have NEgr_gb := ne_ hg BKgr; replace hb := nb_ HB hb; replace BKgr := kb_ BKgr hb; replace RO := Aside0.mk (Kd.R_below RO.out hb); replace HB := bs_ HB hb; have BKgb := Aside0.mk hbox; clear Ogr_0 Ogr_1 Ogr_2; obtain ⟨Ogr_0, Ogr_1, Ogr_2⟩ := c3_ BKgr; obtain ⟨Ogb_0, Ogb_1, Ogb_2⟩ := c3_ BKgb; replace y0 := pw_cell_below hb y0; replace y1 := pw_cell_below hb y1; replace y2 := pw_cell_below hb y2; replace z0 := pw_cell_below hb z0; replace z1 := pw_cell_below hb z1; replace z2 := pw_cell_below hb z2; clear hb hbox hg) | ((with_reducible refine gate_store (t := 79) (p := 9) rfl ?_); have hc_ := cf3_ BKgb; refine st3_ ?_; intro w8 hp_; clear hc_; clear Ogr_0 Ogr_1 Ogr_2; clear Ogb_0 Ogb_1 Ogb_2; replace RO : Aside0 (Kd.R k79 79 w8 w.heap.size (fun _ => True) (.slice (some ⟨go, 0, none⟩) done.length c1) done) := ⟨by rw [← hp_.e]; exact row_other3 NOgb.out RO.out⟩; replace BKgr := pf3_ NEgr_gb BKgr hp_; replace BKgb := pp3_ BKgb hp_; replace HB := pb3_ GEgb HB hp_; clear hp_; obtain ⟨Ogr_0, Ogr_1, Ogr_2⟩ := c3_ BKgr; obtain ⟨Ogb_0, Ogb_1, Ogb_2⟩ := c3_ BKgb; clear y0 y1 y2 z0 z1 z2) | ((with_reducible refine gate_dst (N := 10) rfl ?_); refine bx_ 10 #[.int .i64 0, .int .i64 0, .int .i64 0] 79 ?_; intro gs hg w9 hbox hb; have NOgs := Aside0.mk (show ∀ k, (.slice (some ⟨go, 0, none⟩) done.length c1 : Value).ownBlock = some k → k ≠ gs from fun k hk => by rw [hg]; exact Nat.ne_of_lt (Kd.R_lt RO.out k hk)); have GEgs := ge_ hg HB; have NEgr_gs := ne_ hg BKgr; have NEgb_gs := ne_ hg BKgb; replace hb := nb_ HB hb; replace BKgr := kb_ BKgr hb; replace BKgb := kb_ BKgb hb; replace RO := Aside0.mk (Kd.R_below RO.out hb); replace HB := bs_ HB hb; have BKgs := Aside0.mk hbox; clear Ogr_0 Ogr_1 Ogr_2; clear Ogb_0 Ogb_1 Ogb_2; obtain ⟨Ogr_0, Ogr_1, Ogr_2⟩ := c3_ BKgr; obtain ⟨Ogb_0, Ogb_1, Ogb_2⟩ := c3_ BKgb; obtain ⟨Ogs_0, Ogs_1, Ogs_2⟩ := c3_ BKgs; clear hb hbox hg) | ((with_reducible refine gate_store (t := 79) (p := 10) rfl ?_); have hc_ := cf3_ BKgs; refine st3_ ?_; intro w10 hp_; clear hc_; clear Ogr_0 Ogr_1 Ogr_2; clear Ogb_0 Ogb_1 Ogb_2; clear Ogs_0 Ogs_1 Ogs_2; replace RO : Aside0 (Kd.R k79 79 w10 w.heap.size (fun _ => True) (.slice (some ⟨go, 0, none⟩) done.length c1) done) := ⟨by rw [← hp_.e]; exact row_other3 NOgs.out RO.out⟩; replace BKgr := pf3_ NEgr_gs BKgr hp_; replace BKgb := pf3_ NEgb_gs BKgb hp_; replace BKgs := pp3_ BKgs hp_; replace HB := pb3_ GEgs HB hp_; clear hp_; obtain ⟨Ogr_0, Ogr_1, Ogr_2⟩ := c3_ BKgr; obtain ⟨Ogb_0, Ogb_1, Ogb_2⟩ := c3_ BKgb; obtain ⟨Ogs_0, Ogs_1, Ogs_2⟩ := c3_ BKgs))
          clear e5 e6 e7
          by_cases m1 : bb * ra = rb * ba
          · by_cases m2 : bc * ra = rc * ba
            · have q1 : (bb * ra == rb * ba) = true := beq_iff_eq.2 m1
              have q2 : (bc * ra == rc * ba) = true := beq_iff_eq.2 m2
              cases hr : ringB (sumS ⟨ba, bb, bc⟩ ⟨ra, rb, rc⟩)
              · have HN2 : Aside0 (mergeS done ⟨ra, rb, rc⟩ = done ++ [⟨ra, rb, rc⟩]) := ⟨HN1.out (by unfold mrgB; simp [hr])⟩
                have C1 : Aside0 (∀ W, Calls Try.prog 117 #[.agg #[.int .i64 (ba + ra), .int .i64 (bb + rb), .int .i64 (bc + rc)]] W fun e w' => e = .returned (.bool false) ∧ Below W.heap.size W w') := ⟨fun W => vessel_isRing.calls (ba + ra) (bb + rb) (bc + rc) false W ((isRing_eq (sumS ⟨ba, bb, bc⟩ ⟨ra, rb, rc⟩)).trans (congrArg some hr))⟩
                clear hr
                go_wp2_with fail
                refine (C1.out _).mono ?_
                rintro e wq ⟨rfl, hb⟩
                replace hb := nb_ HB hb
                replace BKgr := kb_ BKgr hb
                replace BKgb := kb_ BKgb hb
                replace BKgs := kb_ BKgs hb
                replace RO := Aside0.mk (Kd.R_below RO.out hb)
                replace HB := bs_ HB hb
                clear hb
                clear Ogr_0 Ogr_1 Ogr_2
                clear Ogb_0 Ogb_1 Ogb_2
                clear Ogs_0 Ogs_1 Ogs_2
                obtain ⟨Ogr_0, Ogr_1, Ogr_2⟩ := c3_ BKgr
                obtain ⟨Ogb_0, Ogb_1, Ogb_2⟩ := c3_ BKgb
                obtain ⟨Ogs_0, Ogs_1, Ogs_2⟩ := c3_ BKgs
                go_wp2_with (first | ((with_reducible refine gate_dst (N := 81) rfl ?_); refine litv_list ?hg (N := 81) ?hd (cs := #[.int .i64 ra, .int .i64 rb, .int .i64 rc]) (E := 79) ?hr ?_; (case hd => rfl); (case hg => rfl); (case hr => first | (go_simp; done) | (go_simp; rfl)); intro ga hg wl hbox hb; replace hb := nb_ HB hb; replace RO := Aside0.mk (Kd.R_below RO.out hb); replace HB := bs_ HB hb; clear Ogr_0 Ogr_1 Ogr_2 BKgr; clear Ogb_0 Ogb_1 Ogb_2 BKgb; clear Ogs_0 Ogs_1 Ogs_2 BKgs; have BKga := Aside0.mk hbox; clear hb hbox hg) | ((with_reducible refine gate_dst (N := 82) rfl ?_); refine app79_list (w := w) ?hg (.tmp 79) (.tmp 81) 23 79 ?ho Try.underlying23 info79 (.slice (some ⟨go, 0, none⟩) done.length c1) done ⟨ra, rb, rc⟩ ga ?hs ?hx RO.out BKga.out HB.out HDL.out ?_; (case hg => rfl); (case ho => rfl); (case hs => rfl); (case hx => rfl); intro u9_ wa ho hb hg hat; have n1_ := Aside0.mk hb; have n2_ := Aside0.mk ho; clear HB RO BKga; have HB := n1_; have RO := n2_; clear n1_ n2_ ho hb hg hat))
                go_roundg (gk - 1)
                case measure => have := HI.out.1; have := HIJ.out; omega
                case rel => exact ⟨n + 1, done ++ [⟨ra, rb, rc⟩], by go_num, ⟨by have := HI.out.1; have := HIJ.out; omega, HM1.out HN2.out⟩, RO, HB⟩
              · have HMM := Aside0.mk (HM3.out (by unfold mrgB; simp [m1, m2, hr]))
                have C1 : Aside0 (∀ W, Calls Try.prog 117 #[.agg #[.int .i64 (ba + ra), .int .i64 (bb + rb), .int .i64 (bc + rc)]] W fun e w' => e = .returned (.bool true) ∧ Below W.heap.size W w') := ⟨fun W => vessel_isRing.calls (ba + ra) (bb + rb) (bc + rc) true W ((isRing_eq (sumS ⟨ba, bb, bc⟩ ⟨ra, rb, rc⟩)).trans (congrArg some hr))⟩
                clear hr
                go_wp2_with fail
                refine (C1.out _).mono ?_
                rintro e wq ⟨rfl, hb⟩
                replace hb := nb_ HB hb
                replace BKgr := kb_ BKgr hb
                replace BKgb := kb_ BKgb hb
                replace BKgs := kb_ BKgs hb
                replace RO := Aside0.mk (Kd.R_below RO.out hb)
                replace HB := bs_ HB hb
                clear hb
                clear Ogr_0 Ogr_1 Ogr_2
                clear Ogb_0 Ogb_1 Ogb_2
                clear Ogs_0 Ogs_1 Ogs_2
                obtain ⟨Ogr_0, Ogr_1, Ogr_2⟩ := c3_ BKgr
                obtain ⟨Ogb_0, Ogb_1, Ogb_2⟩ := c3_ BKgb
                obtain ⟨Ogs_0, Ogs_1, Ogs_2⟩ := c3_ BKgs
                go_wp2_with (first | ((with_reducible refine gate_store (t := 79) (p := 78) rfl ?_); obtain ⟨ce, hcl, hM0, hcc, _⟩ := Kd.R_elem RO.out z79 (K : Int) HP.out.1 HP.out.2; obtain rfl := k79_openM hM0; refine Kd.R_store (α := S79) (g := go) (n := done.length) (cap := c1) (o' := K * 3) k79 (w0 := w) w.heap.size ?hN ?hgd 79 (Operand.tmp 78) (Operand.tmp 77) ?ho 79 (K : Int) 0 done (⟨ba + ra, bb + rb, bc + rc⟩ : S79) (Value.agg #[.int .i64 (ba + ra), .int .i64 (bb + rb), .int .i64 (bc + rc)]) [.int .i64 (ba + ra), .int .i64 (bb + rb), .int .i64 (bc + rc)] _ (fun _ => True) (fun _ => False) ?haddr ?hoff ?hx ?hu ?ht ?h1 RO.out HP.out.1 HP.out.2 hcl hcc ?hj ?hM (fun _ hk => False.elim hk) HB.out ?_; (case hM => exact k79_mkM _ _ _ (⟨ba + ra, bb + rb, bc + rc⟩ : S79)); (case hN => rfl); (case hgd => rfl); (case ho => rfl); (case haddr => rfl); (case hx => rfl); (case hu => rfl); (case ht => rfl); (case hj => exact Nat.le_refl _); (case h1 => (simp [Value.oneCell']; done)); (case hoff => first | rfl | (show _ = (K : Int).toNat * 3 + 0; simp; done) | (simp; done) | (simp; rfl)); intro ws ho hb hg; simp only [Int.toNat_natCast] at ho; clear Ogr_0 Ogr_1 Ogr_2 BKgr; clear Ogb_0 Ogb_1 Ogb_2 BKgb; clear Ogs_0 Ogs_1 Ogs_2 BKgs; clear RO HB hcl hM0 hcc hg; have RO := Aside0.mk ho; have HB := Aside0.mk hb; clear ho hb))
                go_roundg (gk - 1)
                case measure => have := HI.out.1; have := HIJ.out; omega
                case rel => exact ⟨n + 1, done.set K ⟨ba + ra, bb + rb, bc + rc⟩, by go_num, ⟨by have := HI.out.1; have := HIJ.out; omega, HMM.out⟩, RO, HB⟩
            · have q1 : (bb * ra == rb * ba) = true := beq_iff_eq.2 m1
              have q2 : (bc * ra == rc * ba) = false := beq_eq_false_iff_ne.2 m2
              have HN2 : Aside0 (mergeS done ⟨ra, rb, rc⟩ = done ++ [⟨ra, rb, rc⟩]) := ⟨HN1.out (by unfold mrgB; simp [m1, m2])⟩
              clear m1 m2
              go_wp2_with (first | ((with_reducible refine gate_dst (N := 81) rfl ?_); refine litv_list ?hg (N := 81) ?hd (cs := #[.int .i64 ra, .int .i64 rb, .int .i64 rc]) (E := 79) ?hr ?_; (case hd => rfl); (case hg => rfl); (case hr => first | (go_simp; done) | (go_simp; rfl)); intro ga hg wl hbox hb; replace hb := nb_ HB hb; replace RO := Aside0.mk (Kd.R_below RO.out hb); replace HB := bs_ HB hb; clear Ogr_0 Ogr_1 Ogr_2 BKgr; clear Ogb_0 Ogb_1 Ogb_2 BKgb; clear Ogs_0 Ogs_1 Ogs_2 BKgs; have BKga := Aside0.mk hbox; clear hb hbox hg) | ((with_reducible refine gate_dst (N := 82) rfl ?_); refine app79_list (w := w) ?hg (.tmp 79) (.tmp 81) 23 79 ?ho Try.underlying23 info79 (.slice (some ⟨go, 0, none⟩) done.length c1) done ⟨ra, rb, rc⟩ ga ?hs ?hx RO.out BKga.out HB.out HDL.out ?_; (case hg => rfl); (case ho => rfl); (case hs => rfl); (case hx => rfl); intro u9_ wa ho hb hg hat; have n1_ := Aside0.mk hb; have n2_ := Aside0.mk ho; clear HB RO BKga; have HB := n1_; have RO := n2_; clear n1_ n2_ ho hb hg hat))
              go_roundg (gk - 1)
              case measure => have := HI.out.1; have := HIJ.out; omega
              case rel => exact ⟨n + 1, done ++ [⟨ra, rb, rc⟩], by go_num, ⟨by have := HI.out.1; have := HIJ.out; omega, HM1.out HN2.out⟩, RO, HB⟩
          · have q1 : (bb * ra == rb * ba) = false := beq_eq_false_iff_ne.2 m1
            have HN2 : Aside0 (mergeS done ⟨ra, rb, rc⟩ = done ++ [⟨ra, rb, rc⟩]) := ⟨HN1.out (by unfold mrgB; simp [m1])⟩
            clear m1
            go_wp2_with (first | ((with_reducible refine gate_dst (N := 81) rfl ?_); refine litv_list ?hg (N := 81) ?hd (cs := #[.int .i64 ra, .int .i64 rb, .int .i64 rc]) (E := 79) ?hr ?_; (case hd => rfl); (case hg => rfl); (case hr => first | (go_simp; done) | (go_simp; rfl)); intro ga hg wl hbox hb; replace hb := nb_ HB hb; replace RO := Aside0.mk (Kd.R_below RO.out hb); replace HB := bs_ HB hb; clear Ogr_0 Ogr_1 Ogr_2 BKgr; clear Ogb_0 Ogb_1 Ogb_2 BKgb; clear Ogs_0 Ogs_1 Ogs_2 BKgs; have BKga := Aside0.mk hbox; clear hb hbox hg) | ((with_reducible refine gate_dst (N := 82) rfl ?_); refine app79_list (w := w) ?hg (.tmp 79) (.tmp 81) 23 79 ?ho Try.underlying23 info79 (.slice (some ⟨go, 0, none⟩) done.length c1) done ⟨ra, rb, rc⟩ ga ?hs ?hx RO.out BKga.out HB.out HDL.out ?_; (case hg => rfl); (case ho => rfl); (case hs => rfl); (case hx => rfl); intro u9_ wa ho hb hg hat; have n1_ := Aside0.mk hb; have n2_ := Aside0.mk ho; clear HB RO BKga; have HB := n1_; have RO := n2_; clear n1_ n2_ ho hb hg hat))
            go_roundg (gk - 1)
            case measure => have := HI.out.1; have := HIJ.out; omega
            case rel => exact ⟨n + 1, done ++ [⟨ra, rb, rc⟩], by go_num, ⟨by have := HI.out.1; have := HIJ.out; omega, HM1.out HN2.out⟩, RO, HB⟩
      · have hd : decide ((n : Int) < (l0.length : Int)) = false := decide_eq_false (by omega)
        have hd2 : decide (n < l0.length) = false := decide_eq_false hij
        have HF2 : Aside0 (MergedF l0 = (done, 0)) := ⟨by have h := HI.out; have e : l0.length = n := (by omega); rw [HF.out, e, h.2.eq]⟩
        clear hij
        go_wp2
        go_ret2
        rw [HF2.out]
        exact ⟨_, rfl, RO.out, HB.out⟩
end Go.Proofs.Ytlhfclpbodfmcaa.Pr
namespace Go.Proofs.Ytlhfclpbodfmcaa.Pr
open Go.RowKit Go.Proofs.YtlhfclpbodfmcaaW.PrintWords Go.Proofs.YtlhfclpbodfmcaaW.PrintLast Go.Proofs.YtlhfclpbodfmcaaW.PrintMore
open Go.Proofs.Ytlhfclpbodfmcaa.Vm
set_option linter.unusedVariables false
set_option linter.unusedSimpArgs false
attribute [local go_sem] fld79_0 fld79_1 fld79_2
/-- One cell of a block is set. -/
structure Set1 (W W' : World) (g j : Nat) (u : Value) : Prop where
  e : W.setCell ⟨g, j, none⟩ u = W'
theorem sj_ {P : Program} {ops : Array Oper} {oi : Oper} {a : Act} {Q : Exit → Act → World → Prop} {K : Act → World → Prop} {W : World} {g j : Nat} {u : Value} (h : ∀ W', Set1 W W' g j u → K a W') (hw : Region.wanted oi (yielded ops a.tmps) = true := by rfl) (hN : oi.dst = none := by rfl) (hrun : (execOp a.eval oi).run P W = .ok .skip (W.setCell ⟨g, j, none⟩ u) := by first | (go_simp; done) | (go_simp; rfl)) : if Region.wanted oi (yielded ops a.tmps) = true then Oper.wp P oi a W K Q else K (a.put none undef) W := skip_ hw hN hrun (h _ ⟨rfl⟩)
theorem sp0_ {W W' : World} {g t : Nat} {a b c x : Value} (h : Aside0 (W.heap[g]? = some (.cells #[a, b, c] t (0, 0)))) (p : Set1 W W' g 0 x) : Aside0 (W'.heap[g]? = some (.cells #[x, b, c] t (0, 0))) := ⟨by rw [← p.e]; exact blk_put h.out 0 x rfl⟩
theorem sp1_ {W W' : World} {g t : Nat} {a b c x : Value} (h : Aside0 (W.heap[g]? = some (.cells #[a, b, c] t (0, 0)))) (p : Set1 W W' g 1 x) : Aside0 (W'.heap[g]? = some (.cells #[a, x, c] t (0, 0))) := ⟨by rw [← p.e]; exact blk_put h.out 1 x rfl⟩
theorem sp2_ {W W' : World} {g t : Nat} {a b c x : Value} (h : Aside0 (W.heap[g]? = some (.cells #[a, b, c] t (0, 0)))) (p : Set1 W W' g 2 x) : Aside0 (W'.heap[g]? = some (.cells #[a, b, x] t (0, 0))) := ⟨by rw [← p.e]; exact blk_put h.out 2 x rfl⟩
theorem sf_ {W W' : World} {g k j t : Nat} {cs : Array Value} {x : Value} (n : Aside0 (k ≠ g)) (h : Aside0 (W.heap[k]? = some (.cells cs t (0, 0)))) (p : Set1 W W' g j x) : Aside0 (W'.heap[k]? = some (.cells cs t (0, 0))) := ⟨by rw [← p.e]; exact blk_far (p := ⟨g, j, none⟩) h.out n.out x⟩
theorem sb_ {w W W' : World} {g j : Nat} {x : Value} (n : Aside0 (w.heap.size ≤ g)) (h : Aside0 (Below w.heap.size w W)) (p : Set1 W W' g j x) : Aside0 (Below w.heap.size w W') := ⟨by rw [← p.e]; exact below_set h.out n.out⟩
theorem rd79_gt (l : List S79) (i : Nat) (h : i < l.length) : gt (hsO l) i = (rd_T79 l (i : Int)).f0 ∧ gt (vsO l) i = (rd_T79 l (i : Int)).f1 ∧ gt (dsO l) i = (rd_T79 l (i : Int)).f2 := by
  simp [gt, rd_T79, List.getD_eq_getElem?_getD, List.getElem?_eq_getElem h]
theorem take_b {xs : List Int} (h : Pos xs) (i : Nat) : 0 ≤ sm (xs.take i) ∧ sm (xs.take i) ≤ sm xs := ⟨(h.take i).sum, sm_take_le_all h i⟩
def ref_Sums.T5 : Bool × List (List Nat × List Nat) := (true, [([], []), ([0], [0]), ([], []), ([], []), ([2, 3], [2, 3]), ([4], [4]), ([5], [5]), ([1, 6], [1, 6]), ([0, 1, 2, 3, 4, 5, 6, 7], []), ([8, 7, 0, 1, 2, 3, 4, 5, 6, 7], [7, 8])])
def ref_Sums.B5 : List Nat := [0, 1, 0, 0, 12, 28, 60, 127, 255, 511]
theorem ref_Sums.tab5 : rtab .any (opsOf Try.f91 5) = ref_Sums.T5 := by kernel_rfl
theorem ref_Sums.bits5 : waitsOk ref_Sums.T5.2 ref_Sums.B5 = true := by kernel_rfl
def ref_Sums.T6 : Bool × List (List Nat × List Nat) := (true, [([], []), ([0], [0]), ([], []), ([], []), ([2, 3], [2, 3]), ([4], [4]), ([5], [5]), ([1, 6], [1, 6]), ([0, 1, 2, 3, 4, 5, 6, 7], []), ([8, 7, 0, 1, 2, 3, 4, 5, 6, 7], [7, 8])])
def ref_Sums.B6 : List Nat := [0, 1, 0, 0, 12, 28, 60, 127, 255, 511]
theorem ref_Sums.tab6 : rtab .any (opsOf Try.f91 6) = ref_Sums.T6 := by kernel_rfl
theorem ref_Sums.bits6 : waitsOk ref_Sums.T6.2 ref_Sums.B6 = true := by kernel_rfl
def ref_Sums.T7 : Bool × List (List Nat × List Nat) := (true, [([], []), ([0], [0]), ([], []), ([], []), ([2, 3], [2, 3]), ([4], [4]), ([5], [5]), ([1, 6], [1, 6]), ([0, 1, 2, 3, 4, 5, 6, 7], []), ([8, 7, 0, 1, 2, 3, 4, 5, 6, 7], [7, 8])])
def ref_Sums.B7 : List Nat := [0, 1, 0, 0, 12, 28, 60, 127, 255, 511]
theorem ref_Sums.tab7 : rtab .any (opsOf Try.f91 7) = ref_Sums.T7 := by kernel_rfl
theorem ref_Sums.bits7 : waitsOk ref_Sums.T7.2 ref_Sums.B7 = true := by kernel_rfl
set_option maxHeartbeats 1600000 in
set_option maxRecDepth 100000 in
theorem ref_Sums.calls (A0 : Option Addr) (c0 : Nat) (l0 : List S79) (i : Nat) (w : World) (hr0 : Kd.C k79 w A0 l0.length l0) (hG : GV (hsO l0) (vsO l0) (dsO l0)) (hi : i ≤ l0.length) : Calls Try.prog 91 #[.slice A0 l0.length c0, .int .i64 (i : Int)] w fun e w' => e = .returned (.agg #[.int .i64 (sm ((hsO l0).take i)), .int .i64 (sm ((vsO l0).take i)), .int .i64 (sm ((dsO l0).take i))]) ∧ Below w.heap.size w w' := by
  have hu79 := Try.underlying79
  have HB := Aside0.mk (Below.refl w.heap.size w)
  have HR0 := Aside0.mk hr0
  have HG := Aside0.mk hG
  have HI0 := Aside0.mk hi
  clear hr0 hG hi
  go_enter Try.func91, Try.ntmps91
  go_wp2_with (first | ((with_reducible refine gate_dst (N := 4) rfl ?_); refine bx_ 4 #[.int .i64 0, .int .i64 0, .int .i64 0] 79 ?_; intro gr hg w1 hbox hb; have GEgr := ge_ hg HB; replace hb := nb_ HB hb; replace HB := bs_ HB hb; have BKgr := Aside0.mk hbox; clear hb hbox hg) | ((with_reducible refine gate_dst (N := 5) rfl ?_); refine bx_ 5 #[.int .i64 0, .int .i64 0, .int .i64 0] 79 ?_; intro gs hg w2 hbox hb; have GEgs := ge_ hg HB; have NEgr_gs := ne_ hg BKgr; replace hb := nb_ HB hb; replace BKgr := kb_ BKgr hb; replace HB := bs_ HB hb; have BKgs := Aside0.mk hbox; clear hb hbox hg))
  go_loopg [6] i (fun kq v6 w' => ∃ j : Nat, v6 = .int .i64 (j : Int) ∧ Aside0 (j ≤ i ∧ i - j ≤ kq) ∧ Aside0 (w'.heap[gr]? = some (.cells #[.int .i64 0, .int .i64 0, .int .i64 0] 79 (0, 0))) ∧ Aside0 (w'.heap[gs]? = some (.cells #[.int .i64 (sm ((hsO l0).take j)), .int .i64 (sm ((vsO l0).take j)), .int .i64 (sm ((dsO l0).take j))] 79 (0, 0))) ∧ Aside0 (Below w.heap.size w w'))
  case atStart => exact ⟨0, rfl, ⟨Nat.zero_le _, by omega⟩, BKgr, BKgs, HB⟩
  case round =>
    clear BKgr BKgs HB
    obtain ⟨j, rfl, HJ, BKgr, BKgs, HB⟩ := hrel
    by_cases hj : j < i
    · have hd : decide ((j : Int) < (i : Int)) = true := decide_eq_true (by omega)
      have hd2 : decide (j < i) = true := decide_eq_true hj
      have hjl : j < l0.length := by have := HI0.out; omega
      have hi0 : (0 : Int) ≤ (j : Int) := by omega
      have hi1 : (j : Int) < (l0.length : Int) := by omega
      obtain ⟨ad, q_, x0_, x1_, x2_⟩ := at_T79 HR0.out (j : Int) hi0 hi1
      subst q_
      simp only [Int.toNat_natCast] at x0_ x1_ x2_
      have X0 := Aside0.mk x0_
      have X1 := Aside0.mk x1_
      have X2 := Aside0.mk x2_
      clear x0_ x1_ x2_
      obtain ⟨e0, e1, e2⟩ := rd79_gt l0 j hjl
      have hS := HG.out.sums
      have hln : l0.length ≤ 24 := by have := HG.out.h.ln; simpa using this
      have E0 : Aside0 (wrap64 (sm ((hsO l0).take j) + (rd_T79 l0 (j : Int)).f0) = sm ((hsO l0).take (j + 1))) := ⟨by
        have s1 := sm_take_succ (hsO l0) j (by simpa using hjl)
        have b1 := take_b HG.out.h.pos (j + 1)
        rw [e0] at s1
        rw [← s1, wrp_ (by omega) (by omega)]⟩
      have E1 : Aside0 (wrap64 (sm ((vsO l0).take j) + (rd_T79 l0 (j : Int)).f1) = sm ((vsO l0).take (j + 1))) := ⟨by
        have s1 := sm_take_succ (vsO l0) j (by simpa using hjl)
        have b1 := take_b HG.out.v.pos (j + 1)
        rw [e1] at s1
        rw [← s1, wrp_ (by omega) (by omega)]⟩
      have E2 : Aside0 (wrap64 (sm ((dsO l0).take j) + (rd_T79 l0 (j : Int)).f2) = sm ((dsO l0).take (j + 1))) := ⟨by
        have s1 := sm_take_succ (dsO l0) j (by simpa using hjl)
        have b1 := take_b HG.out.d.pos (j + 1)
        rw [e2] at s1
        rw [← s1, wrp_ (by omega) (by omega)]⟩
      have EW : Aside0 (wrap64 ((j : Int) + 1) = ((j + 1 : Nat) : Int)) := ⟨by rw [wrp_ (by omega) (by omega)]; rfl⟩
      clear e0 e1 e2 hS hln
      go_wp2
      replace BKgr := kd_ BKgr
      replace BKgs := kd_ BKgs
      replace HB := bd_ HB
      refine sM_ [9] (fun w' => (w'.cell? ⟨gs, 0, none⟩ = some (.int .i64 (sm ((hsO l0).take j))) ∧ w'.cell? ⟨gs, 1, none⟩ = some (.int .i64 (sm ((vsO l0).take j))) ∧ w'.cell? ⟨gs, 2, none⟩ = some (.int .i64 (sm ((dsO l0).take j)))) ∧ w'.cell? (ad.add (j * 3)) = some (.int .i64 (rd_T79 l0 (j : Int)).f0)) ref_Sums.tab5 ref_Sums.bits5 ⟨c3_ BKgs, pw_cell_below HB.out X0.out⟩ (fun hHeld HT_ HW_ => ?_)
      generalize wr.drew = x0 at BKgr BKgs HB hHeld ⊢
      refine pM_ HT_ 0 12 1 ?_
      refine pM_ HT_ 2 14 5 ?_
      refine pM_ HT_ 3 15 13 ?_
      refine pM_ HT_ 4 16 29 ?_
      refine pM_ HT_ 5 17 61 ?_
      refine tM_ HT_ HW_ hHeld 1 13 63 ?_
      refine tM_ HT_ HW_ hHeld 6 18 127 ?_
      refine pM_ HT_ 7 19 255 ?_
      refine pM_ HT_ 8 20 511 ?_
      refine lM_ HT_ 9 none 1023 (fun K hK => ?_)
      have hc_ := cf3_ BKgs
      refine sj_ (g := gs) (j := 0) ?_
      intro y0 hp_
      clear hc_
      refine hK.out _ _ ?_
      clear hK K
      refine dM_ HT_ ?_
      replace BKgr := sf_ NEgr_gs BKgr hp_
      replace BKgs := sp0_ BKgs hp_
      replace HB := sb_ GEgs HB hp_
      clear hp_
      rw [E0.out] at BKgs
      go_wp2
      replace BKgr := kd_ BKgr
      replace BKgs := kd_ BKgs
      replace HB := bd_ HB
      refine sM_ [9] (fun w' => (w'.cell? ⟨gs, 0, none⟩ = some (.int .i64 (sm ((hsO l0).take (j + 1)))) ∧ w'.cell? ⟨gs, 1, none⟩ = some (.int .i64 (sm ((vsO l0).take j))) ∧ w'.cell? ⟨gs, 2, none⟩ = some (.int .i64 (sm ((dsO l0).take j)))) ∧ w'.cell? ⟨(ad.add (j * 3)).block, (ad.add (j * 3)).off + 1, none⟩ = some (.int .i64 (rd_T79 l0 (j : Int)).f1)) ref_Sums.tab6 ref_Sums.bits6 ⟨c3_ BKgs, pw_cell_below HB.out X1.out⟩ (fun hHeld HT_ HW_ => ?_)
      generalize y0.drew = x1 at BKgr BKgs HB hHeld ⊢
      refine pM_ HT_ 0 21 1 ?_
      refine pM_ HT_ 2 23 5 ?_
      refine pM_ HT_ 3 24 13 ?_
      refine pM_ HT_ 4 25 29 ?_
      refine pM_ HT_ 5 26 61 ?_
      refine tM_ HT_ HW_ hHeld 1 22 63 ?_
      refine tM_ HT_ HW_ hHeld 6 27 127 ?_
      refine pM_ HT_ 7 28 255 ?_
      refine pM_ HT_ 8 29 511 ?_
      refine lM_ HT_ 9 none 1023 (fun K hK => ?_)
      have hc_ := cf3_ BKgs
      refine sj_ (g := gs) (j := 1) ?_
      intro y1 hp_
      clear hc_
      refine hK.out _ _ ?_
      clear hK K
      refine dM_ HT_ ?_
      replace BKgr := sf_ NEgr_gs BKgr hp_
      replace BKgs := sp1_ BKgs hp_
      replace HB := sb_ GEgs HB hp_
      clear hp_
      rw [E1.out] at BKgs
      go_wp2
      replace BKgr := kd_ BKgr
      replace BKgs := kd_ BKgs
      replace HB := bd_ HB
      refine sM_ [9] (fun w' => (w'.cell? ⟨gs, 0, none⟩ = some (.int .i64 (sm ((hsO l0).take (j + 1)))) ∧ w'.cell? ⟨gs, 1, none⟩ = some (.int .i64 (sm ((vsO l0).take (j + 1)))) ∧ w'.cell? ⟨gs, 2, none⟩ = some (.int .i64 (sm ((dsO l0).take j)))) ∧ w'.cell? ⟨(ad.add (j * 3)).block, (ad.add (j * 3)).off + 2, none⟩ = some (.int .i64 (rd_T79 l0 (j : Int)).f2)) ref_Sums.tab7 ref_Sums.bits7 ⟨c3_ BKgs, pw_cell_below HB.out X2.out⟩ (fun hHeld HT_ HW_ => ?_)
      generalize y1.drew = x2 at BKgr BKgs HB hHeld ⊢
      refine pM_ HT_ 0 30 1 ?_
      refine pM_ HT_ 2 32 5 ?_
      refine pM_ HT_ 3 33 13 ?_
      refine pM_ HT_ 4 34 29 ?_
      refine pM_ HT_ 5 35 61 ?_
      refine tM_ HT_ HW_ hHeld 1 31 63 ?_
      refine tM_ HT_ HW_ hHeld 6 36 127 ?_
      refine pM_ HT_ 7 37 255 ?_
      refine pM_ HT_ 8 38 511 ?_
      refine lM_ HT_ 9 none 1023 (fun K hK => ?_)
      have hc_ := cf3_ BKgs
      refine sj_ (g := gs) (j := 2) ?_
      intro y2 hp_
      clear hc_
      refine hK.out _ _ ?_
      clear hK K
      refine dM_ HT_ ?_
      replace BKgr := sf_ NEgr_gs BKgr hp_
      replace BKgs := sp2_ BKgs hp_
      replace HB := sb_ GEgs HB hp_
      clear hp_
      rw [E2.out] at BKgs
      go_wp2
      go_roundg (gk - 1)
      case measure => have := HJ.out; omega
      case rel => exact ⟨j + 1, by rw [EW.out], ⟨by omega, by have := HJ.out; omega⟩, BKgr, BKgs, HB⟩
    · have hd : decide ((j : Int) < (i : Int)) = false := decide_eq_false (by omega)
      have hd2 : decide (j < i) = false := decide_eq_false hj
      have HJI : Aside0 (j = i) := ⟨by have := HJ.out; omega⟩
      obtain ⟨Ogs_0, Ogs_1, Ogs_2⟩ := c3_ BKgs
      go_wp2_with (first | ((with_reducible refine gate_store (t := 79) (p := 4) rfl ?_); have hc_ := cf3_ BKgr; refine st3_ ?_; intro w3 hp_; clear hc_; clear Ogs_0 Ogs_1 Ogs_2; replace BKgr := pp3_ BKgr hp_; replace BKgs := pf3r_ NEgr_gs BKgs hp_; replace HB := pb3_ GEgr HB hp_; clear hp_; obtain ⟨Ogs_0, Ogs_1, Ogs_2⟩ := c3_ BKgs))
      try go_wp2
      refine bodyPost_ret (results_cell_row rfl _ _ gr 79 #[.int .i64 (sm ((hsO l0).take j)), .int .i64 (sm ((vsO l0).take j)), .int .i64 (sm ((dsO l0).take j))] (0, 0) _ rfl BKgr.out Try.underlying79 rfl (by kernel_rfl)) rfl ?_
      exact ⟨by rw [HJI.out], HB.out⟩
end Go.Proofs.Ytlhfclpbodfmcaa.Pr
namespace Go.Proofs.Ytlhfclpbodfmcaa.Pr
open Go.RowKit Go.Proofs.YtlhfclpbodfmcaaW.PrintWords Go.Proofs.YtlhfclpbodfmcaaW.PrintLast Go.Proofs.YtlhfclpbodfmcaaW.PrintMore
open Go.Proofs.Ytlhfclpbodfmcaa.Vm
set_option linter.unusedVariables false
set_option linter.unusedSimpArgs false
attribute [local go_sem] fld79_0 fld79_1 fld79_2
set_option maxHeartbeats 1600000 in
set_option maxRecDepth 100000 in
theorem ref_high.calls (A0 : Option Addr) (c0 : Nat) (l0 : List S79) (w : World) (hr0 : Kd.C k79 w A0 l0.length l0) (hG : GV (hsO l0) (vsO l0) (dsO l0)) : Calls Try.prog 103 #[.slice A0 l0.length c0] w fun e w' => e = .returned (.int .i64 (sm (hsO l0))) ∧ Below w.heap.size w w' := by
  have HR0 := Aside0.mk hr0
  have HG := Aside0.mk hG
  clear hr0 hG
  have HB := Aside0.mk (Below.refl w.heap.size w)
  have HE : Aside0 (sm ((hsO l0).take l0.length) = sm (hsO l0)) := ⟨by rw [List.take_of_length_le (by simp)]⟩
  have C1 : Aside0 (∀ W, Below w.heap.size w W → Calls Try.prog 91 #[.slice A0 l0.length c0, .int .i64 (l0.length : Int)] W fun e w' => e = .returned (.agg #[.int .i64 (sm ((hsO l0).take l0.length)), .int .i64 (sm ((vsO l0).take l0.length)), .int .i64 (sm ((dsO l0).take l0.length))]) ∧ Below W.heap.size W w') := ⟨fun W hB => ref_Sums.calls A0 c0 l0 l0.length W (Kd.C_below HR0.out hB) HG.out (Nat.le_refl _)⟩
  go_enter Try.func103, Try.ntmps103
  go_wp2_with fail
  refine (C1.out _ HB.out).mono ?_
  rintro e w1 ⟨rfl, hb⟩
  replace HB := bs_ HB hb
  clear hb
  go_wp2
  go_ret
  exact ⟨by first | rfl | (rw [HE.out]; done) | (rw [HE.out]; rfl), HB.out⟩
end Go.Proofs.Ytlhfclpbodfmcaa.Pr
namespace Go.Proofs.Ytlhfclpbodfmcaa.Pr
open Go.RowKit Go.Proofs.YtlhfclpbodfmcaaW.PrintWords Go.Proofs.YtlhfclpbodfmcaaW.PrintLast Go.Proofs.YtlhfclpbodfmcaaW.PrintMore
open Go.Proofs.Ytlhfclpbodfmcaa.Vm
set_option linter.unusedVariables false
set_option linter.unusedSimpArgs false
attribute [local go_sem] fld79_0 fld79_1 fld79_2
def ref_Check.T6 : Bool × List (List Nat × List Nat) := (true, [([], []), ([], []), ([0, 1], [0, 1]), ([2], [2]), ([3], [3]), ([4], [4]), ([5, 4], [5]), ([6], [6]), ([7, 6], [6, 7]), ([8, 6, 6], [6, 8]), ([9], [9]), ([9], [9]), ([10, 11, 9], [9, 10, 11]), ([12, 9], [9, 12]), ([13, 9], [9, 13]), ([9], [9]), ([9], [9]), ([16, 9], [9, 16]), ([15, 17, 9], [9, 15, 17]), ([18, 9], [9, 18]), ([19, 9], [9, 19]), ([14, 20, 9], [9, 14, 20]), ([9], [9]), ([9], [9]), ([23, 9], [9, 23]), ([22, 24, 9], [9, 22, 24]), ([25, 9], [9, 25]), ([26, 9], [9, 26]), ([9], [9]), ([9], [9]), ([28, 29, 9], [9, 28, 29]), ([30, 9], [9, 30]), ([31, 9], [9, 31]), ([27, 32, 9], [9, 27, 32]), ([21, 33, 9], [9, 21, 33]), ([9, 34, 6], [6, 9, 34]), ([6, 35], [6, 35])])
def ref_Check.B6 : List Nat := [0, 0, 3, 7, 15, 31, 63, 127, 255, 511, 1023, 1023, 4095, 8191, 16383, 1023, 1023, 66559, 230399, 492543, 1016831, 2097151, 1023, 1023, 8389631, 29361151, 62915583, 130024447, 1023, 1023, 805307391, 1879049215, 4026532863, 8585741311, 17179869183, 34359738367, 68719476735]
theorem ref_Check.tab6 : rtab .any (opsOf Try.f53 6) = ref_Check.T6 := by kernel_rfl
theorem ref_Check.bits6 : waitsOk ref_Check.T6.2 ref_Check.B6 = true := by kernel_rfl
set_option maxHeartbeats 1600000 in
set_option maxRecDepth 100000 in
theorem ref_Check.calls (A0 : Option Addr) (c0 : Nat) (l0 : List S79) (w : World) (hr0 : Kd.C k79 w A0 l0.length l0) : Calls Try.prog 53 #[.slice A0 l0.length c0] w fun e w' => e = .returned (.int .i64 (checkF l0)) ∧ Below w.heap.size w w' := by
  have hu79 := Try.underlying79
  have HR0 := Aside0.mk hr0
  have HB := Aside0.mk (Below.refl w.heap.size w)
  clear hr0
  by_cases hL : 1 ≤ l0.length ∧ l0.length ≤ 24
  · have HE : Aside0 (checkF l0 = if chainB l0 then 0 else 20) := ⟨by unfold checkF validB; rw [decide_eq_true hL, Bool.true_and]⟩
    have HL := Aside0.mk hL
    have q1 : decide ((l0.length : Int) < 1) = false := decide_eq_false (by omega)
    have q2 : decide (24 < (l0.length : Int)) = false := decide_eq_false (by omega)
    have q3 : decide (24 < l0.length) = false := decide_eq_false (by omega)
    have q5 : ¬ l0.length = 0 := by omega
    clear hL
    go_enter Try.func53, Try.ntmps53
    go_wp2
    go_loopg [3] l0.length (fun kq v3 w' => ∃ j : Nat, v3 = .int .i64 (j : Int) ∧ Aside0 (j ≤ l0.length ∧ l0.length - j ≤ kq ∧ (j = 0 ∨ ringB (rd_T79 l0 ((j - 1 : Nat) : Int)) = true) ∧ chainB l0 = chainB (l0.drop (j - 1))) ∧ Aside0 (Below w.heap.size w w'))
    case atStart => exact ⟨0, rfl, ⟨Nat.zero_le _, by omega, .inl rfl, rfl⟩, HB⟩
    case round =>
      clear HB q1 q2 q3 q5
      obtain ⟨j, rfl, HJ, HB⟩ := hrel
      by_cases hj : j < l0.length
      · have hd : decide ((j : Int) < (l0.length : Int)) = true := decide_eq_true (by omega)
        have hd2 : decide (j < l0.length) = true := decide_eq_true hj
        have HJL := Aside0.mk hj
        have hi0 : (0 : Int) ≤ (j : Int) := by omega
        have hi1 : (j : Int) < (l0.length : Int) := by omega
        obtain ⟨ad, q_, x0_, x1_, x2_⟩ := at_T79 HR0.out (j : Int) hi0 hi1
        subst q_
        simp only [Int.toNat_natCast] at x0_ x1_ x2_
        have X0 := Aside0.mk x0_
        have X1 := Aside0.mk x1_
        have X2 := Aside0.mk x2_
        clear x0_ x1_ x2_
        have EW : Aside0 (wrap64 ((j : Int) + 1) = ((j + 1 : Nat) : Int)) := ⟨by have := HL.out; rw [wrp_ (by omega) (by omega)]; rfl⟩
        clear hj
        cases hr : ringB (rd_T79 l0 (j : Int))
        · have C1 : Aside0 (∀ W, Calls Try.prog 119 #[.agg #[.int .i64 (rd_T79 l0 (j : Int)).f0, .int .i64 (rd_T79 l0 (j : Int)).f1, .int .i64 (rd_T79 l0 (j : Int)).f2]] W fun e w' => e = .returned (.bool false) ∧ Below W.heap.size W w') := ⟨fun W => hr ▸ ref_isRing.calls (rd_T79 l0 (j : Int)) W⟩
          have HX : Aside0 (chainB l0 = false) := ⟨by
            have h := HJ.out
            have hj := HJL.out
            rw [h.2.2.2]
            rcases Nat.eq_zero_or_pos j with h0 | h0
            · subst h0
              by_cases he : 1 = l0.length
              · rw [show 0 - 1 = 0 from rfl, chain_last l0 0 (by omega)]; exact hr
              · rw [show 0 - 1 = 0 from rfl, chain_step l0 0 (by omega), show ringB (rd_T79 l0 ((0 : Nat) : Int)) = false from hr]; rfl
            · rw [test_step l0 j hj h0 (h.2.2.1.resolve_left (by omega)), hr]; rfl⟩
          clear hr
          go_wp2
          replace HB := bd_ HB
          refine sM_ [] (fun w' => w'.cell? (ad.add (j * 3)) = some (.int .i64 (rd_T79 l0 (j : Int)).f0) ∧ w'.cell? ⟨(ad.add (j * 3)).block, (ad.add (j * 3)).off + 1, none⟩ = some (.int .i64 (rd_T79 l0 (j : Int)).f1) ∧ w'.cell? ⟨(ad.add (j * 3)).block, (ad.add (j * 3)).off + 2, none⟩ = some (.int .i64 (rd_T79 l0 (j : Int)).f2)) ref_Check.tab6 ref_Check.bits6 ⟨pw_cell_below HB.out X0.out, pw_cell_below HB.out X1.out, pw_cell_below HB.out X2.out⟩ (fun hHeld HT_ HW_ => ?_)
          generalize wr.drew = w3 at HB hHeld ⊢
          refine pM_ HT_ 0 18 1 ?_
          refine pM_ HT_ 1 19 3 ?_
          refine pM_ HT_ 2 20 7 ?_
          refine tM_ HT_ HW_ hHeld 3 21 15 ?_
          refine oM_ HT_ 4 (some 22) 31 (fun K hK => ?_)
          refine gM_ Try.func119 (C1.out _) ?_
          rintro e w4 ⟨rfl, hb⟩
          refine ⟨.bool _, rfl, ?_⟩
          replace hb := nb_ HB hb
          replace HB := bs_ HB hb
          (try clear hb)
          refine hK.out _ _ ⟨pw_cell_below HB.out X0.out, pw_cell_below HB.out X1.out, pw_cell_below HB.out X2.out⟩ (fun hHeld => ?_)
          clear hK K
          refine nM_ ?_
          refine pM_ HT_ 5 23 63 ?_
          refine pM_ HT_ 6 24 127 ?_
          refine pU_ HT_ 7 (some 25) 255 ?_
          refine pU_ HT_ 8 (some 26) 511 ?_
          refine pU_ HT_ 9 (some 27) 1023 ?_
          refine pU_ HT_ 10 (some 28) 2047 ?_
          refine pU_ HT_ 11 (some 29) 4095 ?_
          refine pU_ HT_ 12 (some 30) 8191 ?_
          refine pU_ HT_ 13 (some 31) 16383 ?_
          refine pU_ HT_ 14 (some 32) 32767 ?_
          refine pU_ HT_ 15 (some 33) 65535 ?_
          refine pU_ HT_ 16 (some 34) 131071 ?_
          refine pU_ HT_ 17 (some 35) 262143 ?_
          refine pU_ HT_ 18 (some 36) 524287 ?_
          refine pU_ HT_ 19 (some 37) 1048575 ?_
          refine pU_ HT_ 20 (some 38) 2097151 ?_
          refine pU_ HT_ 21 (some 39) 4194303 ?_
          refine pU_ HT_ 22 (some 40) 8388607 ?_
          refine pU_ HT_ 23 (some 41) 16777215 ?_
          refine pU_ HT_ 24 (some 42) 33554431 ?_
          refine pU_ HT_ 25 (some 43) 67108863 ?_
          refine pU_ HT_ 26 (some 44) 134217727 ?_
          refine pU_ HT_ 27 (some 45) 268435455 ?_
          refine pU_ HT_ 28 (some 46) 536870911 ?_
          refine pU_ HT_ 29 (some 47) 1073741823 ?_
          refine pU_ HT_ 30 (some 48) 2147483647 ?_
          refine pU_ HT_ 31 (some 49) 4294967295 ?_
          refine pU_ HT_ 32 (some 50) 8589934591 ?_
          refine pU_ HT_ 33 (some 51) 17179869183 ?_
          refine pU_ HT_ 34 (some 52) 34359738367 ?_
          refine pU_ HT_ 35 (some 53) 68719476735 ?_
          refine pM_ HT_ 36 54 137438953471 ?_
          refine dM_ HT_ ?_
          go_wp2
          go_ret
          exact ⟨by rw [HE.out, HX.out]; rfl, HB.out⟩
        · have HRJ := Aside0.mk hr
          have C1 : Aside0 (∀ W, Calls Try.prog 119 #[.agg #[.int .i64 (rd_T79 l0 (j : Int)).f0, .int .i64 (rd_T79 l0 (j : Int)).f1, .int .i64 (rd_T79 l0 (j : Int)).f2]] W fun e w' => e = .returned (.bool true) ∧ Below W.heap.size W w') := ⟨fun W => hr ▸ ref_isRing.calls (rd_T79 l0 (j : Int)) W⟩
          clear hr
          rcases Nat.eq_zero_or_pos j with h0 | h0
          · have h1 : decide (0 < (j : Int)) = false := decide_eq_false (by omega)
            have h2 : decide (0 < j) = false := decide_eq_false (by omega)
            have HX : Aside0 (chainB l0 = chainB (l0.drop (j + 1 - 1))) := ⟨by rw [HJ.out.2.2.2, h0]⟩
            clear h0
            go_wp2
            replace HB := bd_ HB
            refine sM_ [] (fun w' => w'.cell? (ad.add (j * 3)) = some (.int .i64 (rd_T79 l0 (j : Int)).f0) ∧ w'.cell? ⟨(ad.add (j * 3)).block, (ad.add (j * 3)).off + 1, none⟩ = some (.int .i64 (rd_T79 l0 (j : Int)).f1) ∧ w'.cell? ⟨(ad.add (j * 3)).block, (ad.add (j * 3)).off + 2, none⟩ = some (.int .i64 (rd_T79 l0 (j : Int)).f2)) ref_Check.tab6 ref_Check.bits6 ⟨pw_cell_below HB.out X0.out, pw_cell_below HB.out X1.out, pw_cell_below HB.out X2.out⟩ (fun hHeld HT_ HW_ => ?_)
            generalize wr.drew = w3 at HB hHeld ⊢
            refine pM_ HT_ 0 18 1 ?_
            refine pM_ HT_ 1 19 3 ?_
            refine pM_ HT_ 2 20 7 ?_
            refine tM_ HT_ HW_ hHeld 3 21 15 ?_
            refine oM_ HT_ 4 (some 22) 31 (fun K hK => ?_)
            refine gM_ Try.func119 (C1.out _) ?_
            rintro e w4 ⟨rfl, hb⟩
            refine ⟨.bool _, rfl, ?_⟩
            replace hb := nb_ HB hb
            replace HB := bs_ HB hb
            (try clear hb)
            refine hK.out _ _ ⟨pw_cell_below HB.out X0.out, pw_cell_below HB.out X1.out, pw_cell_below HB.out X2.out⟩ (fun hHeld => ?_)
            clear hK K
            refine nM_ ?_
            refine pM_ HT_ 5 23 63 ?_
            refine pM_ HT_ 6 24 127 ?_
            refine pM_ HT_ 7 25 255 ?_
            refine pM_ HT_ 8 26 511 ?_
            refine pM_ HT_ 9 27 1023 ?_
            refine pU_ HT_ 10 (some 28) 2047 ?_
            refine pU_ HT_ 11 (some 29) 4095 ?_
            refine pU_ HT_ 12 (some 30) 8191 ?_
            refine pU_ HT_ 13 (some 31) 16383 ?_
            refine pU_ HT_ 14 (some 32) 32767 ?_
            refine pU_ HT_ 15 (some 33) 65535 ?_
            refine pU_ HT_ 16 (some 34) 131071 ?_
            refine pU_ HT_ 17 (some 35) 262143 ?_
            refine pU_ HT_ 18 (some 36) 524287 ?_
            refine pU_ HT_ 19 (some 37) 1048575 ?_
            refine pU_ HT_ 20 (some 38) 2097151 ?_
            refine pU_ HT_ 21 (some 39) 4194303 ?_
            refine pU_ HT_ 22 (some 40) 8388607 ?_
            refine pU_ HT_ 23 (some 41) 16777215 ?_
            refine pU_ HT_ 24 (some 42) 33554431 ?_
            refine pU_ HT_ 25 (some 43) 67108863 ?_
            refine pU_ HT_ 26 (some 44) 134217727 ?_
            refine pU_ HT_ 27 (some 45) 268435455 ?_
            refine pU_ HT_ 28 (some 46) 536870911 ?_
            refine pU_ HT_ 29 (some 47) 1073741823 ?_
            refine pU_ HT_ 30 (some 48) 2147483647 ?_
            refine pU_ HT_ 31 (some 49) 4294967295 ?_
            refine pU_ HT_ 32 (some 50) 8589934591 ?_
            refine pU_ HT_ 33 (some 51) 17179869183 ?_
            refine pU_ HT_ 34 (some 52) 34359738367 ?_
            refine pM_ HT_ 35 53 68719476735 ?_
            refine pM_ HT_ 36 54 137438953471 ?_
            refine dM_ HT_ ?_
            go_wp2
            go_roundg (gk - 1)
            case measure => have := HJ.out; have := HJL.out; omega
            case rel => exact ⟨j + 1, by rw [EW.out], ⟨by have := HJL.out; omega, by have := HJ.out; omega, .inr HRJ.out, HX.out⟩, HB⟩
          · obtain ⟨q, hq⟩ : ∃ q : Nat, q + 1 = j := ⟨j - 1, by omega⟩
            have h1 : decide (0 < (j : Int)) = true := decide_eq_true (by omega)
            have h2 : decide (0 < j) = true := decide_eq_true h0
            have hqj : wrap64 ((j : Int) - 1) = (q : Int) := by have := HL.out; have := HJL.out; rw [wrp_ (by omega) (by omega)]; omega
            have hql : q < l0.length := by have := HJL.out; omega
            have HQ : Aside0 (q + 1 = j) := ⟨hq⟩
            have HQR : Aside0 (ringB (rd_T79 l0 (q : Int)) = true) := ⟨by have h := HJ.out.2.2.1.resolve_left (by omega); rwa [show j - 1 = q by omega] at h⟩
            have gi0 : (0 : Int) ≤ (q : Int) := by omega
            have gi1 : (q : Int) < (l0.length : Int) := by omega
            obtain ⟨ad2, q_, x0_, x1_, x2_⟩ := at_T79 HR0.out (q : Int) gi0 gi1
            obtain rfl : ad = ad2 := Option.some.inj q_
            simp only [Int.toNat_natCast] at x0_ x1_ x2_
            have Y1 := Aside0.mk x1_
            have Y2 := Aside0.mk x2_
            clear x0_ x1_ x2_ q_ hq h0
            have HM : Aside0 (wrap64 ((rd_T79 l0 (j : Int)).f1 * (rd_T79 l0 (q : Int)).f2) = (rd_T79 l0 (j : Int)).f1 * (rd_T79 l0 (q : Int)).f2 ∧ wrap64 ((rd_T79 l0 (q : Int)).f1 * (rd_T79 l0 (j : Int)).f2) = (rd_T79 l0 (q : Int)).f1 * (rd_T79 l0 (j : Int)).f2) := ⟨by
              have r1 := ringB_iff.1 HRJ.out
              have r2 := ringB_iff.1 HQR.out
              have m1 := mul_b r1.2.2.1 r1.2.2.2.1 r2.2.2.2.2.1 r2.2.2.2.2.2
              have m2 := mul_b r2.2.2.1 r2.2.2.2.1 r1.2.2.2.2.1 r1.2.2.2.2.2
              exact ⟨wrp_ (by omega) (by omega), wrp_ (by omega) (by omega)⟩⟩
            have HTS : Aside0 (chainB (l0.drop (j - 1)) = (decide ((rd_T79 l0 (q : Int)).f1 * (rd_T79 l0 (j : Int)).f2 ≤ (rd_T79 l0 (j : Int)).f1 * (rd_T79 l0 (q : Int)).f2) && chainB (l0.drop j))) := ⟨by
              have h := test_step l0 j HJL.out (by have := HQ.out; omega) (by rw [show j - 1 = q by have := HQ.out; omega]; exact HQR.out)
              rw [HRJ.out, Bool.true_and, show j - 1 = q by have := HQ.out; omega] at h
              rw [show j - 1 = q by have := HQ.out; omega]; exact h⟩
            by_cases hc : (rd_T79 l0 (j : Int)).f1 * (rd_T79 l0 (q : Int)).f2 < (rd_T79 l0 (q : Int)).f1 * (rd_T79 l0 (j : Int)).f2
            · have hcd : decide (wrap64 ((rd_T79 l0 (j : Int)).f1 * (rd_T79 l0 (q : Int)).f2) < wrap64 ((rd_T79 l0 (q : Int)).f1 * (rd_T79 l0 (j : Int)).f2)) = true := by rw [HM.out.1, HM.out.2]; exact decide_eq_true hc
              have HX : Aside0 (chainB l0 = false) := ⟨by rw [HJ.out.2.2.2, HTS.out, decide_eq_false (by omega)]; rfl⟩
              clear hc
              go_wp2
              replace HB := bd_ HB
              refine sM_ [] (fun w' => w'.cell? (ad.add (j * 3)) = some (.int .i64 (rd_T79 l0 (j : Int)).f0) ∧ w'.cell? ⟨(ad.add (j * 3)).block, (ad.add (j * 3)).off + 1, none⟩ = some (.int .i64 (rd_T79 l0 (j : Int)).f1) ∧ w'.cell? ⟨(ad.add (j * 3)).block, (ad.add (j * 3)).off + 2, none⟩ = some (.int .i64 (rd_T79 l0 (j : Int)).f2) ∧ w'.cell? ⟨(ad.add (q * 3)).block, (ad.add (q * 3)).off + 1, none⟩ = some (.int .i64 (rd_T79 l0 (q : Int)).f1) ∧ w'.cell? ⟨(ad.add (q * 3)).block, (ad.add (q * 3)).off + 2, none⟩ = some (.int .i64 (rd_T79 l0 (q : Int)).f2)) ref_Check.tab6 ref_Check.bits6 ⟨pw_cell_below HB.out X0.out, pw_cell_below HB.out X1.out, pw_cell_below HB.out X2.out, pw_cell_below HB.out Y1.out, pw_cell_below HB.out Y2.out⟩ (fun hHeld HT_ HW_ => ?_)
              generalize wr.drew = w3 at HB hHeld ⊢
              refine pM_ HT_ 0 18 1 ?_
              refine pM_ HT_ 1 19 3 ?_
              refine pM_ HT_ 2 20 7 ?_
              refine tM_ HT_ HW_ hHeld 3 21 15 ?_
              refine oM_ HT_ 4 (some 22) 31 (fun K hK => ?_)
              refine gM_ Try.func119 (C1.out _) ?_
              rintro e w4 ⟨rfl, hb⟩
              refine ⟨.bool _, rfl, ?_⟩
              replace hb := nb_ HB hb
              replace HB := bs_ HB hb
              (try clear hb)
              refine hK.out _ _ ⟨pw_cell_below HB.out X0.out, pw_cell_below HB.out X1.out, pw_cell_below HB.out X2.out, pw_cell_below HB.out Y1.out, pw_cell_below HB.out Y2.out⟩ (fun hHeld => ?_)
              clear hK K
              refine nM_ ?_
              refine pM_ HT_ 5 23 63 ?_
              refine pM_ HT_ 6 24 127 ?_
              refine pM_ HT_ 7 25 255 ?_
              refine pM_ HT_ 8 26 511 ?_
              refine pM_ HT_ 9 27 1023 ?_
              refine pM_ HT_ 10 28 2047 ?_
              refine pM_ HT_ 11 29 4095 ?_
              refine pM_ HT_ 12 30 8191 ?_
              refine pM_ HT_ 13 31 16383 ?_
              refine pM_ HT_ 15 33 49151 ?_
              refine pM_ HT_ 16 34 114687 ?_
              refine pM_ HT_ 17 35 245759 ?_
              refine pM_ HT_ 18 36 507903 ?_
              refine pM_ HT_ 19 37 1032191 ?_
              refine pM_ HT_ 22 40 5226495 ?_
              refine pM_ HT_ 23 41 13615103 ?_
              refine pM_ HT_ 24 42 30392319 ?_
              refine pM_ HT_ 25 43 63946751 ?_
              refine pM_ HT_ 26 44 131055615 ?_
              refine pM_ HT_ 28 46 399491071 ?_
              refine pM_ HT_ 29 47 936361983 ?_
              refine pM_ HT_ 30 48 2010103807 ?_
              refine pM_ HT_ 31 49 4157587455 ?_
              refine tM_ HT_ HW_ hHeld 14 32 4157603839 ?_
              refine tM_ HT_ HW_ hHeld 20 38 4158652415 ?_
              refine pM_ HT_ 21 39 4160749567 ?_
              refine tM_ HT_ HW_ hHeld 27 45 4294967295 ?_
              refine tM_ HT_ HW_ hHeld 32 50 8589934591 ?_
              refine pM_ HT_ 33 51 17179869183 ?_
              refine pM_ HT_ 34 52 34359738367 ?_
              refine pM_ HT_ 35 53 68719476735 ?_
              refine pM_ HT_ 36 54 137438953471 ?_
              refine dM_ HT_ ?_
              go_wp2
              go_ret
              exact ⟨by rw [HE.out, HX.out]; rfl, HB.out⟩
            · have hcd : decide (wrap64 ((rd_T79 l0 (j : Int)).f1 * (rd_T79 l0 (q : Int)).f2) < wrap64 ((rd_T79 l0 (q : Int)).f1 * (rd_T79 l0 (j : Int)).f2)) = false := by rw [HM.out.1, HM.out.2]; exact decide_eq_false hc
              have HX : Aside0 (chainB l0 = chainB (l0.drop (j + 1 - 1))) := ⟨by rw [HJ.out.2.2.2, HTS.out, decide_eq_true (by omega)]; rfl⟩
              clear hc
              go_wp2
              replace HB := bd_ HB
              refine sM_ [] (fun w' => w'.cell? (ad.add (j * 3)) = some (.int .i64 (rd_T79 l0 (j : Int)).f0) ∧ w'.cell? ⟨(ad.add (j * 3)).block, (ad.add (j * 3)).off + 1, none⟩ = some (.int .i64 (rd_T79 l0 (j : Int)).f1) ∧ w'.cell? ⟨(ad.add (j * 3)).block, (ad.add (j * 3)).off + 2, none⟩ = some (.int .i64 (rd_T79 l0 (j : Int)).f2) ∧ w'.cell? ⟨(ad.add (q * 3)).block, (ad.add (q * 3)).off + 1, none⟩ = some (.int .i64 (rd_T79 l0 (q : Int)).f1) ∧ w'.cell? ⟨(ad.add (q * 3)).block, (ad.add (q * 3)).off + 2, none⟩ = some (.int .i64 (rd_T79 l0 (q : Int)).f2)) ref_Check.tab6 ref_Check.bits6 ⟨pw_cell_below HB.out X0.out, pw_cell_below HB.out X1.out, pw_cell_below HB.out X2.out, pw_cell_below HB.out Y1.out, pw_cell_below HB.out Y2.out⟩ (fun hHeld HT_ HW_ => ?_)
              generalize wr.drew = w3 at HB hHeld ⊢
              refine pM_ HT_ 0 18 1 ?_
              refine pM_ HT_ 1 19 3 ?_
              refine pM_ HT_ 2 20 7 ?_
              refine tM_ HT_ HW_ hHeld 3 21 15 ?_
              refine oM_ HT_ 4 (some 22) 31 (fun K hK => ?_)
              refine gM_ Try.func119 (C1.out _) ?_
              rintro e w4 ⟨rfl, hb⟩
              refine ⟨.bool _, rfl, ?_⟩
              replace hb := nb_ HB hb
              replace HB := bs_ HB hb
              (try clear hb)
              refine hK.out _ _ ⟨pw_cell_below HB.out X0.out, pw_cell_below HB.out X1.out, pw_cell_below HB.out X2.out, pw_cell_below HB.out Y1.out, pw_cell_below HB.out Y2.out⟩ (fun hHeld => ?_)
              clear hK K
              refine nM_ ?_
              refine pM_ HT_ 5 23 63 ?_
              refine pM_ HT_ 6 24 127 ?_
              refine pM_ HT_ 7 25 255 ?_
              refine pM_ HT_ 8 26 511 ?_
              refine pM_ HT_ 9 27 1023 ?_
              refine pM_ HT_ 10 28 2047 ?_
              refine pM_ HT_ 11 29 4095 ?_
              refine pM_ HT_ 12 30 8191 ?_
              refine pM_ HT_ 13 31 16383 ?_
              refine pM_ HT_ 15 33 49151 ?_
              refine pM_ HT_ 16 34 114687 ?_
              refine pM_ HT_ 17 35 245759 ?_
              refine pM_ HT_ 18 36 507903 ?_
              refine pM_ HT_ 19 37 1032191 ?_
              refine pM_ HT_ 22 40 5226495 ?_
              refine pM_ HT_ 23 41 13615103 ?_
              refine pM_ HT_ 24 42 30392319 ?_
              refine pM_ HT_ 25 43 63946751 ?_
              refine pM_ HT_ 26 44 131055615 ?_
              refine pM_ HT_ 28 46 399491071 ?_
              refine pM_ HT_ 29 47 936361983 ?_
              refine pM_ HT_ 30 48 2010103807 ?_
              refine pM_ HT_ 31 49 4157587455 ?_
              refine tM_ HT_ HW_ hHeld 14 32 4157603839 ?_
              refine tM_ HT_ HW_ hHeld 20 38 4158652415 ?_
              refine pM_ HT_ 21 39 4160749567 ?_
              refine tM_ HT_ HW_ hHeld 27 45 4294967295 ?_
              refine tM_ HT_ HW_ hHeld 32 50 8589934591 ?_
              refine pM_ HT_ 33 51 17179869183 ?_
              refine pM_ HT_ 34 52 34359738367 ?_
              refine pM_ HT_ 35 53 68719476735 ?_
              refine pM_ HT_ 36 54 137438953471 ?_
              refine dM_ HT_ ?_
              go_wp2
              go_roundg (gk - 1)
              case measure => have := HJ.out; have := HJL.out; omega
              case rel => exact ⟨j + 1, by rw [EW.out], ⟨by have := HJL.out; omega, by have := HJ.out; omega, .inr HRJ.out, HX.out⟩, HB⟩
      · have hd : decide ((j : Int) < (l0.length : Int)) = false := decide_eq_false (by omega)
        have hd2 : decide (j < l0.length) = false := decide_eq_false hj
        have HX : Aside0 (chainB l0 = true) := ⟨by have h := HJ.out; have := HL.out; rw [h.2.2.2, chain_last l0 (j - 1) (by omega)]; exact h.2.2.1.resolve_left (by omega)⟩
        clear hj
        go_wp2
        go_ret
        exact ⟨by rw [HE.out, HX.out]; rfl, HB.out⟩
  · have HE : Aside0 (checkF l0 = 20) := ⟨by unfold checkF validB; rw [decide_eq_false hL]; rfl⟩
    have hc : l0.length = 0 ∨ 0 < l0.length ∧ 24 < l0.length := by omega
    clear hL
    rcases hc with hc | ⟨hc1, hc2⟩
    · rw [HE.out]
      clear HE
      rw [hc]
      clear hc HR0
      go_enter Try.func53, Try.ntmps53
      go_wp2
      go_ret
      exact ⟨rfl, HB.out⟩
    · have q1 : decide ((l0.length : Int) < 1) = false := decide_eq_false (by omega)
      have q2 : decide (24 < (l0.length : Int)) = true := decide_eq_true (by omega)
      have q3 : decide (24 < l0.length) = true := decide_eq_true hc2
      have q4 : decide (l0.length = 0) = false := decide_eq_false (by omega)
      have q5 : ¬ l0.length = 0 := by omega
      rw [HE.out]
      clear HE hc1
      go_enter Try.func53, Try.ntmps53
      go_wp2
      go_ret
      exact ⟨rfl, HB.out⟩
end Go.Proofs.Ytlhfclpbodfmcaa.Pr
namespace Go.Proofs.Ytlhfclpbodfmcaa.Pr
open Go.RowKit Go.Proofs.YtlhfclpbodfmcaaW.PrintWords Go.Proofs.YtlhfclpbodfmcaaW.PrintLast Go.Proofs.YtlhfclpbodfmcaaW.PrintMore
open Go.Proofs.Ytlhfclpbodfmcaa.Vm
set_option linter.unusedVariables false
set_option linter.unusedSimpArgs false
attribute [local go_sem] fld79_0 fld79_1 fld79_2
set_option maxHeartbeats 1600000 in
set_option maxRecDepth 100000 in
theorem ref_Merged.calls (A0 : Option Addr) (c0 : Nat) (l0 : List S79) (w : World) (hr0 : Kd.C k79 w A0 l0.length l0) (hc0 : l0.length ≤ c0) :
    Calls Try.prog 65 #[.slice A0 l0.length c0] w fun e w' => ∃ v0_ : Value, e = .returned (.tuple #[v0_, .int .i64 (MergedF l0).2]) ∧ Kd.R k79 79 w' w.heap.size (fun _ => True) v0_ (MergedF l0).1 ∧ Below w.heap.size w w' := by
  have hu79 := Try.underlying79
  have HR0 := Aside0.mk hr0
  have HC0 := Aside0.mk hc0
  clear hr0 hc0
  have HB := Aside0.mk (Below.refl w.heap.size w)
  cases hv : validB l0
  · have HF : Aside0 (MergedF l0 = ([], 20)) := ⟨by unfold MergedF; rw [hv]; rfl⟩
    have C0 : Aside0 (∀ W, Below w.heap.size w W → Calls Try.prog 53 #[.slice A0 l0.length c0] W fun e w' => e = .returned (.int .i64 20) ∧ Below W.heap.size W w') := ⟨fun W hB => by have h := ref_Check.calls A0 c0 l0 W (Kd.C_below HR0.out hB); rwa [show checkF l0 = 20 by unfold checkF; rw [hv]; rfl] at h⟩
    clear hv
    go_enter Try.func65, Try.ntmps65
    go_wp2_with fail
    refine (C0.out _ HB.out).mono ?_
    rintro e w2 ⟨rfl, hb⟩
    replace hb := nb_ HB hb
    replace HB := bs_ HB hb
    clear hb
    go_wp2
    go_ret2
    rw [HF.out]
    exact ⟨_, rfl, Kd.R_nil _ _ _ _ _, HB.out⟩
  · have HF : Aside0 (MergedF l0 = ((l0.take l0.length).foldl mergeS [], 0)) := ⟨by unfold MergedF MergedL; rw [hv, List.take_of_length_le (Nat.le_refl _)]; rfl⟩
    have C0 : Aside0 (∀ W, Below w.heap.size w W → Calls Try.prog 53 #[.slice A0 l0.length c0] W fun e w' => e = .returned (.int .i64 0) ∧ Below W.heap.size W w') := ⟨fun W hB => by have h := ref_Check.calls A0 c0 l0 W (Kd.C_below HR0.out hB); rwa [show checkF l0 = 0 by unfold checkF; rw [hv]; rfl] at h⟩
    have HRING := Aside0.mk (valid_ring hv)
    have HLEN : Aside0 (l0.length ≤ 24) := ⟨by have := (valid_GV hv).h.ln; rw [List.length_map] at this; exact this⟩
    clear hv
    go_enter Try.func65, Try.ntmps65
    go_wp2_with fail
    refine (C0.out _ HB.out).mono ?_
    rintro e w2 ⟨rfl, hb⟩
    replace hb := nb_ HB hb
    replace HB := bs_ HB hb
    clear hb
    have RO : Aside0 (Kd.R k79 79 w2 w.heap.size (fun _ => True) (.slice none 0 0) ([] : List S79)) := ⟨Kd.R_nil _ _ _ _ _⟩
    go_wp2
    go_loopg [5, 6] l0.length (fun kq v5 v18 w' => ∃ (n : Nat) (done : List S79), v18 = .int .i64 (n : Int) ∧ Aside0 (n + kq = l0.length ∧ MInv l0 done n) ∧ Aside0 (Kd.R k79 79 w' w.heap.size (fun _ => True) v5 done) ∧ Aside0 (Below w.heap.size w w'))
    case atStart => exact ⟨0, [], rfl, ⟨by omega, ⟨by simp, by simp, by simp⟩⟩, RO, HB⟩
    case round =>
      clear RO HB
      obtain ⟨n, done, rfl, HI, RO, HB⟩ := hrel
      by_cases hij : n < l0.length
      · have hd : decide ((n : Int) < (l0.length : Int)) = true := decide_eq_true (by omega)
        have hd2 : decide (n < l0.length) = true := decide_eq_true hij
        have HIJ := Aside0.mk hij
        have p1 : (0 : Int) ≤ (n : Int) := by omega
        have q1 : (n : Int) < (l0.length : Int) := by omega
        obtain ⟨ad, e9, x0, x1, x2⟩ := at_T79 HR0.out (n : Int) p1 q1
        cases e9
        simp only [Int.toNat_natCast] at x0 x1 x2
        replace x0 := pw_cell_below HB.out x0
        replace x1 := pw_cell_below HB.out x1
        replace x2 := pw_cell_below HB.out x2
        have HRB := Aside0.mk (HRING.out _ (rd_mem hij))
        have HM1 := Aside0.mk (fun h => MInv.app HI.out.2 hij HRB.out h)
        have HM2 := Aside0.mk (fun k h1 h2 => MInv.put (k := k) HI.out.2 hij h1 h2)
        clear hij
        generalize rd_T79 l0 (n : Int) = rr at *
        obtain ⟨ra, rb, rc⟩ := rr
        simp only at x0 x1 x2
        have HRQ := Aside0.mk (ringB_iff.1 HRB.out)
        have HDL : Aside0 (done.length ≤ 1000) := ⟨by have := HI.out.2.len; have := HI.out.1; have := HLEN.out; omega⟩
        have hn24 : n ≤ 24 := by have := HLEN.out; have := HI.out.1; omega
        by_cases hk0 : done.length = 0
        · obtain ⟨A1, c1, rfl, hc1, k1⟩ := Kd.R_reads RO.out
          have HK0 : Aside0 (mergeS done ⟨ra, rb, rc⟩ = done ++ [⟨ra, rb, rc⟩]) := ⟨mergeS_nil hk0⟩
          have e8 : wrap64 ((done.length : Int) - 1) = -1 := by unfold wrap64; omega
          clear hk0 hc1 k1
          go_wp2_with (first | ((with_reducible refine gate_dst (N := 7) rfl ?_); refine bx_ 7 #[.int .i64 0, .int .i64 0, .int .i64 0] 79 ?_; intro gr hg w5 hbox hb; have NOgr := Aside0.mk (show ∀ k, (.slice A1 done.length c1 : Value).ownBlock = some k → k ≠ gr from fun k hk => by rw [hg]; exact Nat.ne_of_lt (Kd.R_lt RO.out k hk)); have GEgr := ge_ hg HB; replace hb := nb_ HB hb; replace RO := Aside0.mk (Kd.R_below RO.out hb); replace HB := bs_ HB hb; have BKgr := Aside0.mk hbox; obtain ⟨Ogr_0, Ogr_1, Ogr_2⟩ := c3_ BKgr; replace x0 := pw_cell_below hb x0; replace x1 := pw_cell_below hb x1; replace x2 := pw_cell_below hb x2; clear hb hbox hg) | ((with_reducible refine gate_store (t := 79) (p := 7) rfl ?_); have hc_ := cf3_ BKgr; refine st3_ ?_; intro w6 hp_; clear hc_; clear Ogr_0 Ogr_1 Ogr_2; replace RO : Aside0 (Kd.R k79 79 w6 w.heap.size (fun _ => True) (.slice A1 done.length c1) done) := ⟨by rw [← hp_.e]; exact row_other3 NOgr.out RO.out⟩; replace BKgr := pp3_ BKgr hp_; replace HB := pb3_ GEgr HB hp_; clear hp_; obtain ⟨Ogr_0, Ogr_1, Ogr_2⟩ := c3_ BKgr; clear x0 x1 x2) | ((with_reducible refine gate_dst (N := 85) rfl ?_); refine litv_list ?hg (N := 85) ?hd (cs := #[.int .i64 ra, .int .i64 rb, .int .i64 rc]) (E := 79) ?hr ?_; (case hd => rfl); (case hg => rfl); (case hr => first | (go_simp; done) | (go_simp; rfl)); intro ga hg wl hbox hb; replace hb := nb_ HB hb; replace RO := Aside0.mk (Kd.R_below RO.out hb); replace HB := bs_ HB hb; clear Ogr_0 Ogr_1 Ogr_2 BKgr; have BKga := Aside0.mk hbox; clear hb hbox hg) | ((with_reducible refine gate_dst (N := 86) rfl ?_); refine app79_list (w := w) ?hg (.tmp 83) (.tmp 85) 23 79 ?ho Try.underlying23 info79 (.slice A1 done.length c1) done ⟨ra, rb, rc⟩ ga ?hs ?hx RO.out BKga.out HB.out HDL.out ?_; (case hg => rfl); (case ho => rfl); (case hs => rfl); (case hx => rfl); intro u9_ wa ho hb hg hat; have n1_ := Aside0.mk hb; have n2_ := Aside0.mk ho; clear HB RO BKga; have HB := n1_; have RO := n2_; clear n1_ n2_ ho hb hg hat))
          go_roundg (gk - 1)
          case measure => have := HI.out.1; have := HIJ.out; omega
          case rel => exact ⟨n + 1, done ++ [⟨ra, rb, rc⟩], by go_num, ⟨by have := HI.out.1; have := HIJ.out; omega, HM1.out HK0.out⟩, RO, HB⟩
        · obtain ⟨K, hK⟩ : ∃ K, done.length = K + 1 := ⟨done.length - 1, by omega⟩
          clear hk0
          obtain ⟨go, c1, rfl, _, _, _⟩ := Kd.R_form RO.out (by omega)
          have e8 : wrap64 ((done.length : Int) - 1) = (K : Int) := by have := HI.out.2.len; rw [wrp_ (by omega) (by omega)]; omega
          have HP : Aside0 ((0 : Int) ≤ (K : Int) ∧ (K : Int) < (done.length : Int)) := ⟨by omega, by omega⟩
          have hp0 : (0 : Int) ≤ (K : Int) := HP.out.1
          have hp1 : (K : Int) < (done.length : Int) := HP.out.2
          have hp2 : K < done.length := by omega
          have HBR := Aside0.mk (HI.out.2.ring _ (rd_mem hp2))
          have HK := Aside0.mk hK
          clear hK
          have HN1 := Aside0.mk (fun h => mergeS_no (r := ⟨ra, rb, rc⟩) HK.out h)
          have HM3 := Aside0.mk (fun h => HM2.out K HK.out h)
          clear HM2
          obtain ⟨bq, hbq⟩ : ∃ b, rd_T79 done (K : Int) = b := ⟨_, rfl⟩
          have HBQ := Aside0.mk hbq
          rw [hbq] at HBR HN1 HM3
          clear hbq
          obtain ⟨ba, bb, bc⟩ := bq
          have HBO := Aside0.mk (ringB_iff.1 HBR.out)
          have hE : (wrap64 (bb * ra) = bb * ra ∧ wrap64 (rb * ba) = rb * ba ∧ wrap64 (bc * ra) = bc * ra ∧ wrap64 (rc * ba) = rc * ba) ∧ wrap64 (ba + ra) = ba + ra ∧ wrap64 (bb + rb) = bb + rb ∧ wrap64 (bc + rc) = bc + rc := by
            have q := HBO.out
            have r := HRQ.out
            simp only at q r
            have m1 := mul_b q.2.2.1 q.2.2.2.1 r.1 r.2.1
            have m2 := mul_b r.2.2.1 r.2.2.2.1 q.1 q.2.1
            have m3 := mul_b q.2.2.2.2.1 q.2.2.2.2.2 r.1 r.2.1
            have m4 := mul_b r.2.2.2.2.1 r.2.2.2.2.2 q.1 q.2.1
            exact ⟨⟨wrp_ (by omega) (by omega), wrp_ (by omega) (by omega), wrp_ (by omega) (by omega), wrp_ (by omega) (by omega)⟩, wrp_ (by omega) (by omega), wrp_ (by omega) (by omega), wrp_ (by omega) (by omega)⟩
          obtain ⟨⟨e1, e2, e3, e4⟩, e5, e6, e7⟩ := hE
          go_upto_region 13 with (first | ((with_reducible refine gate_dst (N := 7) rfl ?_); refine bx_ 7 #[.int .i64 0, .int .i64 0, .int .i64 0] 79 ?_; intro gr hg w5 hbox hb; have NOgr := Aside0.mk (show ∀ k, (.slice (some ⟨go, 0, none⟩) done.length c1 : Value).ownBlock = some k → k ≠ gr from fun k hk => by rw [hg]; exact Nat.ne_of_lt (Kd.R_lt RO.out k hk)); have GEgr := ge_ hg HB; replace hb := nb_ HB hb; replace RO := Aside0.mk (Kd.R_below RO.out hb); replace HB := bs_ HB hb; have BKgr := Aside0.mk hbox; obtain ⟨Ogr_0, Ogr_1, Ogr_2⟩ := c3_ BKgr; replace x0 := pw_cell_below hb x0; replace x1 := pw_cell_below hb x1; replace x2 := pw_cell_below hb x2; clear hb hbox hg) | ((with_reducible refine gate_store (t := 79) (p := 7) rfl ?_); have hc_ := cf3_ BKgr; refine st3_ ?_; intro w6 hp_; clear hc_; clear Ogr_0 Ogr_1 Ogr_2; replace RO : Aside0 (Kd.R k79 79 w6 w.heap.size (fun _ => True) (.slice (some ⟨go, 0, none⟩) done.length c1) done) := ⟨by rw [← hp_.e]; exact row_other3 NOgr.out RO.out⟩; replace BKgr := pp3_ BKgr hp_; replace HB := pb3_ GEgr HB hp_; clear hp_; obtain ⟨Ogr_0, Ogr_1, Ogr_2⟩ := c3_ BKgr; clear x0 x1 x2; obtain ⟨_, e9, y0, y1, y2⟩ := at_T79 (Kd.R_reads' RO.out).2.2 (K : Int) HP.out.1 HP.out.2; cases e9; simp only [Int.toNat_natCast] at y0 y1 y2; rw [HBQ.out] at y0 y1 y2; have z0 := y0; have z1 := y1; have z2 := y2; simp only [add_plain] at z0 z1 z2) | ((with_reducible refine gate_dst (N := 9) rfl ?_); refine bx_ 9 #[.int .i64 0, .int .i64 0, .int .i64 0] 79 ?_; intro gb hg w7 hbox hb; have NOgb := Aside0.mk (show ∀ k, (.slice (some ⟨go, 0, none⟩) done.length c1 : Value).ownBlock = some k → k ≠ gb from fun k hk => by rw [hg]; exact Nat.ne_of_lt (Kd.R_lt RO.out k hk)); have GEgb := ge_ hg HB; have NEgr_gb := ne_ hg BKgr; replace hb := nb_ HB hb; replace BKgr := kb_ BKgr hb; replace RO := Aside0.mk (Kd.R_below RO.out hb); replace HB := bs_ HB hb; have BKgb := Aside0.mk hbox; clear Ogr_0 Ogr_1 Ogr_2; obtain ⟨Ogr_0, Ogr_1, Ogr_2⟩ := c3_ BKgr; obtain ⟨Ogb_0, Ogb_1, Ogb_2⟩ := c3_ BKgb; replace y0 := pw_cell_below hb y0; replace y1 := pw_cell_below hb y1; replace y2 := pw_cell_below hb y2; replace z0 := pw_cell_below hb z0; replace z1 := pw_cell_below hb z1; replace z2 := pw_cell_below hb z2; clear hb hbox hg) | ((with_reducible refine gate_store (t := 79) (p := 9) rfl ?_); have hc_ := cf3_ BKgb; refine st3_ ?_; intro w8 hp_; clear hc_; clear Ogr_0 Ogr_1 Ogr_2; clear Ogb_0 Ogb_1 Ogb_2; replace RO : Aside0 (Kd.R k79 79 w8 w.heap.size (fun _ => True) (.slice (some ⟨go, 0, none⟩) done.length c1) done) := ⟨by rw [← hp_.e]; exact row_other3 NOgb.out RO.out⟩; replace BKgr := pf3_ NEgr_gb BKgr hp_; replace BKgb := pp3_ BKgb hp_; replace HB := pb3_ GEgb HB hp_; clear hp_; obtain ⟨Ogr_0, Ogr_1, Ogr_2⟩ := c3_ BKgr; obtain ⟨Ogb_0, Ogb_1, Ogb_2⟩ := c3_ BKgb; clear y0 y1 y2 z0 z1 z2) | ((with_reducible refine gate_dst (N := 10) rfl ?_); refine bx_ 10 #[.int .i64 0, .int .i64 0, .int .i64 0] 79 ?_; intro gs hg w9 hbox hb; have NOgs := Aside0.mk (show ∀ k, (.slice (some ⟨go, 0, none⟩) done.length c1 : Value).ownBlock = some k → k ≠ gs from fun k hk => by rw [hg]; exact Nat.ne_of_lt (Kd.R_lt RO.out k hk)); have GEgs := ge_ hg HB; have NEgr_gs := ne_ hg BKgr; have NEgb_gs := ne_ hg BKgb; replace hb := nb_ HB hb; replace BKgr := kb_ BKgr hb; replace BKgb := kb_ BKgb hb; replace RO := Aside0.mk (Kd.R_below RO.out hb); replace HB := bs_ HB hb; have BKgs := Aside0.mk hbox; clear Ogr_0 Ogr_1 Ogr_2; clear Ogb_0 Ogb_1 Ogb_2; obtain ⟨Ogr_0, Ogr_1, Ogr_2⟩ := c3_ BKgr; obtain ⟨Ogb_0, Ogb_1, Ogb_2⟩ := c3_ BKgb; obtain ⟨Ogs_0, Ogs_1, Ogs_2⟩ := c3_ BKgs; clear hb hbox hg) | ((with_reducible refine gate_store (t := 79) (p := 10) rfl ?_); have hc_ := cf3_ BKgs; refine st3_ ?_; intro w10 hp_; clear hc_; clear Ogr_0 Ogr_1 Ogr_2; clear Ogb_0 Ogb_1 Ogb_2; clear Ogs_0 Ogs_1 Ogs_2; replace RO : Aside0 (Kd.R k79 79 w10 w.heap.size (fun _ => True) (.slice (some ⟨go, 0, none⟩) done.length c1) done) := ⟨by rw [← hp_.e]; exact row_other3 NOgs.out RO.out⟩; replace BKgr := pf3_ NEgr_gs BKgr hp_; replace BKgb := pf3_ NEgb_gs BKgb hp_; replace BKgs := pp3_ BKgs hp_; replace HB := pb3_ GEgs HB hp_; clear hp_; obtain ⟨Ogr_0, Ogr_1, Ogr_2⟩ := c3_ BKgr; obtain ⟨Ogb_0, Ogb_1, Ogb_2⟩ := c3_ BKgb; obtain ⟨Ogs_0, Ogs_1, Ogs_2⟩ := c3_ BKgs))
          clear e5 e6 e7
          by_cases m1 : bb * ra = rb * ba
          · by_cases m2 : bc * ra = rc * ba
            · have q1 : (bb * ra == rb * ba) = true := beq_iff_eq.2 m1
              have q2 : (bc * ra == rc * ba) = true := beq_iff_eq.2 m2
              cases hr : ringB (sumS ⟨ba, bb, bc⟩ ⟨ra, rb, rc⟩)
              · have HN2 : Aside0 (mergeS done ⟨ra, rb, rc⟩ = done ++ [⟨ra, rb, rc⟩]) := ⟨HN1.out (by unfold mrgB; simp [hr])⟩
                have C1 : Aside0 (∀ W, Calls Try.prog 119 #[.agg #[.int .i64 (ba + ra), .int .i64 (bb + rb), .int .i64 (bc + rc)]] W fun e w' => e = .returned (.bool false) ∧ Below W.heap.size W w') := ⟨fun W => by have h := ref_isRing.calls (sumS ⟨ba, bb, bc⟩ ⟨ra, rb, rc⟩) W; rw [hr] at h; exact h⟩
                clear hr
                go_wp2_with fail
                refine (C1.out _).mono ?_
                rintro e wq ⟨rfl, hb⟩
                replace hb := nb_ HB hb
                replace BKgr := kb_ BKgr hb
                replace BKgb := kb_ BKgb hb
                replace BKgs := kb_ BKgs hb
                replace RO := Aside0.mk (Kd.R_below RO.out hb)
                replace HB := bs_ HB hb
                clear hb
                clear Ogr_0 Ogr_1 Ogr_2
                clear Ogb_0 Ogb_1 Ogb_2
                clear Ogs_0 Ogs_1 Ogs_2
                obtain ⟨Ogr_0, Ogr_1, Ogr_2⟩ := c3_ BKgr
                obtain ⟨Ogb_0, Ogb_1, Ogb_2⟩ := c3_ BKgb
                obtain ⟨Ogs_0, Ogs_1, Ogs_2⟩ := c3_ BKgs
                go_wp2_with (first | ((with_reducible refine gate_dst (N := 85) rfl ?_); refine litv_list ?hg (N := 85) ?hd (cs := #[.int .i64 ra, .int .i64 rb, .int .i64 rc]) (E := 79) ?hr ?_; (case hd => rfl); (case hg => rfl); (case hr => first | (go_simp; done) | (go_simp; rfl)); intro ga hg wl hbox hb; replace hb := nb_ HB hb; replace RO := Aside0.mk (Kd.R_below RO.out hb); replace HB := bs_ HB hb; clear Ogr_0 Ogr_1 Ogr_2 BKgr; clear Ogb_0 Ogb_1 Ogb_2 BKgb; clear Ogs_0 Ogs_1 Ogs_2 BKgs; have BKga := Aside0.mk hbox; clear hb hbox hg) | ((with_reducible refine gate_dst (N := 86) rfl ?_); refine app79_list (w := w) ?hg (.tmp 83) (.tmp 85) 23 79 ?ho Try.underlying23 info79 (.slice (some ⟨go, 0, none⟩) done.length c1) done ⟨ra, rb, rc⟩ ga ?hs ?hx RO.out BKga.out HB.out HDL.out ?_; (case hg => rfl); (case ho => rfl); (case hs => rfl); (case hx => rfl); intro u9_ wa ho hb hg hat; have n1_ := Aside0.mk hb; have n2_ := Aside0.mk ho; clear HB RO BKga; have HB := n1_; have RO := n2_; clear n1_ n2_ ho hb hg hat))
                go_roundg (gk - 1)
                case measure => have := HI.out.1; have := HIJ.out; omega
                case rel => exact ⟨n + 1, done ++ [⟨ra, rb, rc⟩], by go_num, ⟨by have := HI.out.1; have := HIJ.out; omega, HM1.out HN2.out⟩, RO, HB⟩
              · have HMM := Aside0.mk (HM3.out (by unfold mrgB; simp [m1, m2, hr]))
                have C1 : Aside0 (∀ W, Calls Try.prog 119 #[.agg #[.int .i64 (ba + ra), .int .i64 (bb + rb), .int .i64 (bc + rc)]] W fun e w' => e = .returned (.bool true) ∧ Below W.heap.size W w') := ⟨fun W => by have h := ref_isRing.calls (sumS ⟨ba, bb, bc⟩ ⟨ra, rb, rc⟩) W; rw [hr] at h; exact h⟩
                clear hr
                go_wp2_with fail
                refine (C1.out _).mono ?_
                rintro e wq ⟨rfl, hb⟩
                replace hb := nb_ HB hb
                replace BKgr := kb_ BKgr hb
                replace BKgb := kb_ BKgb hb
                replace BKgs := kb_ BKgs hb
                replace RO := Aside0.mk (Kd.R_below RO.out hb)
                replace HB := bs_ HB hb
                clear hb
                clear Ogr_0 Ogr_1 Ogr_2
                clear Ogb_0 Ogb_1 Ogb_2
                clear Ogs_0 Ogs_1 Ogs_2
                obtain ⟨Ogr_0, Ogr_1, Ogr_2⟩ := c3_ BKgr
                obtain ⟨Ogb_0, Ogb_1, Ogb_2⟩ := c3_ BKgb
                obtain ⟨Ogs_0, Ogs_1, Ogs_2⟩ := c3_ BKgs
                go_wp2_with (first | ((with_reducible refine gate_store (t := 79) (p := 82) rfl ?_); obtain ⟨ce, hcl, hM0, hcc, _⟩ := Kd.R_elem RO.out z79 (K : Int) HP.out.1 HP.out.2; obtain rfl := k79_openM hM0; refine Kd.R_store (α := S79) (g := go) (n := done.length) (cap := c1) (o' := K * 3) k79 (w0 := w) w.heap.size ?hN ?hgd 79 (Operand.tmp 82) (Operand.tmp 81) ?ho 79 (K : Int) 0 done (⟨ba + ra, bb + rb, bc + rc⟩ : S79) (Value.agg #[.int .i64 (ba + ra), .int .i64 (bb + rb), .int .i64 (bc + rc)]) [.int .i64 (ba + ra), .int .i64 (bb + rb), .int .i64 (bc + rc)] _ (fun _ => True) (fun _ => False) ?haddr ?hoff ?hx ?hu ?ht ?h1 RO.out HP.out.1 HP.out.2 hcl hcc ?hj ?hM (fun _ hk => False.elim hk) HB.out ?_; (case hM => exact k79_mkM _ _ _ (⟨ba + ra, bb + rb, bc + rc⟩ : S79)); (case hN => rfl); (case hgd => rfl); (case ho => rfl); (case haddr => rfl); (case hx => rfl); (case hu => rfl); (case ht => rfl); (case hj => exact Nat.le_refl _); (case h1 => (simp [Value.oneCell']; done)); (case hoff => first | rfl | (show _ = (K : Int).toNat * 3 + 0; simp; done) | (simp; done) | (simp; rfl)); intro ws ho hb hg; simp only [Int.toNat_natCast] at ho; clear Ogr_0 Ogr_1 Ogr_2 BKgr; clear Ogb_0 Ogb_1 Ogb_2 BKgb; clear Ogs_0 Ogs_1 Ogs_2 BKgs; clear RO HB hcl hM0 hcc hg; have RO := Aside0.mk ho; have HB := Aside0.mk hb; clear ho hb))
                go_roundg (gk - 1)
                case measure => have := HI.out.1; have := HIJ.out; omega
                case rel => exact ⟨n + 1, done.set K ⟨ba + ra, bb + rb, bc + rc⟩, by go_num, ⟨by have := HI.out.1; have := HIJ.out; omega, HMM.out⟩, RO, HB⟩
            · have q1 : (bb * ra == rb * ba) = true := beq_iff_eq.2 m1
              have q2 : (bc * ra == rc * ba) = false := beq_eq_false_iff_ne.2 m2
              have HN2 : Aside0 (mergeS done ⟨ra, rb, rc⟩ = done ++ [⟨ra, rb, rc⟩]) := ⟨HN1.out (by unfold mrgB; simp [m1, m2])⟩
              clear m1 m2
              go_wp2_with (first | ((with_reducible refine gate_dst (N := 85) rfl ?_); refine litv_list ?hg (N := 85) ?hd (cs := #[.int .i64 ra, .int .i64 rb, .int .i64 rc]) (E := 79) ?hr ?_; (case hd => rfl); (case hg => rfl); (case hr => first | (go_simp; done) | (go_simp; rfl)); intro ga hg wl hbox hb; replace hb := nb_ HB hb; replace RO := Aside0.mk (Kd.R_below RO.out hb); replace HB := bs_ HB hb; clear Ogr_0 Ogr_1 Ogr_2 BKgr; clear Ogb_0 Ogb_1 Ogb_2 BKgb; clear Ogs_0 Ogs_1 Ogs_2 BKgs; have BKga := Aside0.mk hbox; clear hb hbox hg) | ((with_reducible refine gate_dst (N := 86) rfl ?_); refine app79_list (w := w) ?hg (.tmp 83) (.tmp 85) 23 79 ?ho Try.underlying23 info79 (.slice (some ⟨go, 0, none⟩) done.length c1) done ⟨ra, rb, rc⟩ ga ?hs ?hx RO.out BKga.out HB.out HDL.out ?_; (case hg => rfl); (case ho => rfl); (case hs => rfl); (case hx => rfl); intro u9_ wa ho hb hg hat; have n1_ := Aside0.mk hb; have n2_ := Aside0.mk ho; clear HB RO BKga; have HB := n1_; have RO := n2_; clear n1_ n2_ ho hb hg hat))
              go_roundg (gk - 1)
              case measure => have := HI.out.1; have := HIJ.out; omega
              case rel => exact ⟨n + 1, done ++ [⟨ra, rb, rc⟩], by go_num, ⟨by have := HI.out.1; have := HIJ.out; omega, HM1.out HN2.out⟩, RO, HB⟩
          · have q1 : (bb * ra == rb * ba) = false := beq_eq_false_iff_ne.2 m1
            have HN2 : Aside0 (mergeS done ⟨ra, rb, rc⟩ = done ++ [⟨ra, rb, rc⟩]) := ⟨HN1.out (by unfold mrgB; simp [m1])⟩
            clear m1
            go_wp2_with (first | ((with_reducible refine gate_dst (N := 85) rfl ?_); refine litv_list ?hg (N := 85) ?hd (cs := #[.int .i64 ra, .int .i64 rb, .int .i64 rc]) (E := 79) ?hr ?_; (case hd => rfl); (case hg => rfl); (case hr => first | (go_simp; done) | (go_simp; rfl)); intro ga hg wl hbox hb; replace hb := nb_ HB hb; replace RO := Aside0.mk (Kd.R_below RO.out hb); replace HB := bs_ HB hb; clear Ogr_0 Ogr_1 Ogr_2 BKgr; clear Ogb_0 Ogb_1 Ogb_2 BKgb; clear Ogs_0 Ogs_1 Ogs_2 BKgs; have BKga := Aside0.mk hbox; clear hb hbox hg) | ((with_reducible refine gate_dst (N := 86) rfl ?_); refine app79_list (w := w) ?hg (.tmp 83) (.tmp 85) 23 79 ?ho Try.underlying23 info79 (.slice (some ⟨go, 0, none⟩) done.length c1) done ⟨ra, rb, rc⟩ ga ?hs ?hx RO.out BKga.out HB.out HDL.out ?_; (case hg => rfl); (case ho => rfl); (case hs => rfl); (case hx => rfl); intro u9_ wa ho hb hg hat; have n1_ := Aside0.mk hb; have n2_ := Aside0.mk ho; clear HB RO BKga; have HB := n1_; have RO := n2_; clear n1_ n2_ ho hb hg hat))
            go_roundg (gk - 1)
            case measure => have := HI.out.1; have := HIJ.out; omega
            case rel => exact ⟨n + 1, done ++ [⟨ra, rb, rc⟩], by go_num, ⟨by have := HI.out.1; have := HIJ.out; omega, HM1.out HN2.out⟩, RO, HB⟩
      · have hd : decide ((n : Int) < (l0.length : Int)) = false := decide_eq_false (by omega)
        have hd2 : decide (n < l0.length) = false := decide_eq_false hij
        have HF2 : Aside0 (MergedF l0 = (done, 0)) := ⟨by have h := HI.out; have e : l0.length = n := (by omega); rw [HF.out, e, h.2.eq]⟩
        clear hij
        go_wp2
        go_ret2
        rw [HF2.out]
        exact ⟨_, rfl, RO.out, HB.out⟩
end Go.Proofs.Ytlhfclpbodfmcaa.Pr
namespace Go.Proofs.Ytlhfclpbodfmcaa.Pr
open Go.RowKit Go.Proofs.YtlhfclpbodfmcaaW.PrintWords Go.Proofs.YtlhfclpbodfmcaaW.PrintLast Go.Proofs.YtlhfclpbodfmcaaW.PrintMore
open Go.Proofs.Ytlhfclpbodfmcaa.Vm
set_option linter.unusedVariables false
set_option linter.unusedSimpArgs false
/-- One vessel on top of another one. -/
def StackedF (l0 l1 : List S79) : List S79 × Int := if validB l0 then (if validB l1 then (if 24 < (l0 ++ l1).length then ([], 2) else if validB (l0 ++ l1) then (l0 ++ l1, 0) else ([], 1)) else ([], 20)) else ([], 20)
end Go.Proofs.Ytlhfclpbodfmcaa.Pr
namespace Go.Proofs.Ytlhfclpbodfmcaa.Pr
open Go.RowKit Go.Proofs.YtlhfclpbodfmcaaW.PrintWords Go.Proofs.YtlhfclpbodfmcaaW.PrintLast Go.Proofs.YtlhfclpbodfmcaaW.PrintMore
open Go.Proofs.Ytlhfclpbodfmcaa.Vm
set_option linter.unusedVariables false
set_option linter.unusedSimpArgs false
attribute [local go_sem] fld79_0 fld79_1 fld79_2
set_option maxHeartbeats 1600000 in
set_option maxRecDepth 100000 in
theorem vessel_Stacked.calls (A0 : Option Addr) (c0 : Nat) (l0 : List S79) (A1 : Option Addr) (c1 : Nat) (l1 : List S79) (w : World) (hr0 : Kd.C k79 w A0 l0.length l0) (hc0 : l0.length ≤ c0) (hr1 : Kd.C k79 w A1 l1.length l1) (hc1 : l1.length ≤ c1) :
    Calls Try.prog 60 #[.slice A0 l0.length c0, .slice A1 l1.length c1] w fun e w' => ∃ v0_ : Value, e = .returned (.tuple #[v0_, .int .i64 (StackedF l0 l1).2]) ∧ Kd.R k79 79 w' w.heap.size (fun _ => True) v0_ (StackedF l0 l1).1 ∧ Below w.heap.size w w' := by
  have hu79 := Try.underlying79
  have HR0 := Aside0.mk hr0
  have HC0 := Aside0.mk hc0
  have HR1 := Aside0.mk hr1
  have HC1 := Aside0.mk hc1
  clear hr0 hc0 hr1 hc1
  have HB := Aside0.mk (Below.refl w.heap.size w)
  by_cases hv : validB l0 = true
  · by_cases hu : validB l1 = true
    · obtain ⟨ll, hll⟩ : ∃ x, l0 ++ l1 = x := ⟨_, rfl⟩
      have HFF : Aside0 (StackedF l0 l1 = if 24 < ll.length then ([], 2) else if validB ll then (ll, 0) else ([], 1)) := ⟨by unfold StackedF; rw [if_pos hv, if_pos hu, hll]⟩
      have HLL := Aside0.mk hll
      clear hll
      have HK : Aside0 (vessel_checked.f 40 [l0, l1] = some 0) := ⟨checked_good hv hu⟩
      have HLN : Aside0 (l0.length ≤ 24 ∧ l1.length ≤ 24) := ⟨by have h0 := (valid_GV hv).h.ln; have h1 := (valid_GV hu).h.ln; rw [List.length_map] at h0 h1; exact ⟨h0, h1⟩⟩
      clear hv hu
      go_enter Try.func60, Try.ntmps60
      go_wp2_with fail
      refine (vessel_checked.calls 40 _ 2 [l0, l1] 0 _ (pair_row (Kd.C_below (kc_ HR0 HB) (ba_ _ _)) HC0.out (Kd.C_below (kc_ HR1 HB) (ba_ _ _)) HC1.out (blk_new _ _)) (by simp) HK.out).mono ?_
      rintro e w1 ⟨rfl, hb⟩
      replace hb := below_step (ba_ _ _) hb
      replace HB := bs_ HB hb
      clear hb
      by_cases hb : 24 < ll.length
      · have HF : Aside0 (StackedF l0 l1 = ([], 2)) := ⟨by rw [HFF.out, if_pos hb]⟩
        have d1 : decide ((24 : Int) < (ll.length : Int)) = true := decide_eq_true (by omega)
        have d2 : decide (24 < ll.length) = true := decide_eq_true hb
        clear hb
        go_wp2_with (first | ((with_reducible refine gate_dst (N := 15) rfl ?_); refine Kd.R_lit k79 (w0 := w) w.heap.size 79 ?hg (N := 15) ?hd (xs := ([] : List S79)) (inner := []) (ok := fun _ => True) (okp := fun _ => True) ?hr ?hp (fun _ hk => hk) trivial HB.out HB.out.size (by simp) ?_; (case hd => rfl); (case hg => rfl); (case hr => first | (go_simp; done) | (go_simp; rfl)); (case hp => exact (Reps.none _ _)); intro v1_ wl ho hb hg hat; have RO := Aside0.mk ho; have h_ := Aside0.mk hb; clear HB ho hb hg hat; have HB := h_; clear h_) | ((with_reducible refine gate_dst (N := 17) rfl ?_); refine Kd.R_append_rows (α := S79) k79 (Rr := k79.K _) (w0 := w) w.heap.size ?hg (Operand.tmp 15) (Operand.tmp 16) 23 79 (.agg #[.int .i64 0, .int .i64 0, .int .i64 0]) 24 ?ho Try.underlying23 info79 (by rfl) (by decide) (by decide) (v1_) ([] : List S79) l0 A0 l0.length c0 (fun _ => True) (fun _ => False) ?hs ?hx RO.out (kc_ HR0 HB) ?hKM (fun _ hk => False.elim hk) (fun _ _ => trivial) HB.out HB.out.size ?hl ?_; (case hg => rfl); (case ho => rfl); (case hs => rfl); (case hx => rfl); (case hKM => intro x cs h; obtain rfl := k79_open h; exact k79_mkM _ _ _ _); (case hl => have := HLN.out; first | omega | (simp; omega)); intro v2_ wa0 ho hb hg hat; simp only [List.nil_append] at ho; have h_ := Aside0.mk hb; clear RO HB hb hg hat; have HB := h_; clear h_; have RO := Aside0.mk ho; clear ho) | ((with_reducible refine gate_dst (N := 19) rfl ?_); refine Kd.R_append_rows (α := S79) k79 (Rr := k79.K _) (w0 := w) w.heap.size ?hg (Operand.tmp 17) (Operand.tmp 18) 23 79 (.agg #[.int .i64 0, .int .i64 0, .int .i64 0]) 24 ?ho Try.underlying23 info79 (by rfl) (by decide) (by decide) (v2_) l0 l1 A1 l1.length c1 (fun _ => True) (fun _ => False) ?hs ?hx RO.out (kc_ HR1 HB) ?hKM (fun _ hk => False.elim hk) (fun _ _ => trivial) HB.out HB.out.size ?hl ?_; (case hg => rfl); (case ho => rfl); (case hs => rfl); (case hx => rfl); (case hKM => intro x cs h; obtain rfl := k79_open h; exact k79_mkM _ _ _ _); (case hl => have := HLN.out; first | omega | (simp; omega)); intro v3_ wa1 ho hb hg hat; rw [HLL.out] at ho; have h_ := Aside0.mk hb; clear RO HB hb hg hat; have HB := h_; clear h_; obtain ⟨A3, c3, rfl, hc3, k3⟩ := Kd.R_reads ho; have RO := Aside0.mk ho; have C3 := Aside0.mk hc3; have K3 := Aside0.mk k3; clear ho hc3 k3))
        go_ret2
        rw [HF.out]
        exact ⟨_, rfl, Kd.R_nil _ _ _ _ _, HB.out⟩
      · cases hw : validB ll
        · have HV := Aside0.mk hw
          have HF : Aside0 (StackedF l0 l1 = ([], 1)) := ⟨by rw [HFF.out, if_neg hb, hw]; rfl⟩
          have d1 : decide ((24 : Int) < (ll.length : Int)) = false := decide_eq_false (by omega)
          have d2 : decide (24 < ll.length) = false := decide_eq_false hb
          clear hb hw
          go_wp2_with (first | ((with_reducible refine gate_dst (N := 15) rfl ?_); refine Kd.R_lit k79 (w0 := w) w.heap.size 79 ?hg (N := 15) ?hd (xs := ([] : List S79)) (inner := []) (ok := fun _ => True) (okp := fun _ => True) ?hr ?hp (fun _ hk => hk) trivial HB.out HB.out.size (by simp) ?_; (case hd => rfl); (case hg => rfl); (case hr => first | (go_simp; done) | (go_simp; rfl)); (case hp => exact (Reps.none _ _)); intro v1_ wl ho hb hg hat; have RO := Aside0.mk ho; have h_ := Aside0.mk hb; clear HB ho hb hg hat; have HB := h_; clear h_) | ((with_reducible refine gate_dst (N := 17) rfl ?_); refine Kd.R_append_rows (α := S79) k79 (Rr := k79.K _) (w0 := w) w.heap.size ?hg (Operand.tmp 15) (Operand.tmp 16) 23 79 (.agg #[.int .i64 0, .int .i64 0, .int .i64 0]) 24 ?ho Try.underlying23 info79 (by rfl) (by decide) (by decide) (v1_) ([] : List S79) l0 A0 l0.length c0 (fun _ => True) (fun _ => False) ?hs ?hx RO.out (kc_ HR0 HB) ?hKM (fun _ hk => False.elim hk) (fun _ _ => trivial) HB.out HB.out.size ?hl ?_; (case hg => rfl); (case ho => rfl); (case hs => rfl); (case hx => rfl); (case hKM => intro x cs h; obtain rfl := k79_open h; exact k79_mkM _ _ _ _); (case hl => have := HLN.out; first | omega | (simp; omega)); intro v2_ wa0 ho hb hg hat; simp only [List.nil_append] at ho; have h_ := Aside0.mk hb; clear RO HB hb hg hat; have HB := h_; clear h_; have RO := Aside0.mk ho; clear ho) | ((with_reducible refine gate_dst (N := 19) rfl ?_); refine Kd.R_append_rows (α := S79) k79 (Rr := k79.K _) (w0 := w) w.heap.size ?hg (Operand.tmp 17) (Operand.tmp 18) 23 79 (.agg #[.int .i64 0, .int .i64 0, .int .i64 0]) 24 ?ho Try.underlying23 info79 (by rfl) (by decide) (by decide) (v2_) l0 l1 A1 l1.length c1 (fun _ => True) (fun _ => False) ?hs ?hx RO.out (kc_ HR1 HB) ?hKM (fun _ hk => False.elim hk) (fun _ _ => trivial) HB.out HB.out.size ?hl ?_; (case hg => rfl); (case ho => rfl); (case hs => rfl); (case hx => rfl); (case hKM => intro x cs h; obtain rfl := k79_open h; exact k79_mkM _ _ _ _); (case hl => have := HLN.out; first | omega | (simp; omega)); intro v3_ wa1 ho hb hg hat; rw [HLL.out] at ho; have h_ := Aside0.mk hb; clear RO HB hb hg hat; have HB := h_; clear h_; obtain ⟨A3, c3, rfl, hc3, k3⟩ := Kd.R_reads ho; have RO := Aside0.mk ho; have C3 := Aside0.mk hc3; have K3 := Aside0.mk k3; clear ho hc3 k3))
          refine (vessel_Check.calls 30 A3 c3 ll 20 _ K3.out C3.out (by rw [vCheck]; unfold checkF; rw [HV.out]; rfl)).mono ?_
          rintro e wz ⟨rfl, hb⟩
          replace RO := Aside0.mk (Kd.R_below RO.out hb)
          replace HB := bs_ HB hb
          clear hb
          go_wp2
          go_ret2
          rw [HF.out]
          exact ⟨_, rfl, Kd.R_nil _ _ _ _ _, HB.out⟩
        · have HV := Aside0.mk hw
          have HF : Aside0 (StackedF l0 l1 = (ll, 0)) := ⟨by rw [HFF.out, if_neg hb, hw]; rfl⟩
          have d1 : decide ((24 : Int) < (ll.length : Int)) = false := decide_eq_false (by omega)
          have d2 : decide (24 < ll.length) = false := decide_eq_false hb
          clear hb hw
          go_wp2_with (first | ((with_reducible refine gate_dst (N := 15) rfl ?_); refine Kd.R_lit k79 (w0 := w) w.heap.size 79 ?hg (N := 15) ?hd (xs := ([] : List S79)) (inner := []) (ok := fun _ => True) (okp := fun _ => True) ?hr ?hp (fun _ hk => hk) trivial HB.out HB.out.size (by simp) ?_; (case hd => rfl); (case hg => rfl); (case hr => first | (go_simp; done) | (go_simp; rfl)); (case hp => exact (Reps.none _ _)); intro v1_ wl ho hb hg hat; have RO := Aside0.mk ho; have h_ := Aside0.mk hb; clear HB ho hb hg hat; have HB := h_; clear h_) | ((with_reducible refine gate_dst (N := 17) rfl ?_); refine Kd.R_append_rows (α := S79) k79 (Rr := k79.K _) (w0 := w) w.heap.size ?hg (Operand.tmp 15) (Operand.tmp 16) 23 79 (.agg #[.int .i64 0, .int .i64 0, .int .i64 0]) 24 ?ho Try.underlying23 info79 (by rfl) (by decide) (by decide) (v1_) ([] : List S79) l0 A0 l0.length c0 (fun _ => True) (fun _ => False) ?hs ?hx RO.out (kc_ HR0 HB) ?hKM (fun _ hk => False.elim hk) (fun _ _ => trivial) HB.out HB.out.size ?hl ?_; (case hg => rfl); (case ho => rfl); (case hs => rfl); (case hx => rfl); (case hKM => intro x cs h; obtain rfl := k79_open h; exact k79_mkM _ _ _ _); (case hl => have := HLN.out; first | omega | (simp; omega)); intro v2_ wa0 ho hb hg hat; simp only [List.nil_append] at ho; have h_ := Aside0.mk hb; clear RO HB hb hg hat; have HB := h_; clear h_; have RO := Aside0.mk ho; clear ho) | ((with_reducible refine gate_dst (N := 19) rfl ?_); refine Kd.R_append_rows (α := S79) k79 (Rr := k79.K _) (w0 := w) w.heap.size ?hg (Operand.tmp 17) (Operand.tmp 18) 23 79 (.agg #[.int .i64 0, .int .i64 0, .int .i64 0]) 24 ?ho Try.underlying23 info79 (by rfl) (by decide) (by decide) (v2_) l0 l1 A1 l1.length c1 (fun _ => True) (fun _ => False) ?hs ?hx RO.out (kc_ HR1 HB) ?hKM (fun _ hk => False.elim hk) (fun _ _ => trivial) HB.out HB.out.size ?hl ?_; (case hg => rfl); (case ho => rfl); (case hs => rfl); (case hx => rfl); (case hKM => intro x cs h; obtain rfl := k79_open h; exact k79_mkM _ _ _ _); (case hl => have := HLN.out; first | omega | (simp; omega)); intro v3_ wa1 ho hb hg hat; rw [HLL.out] at ho; have h_ := Aside0.mk hb; clear RO HB hb hg hat; have HB := h_; clear h_; obtain ⟨A3, c3, rfl, hc3, k3⟩ := Kd.R_reads ho; have RO := Aside0.mk ho; have C3 := Aside0.mk hc3; have K3 := Aside0.mk k3; clear ho hc3 k3))
          refine (vessel_Check.calls 30 A3 c3 ll 0 _ K3.out C3.out (by rw [vCheck]; unfold checkF; rw [HV.out]; rfl)).mono ?_
          rintro e wz ⟨rfl, hb⟩
          replace RO := Aside0.mk (Kd.R_below RO.out hb)
          replace HB := bs_ HB hb
          clear hb
          go_wp2
          go_ret2
          rw [HF.out]
          exact ⟨_, rfl, RO.out, HB.out⟩
    · have HF : Aside0 (StackedF l0 l1 = ([], 20)) := ⟨by unfold StackedF; rw [if_pos hv, if_neg hu]⟩
      have HK : Aside0 (vessel_checked.f 40 [l0, l1] = some 20) := ⟨checked_bad2 hv hu⟩
      clear hv hu
      go_enter Try.func60, Try.ntmps60
      go_wp2_with fail
      refine (vessel_checked.calls 40 _ 2 [l0, l1] 20 _ (pair_row (Kd.C_below (kc_ HR0 HB) (ba_ _ _)) HC0.out (Kd.C_below (kc_ HR1 HB) (ba_ _ _)) HC1.out (blk_new _ _)) (by simp) HK.out).mono ?_
      rintro e w1 ⟨rfl, hb⟩
      replace hb := below_step (ba_ _ _) hb
      replace HB := bs_ HB hb
      clear hb
      go_wp2
      go_ret2
      rw [HF.out]
      exact ⟨_, rfl, Kd.R_nil _ _ _ _ _, HB.out⟩
  · have HF : Aside0 (StackedF l0 l1 = ([], 20)) := ⟨by unfold StackedF; rw [if_neg hv]⟩
    have HK : Aside0 (vessel_checked.f 40 [l0, l1] = some 20) := ⟨checked_bad1 hv⟩
    clear hv
    go_enter Try.func60, Try.ntmps60
    go_wp2_with fail
    refine (vessel_checked.calls 40 _ 2 [l0, l1] 20 _ (pair_row (Kd.C_below (kc_ HR0 HB) (ba_ _ _)) HC0.out (Kd.C_below (kc_ HR1 HB) (ba_ _ _)) HC1.out (blk_new _ _)) (by simp) HK.out).mono ?_
    rintro e w1 ⟨rfl, hb⟩
    replace hb := below_step (ba_ _ _) hb
    replace HB := bs_ HB hb
    clear hb
    go_wp2
    go_ret2
    rw [HF.out]
    exact ⟨_, rfl, Kd.R_nil _ _ _ _ _, HB.out⟩
end Go.Proofs.Ytlhfclpbodfmcaa.Pr
namespace Go.Proofs.Ytlhfclpbodfmcaa.Pr
open Go.RowKit Go.Proofs.YtlhfclpbodfmcaaW.PrintWords Go.Proofs.YtlhfclpbodfmcaaW.PrintLast Go.Proofs.YtlhfclpbodfmcaaW.PrintMore
open Go.Proofs.Ytlhfclpbodfmcaa.Vm
set_option linter.unusedVariables false
set_option linter.unusedSimpArgs false
attribute [local go_sem] fld79_0 fld79_1 fld79_2
set_option maxHeartbeats 1600000 in
set_option maxRecDepth 100000 in
theorem ref_Stacked.calls (A0 : Option Addr) (c0 : Nat) (l0 : List S79) (A1 : Option Addr) (c1 : Nat) (l1 : List S79) (w : World) (hr0 : Kd.C k79 w A0 l0.length l0) (hc0 : l0.length ≤ c0) (hr1 : Kd.C k79 w A1 l1.length l1) (hc1 : l1.length ≤ c1) :
    Calls Try.prog 61 #[.slice A0 l0.length c0, .slice A1 l1.length c1] w fun e w' => ∃ v0_ : Value, e = .returned (.tuple #[v0_, .int .i64 (StackedF l0 l1).2]) ∧ Kd.R k79 79 w' w.heap.size (fun _ => True) v0_ (StackedF l0 l1).1 ∧ Below w.heap.size w w' := by
  have hu79 := Try.underlying79
  have HR0 := Aside0.mk hr0
  have HC0 := Aside0.mk hc0
  have HR1 := Aside0.mk hr1
  have HC1 := Aside0.mk hc1
  clear hr0 hc0 hr1 hc1
  have HB := Aside0.mk (Below.refl w.heap.size w)
  by_cases hv : validB l0 = true
  · by_cases hu : validB l1 = true
    · obtain ⟨ll, hll⟩ : ∃ x, l0 ++ l1 = x := ⟨_, rfl⟩
      have HFF : Aside0 (StackedF l0 l1 = if 24 < ll.length then ([], 2) else if validB ll then (ll, 0) else ([], 1)) := ⟨by unfold StackedF; rw [if_pos hv, if_pos hu, hll]⟩
      have HLL := Aside0.mk hll
      clear hll
      have D0 : Aside0 (∀ W, Below w.heap.size w W → Calls Try.prog 53 #[.slice A0 l0.length c0] W fun e w' => e = .returned (.int .i64 0) ∧ Below W.heap.size W w') := ⟨fun W hB => by have h := ref_Check.calls A0 c0 l0 W (Kd.C_below HR0.out hB); rwa [show checkF l0 = 0 by unfold checkF; rw [if_pos hv]] at h⟩
      have D1 : Aside0 (∀ W, Below w.heap.size w W → Calls Try.prog 53 #[.slice A1 l1.length c1] W fun e w' => e = .returned (.int .i64 0) ∧ Below W.heap.size W w') := ⟨fun W hB => by have h := ref_Check.calls A1 c1 l1 W (Kd.C_below HR1.out hB); rwa [show checkF l1 = 0 by unfold checkF; rw [if_pos hu]] at h⟩
      have HLN : Aside0 (l0.length ≤ 24 ∧ l1.length ≤ 24) := ⟨by have h0 := (valid_GV hv).h.ln; have h1 := (valid_GV hu).h.ln; rw [List.length_map] at h0 h1; exact ⟨h0, h1⟩⟩
      clear hv hu
      go_enter Try.func61, Try.ntmps61
      go_wp2_with fail
      refine (D0.out _ HB.out).mono ?_
      rintro e w5 ⟨rfl, hb⟩
      replace hb := nb_ HB hb
      replace HB := bs_ HB hb
      clear hb
      go_wp2_with fail
      refine (D1.out _ HB.out).mono ?_
      rintro e w6 ⟨rfl, hb⟩
      replace hb := nb_ HB hb
      replace HB := bs_ HB hb
      clear hb
      have RO : Aside0 (Kd.R k79 79 w6 w.heap.size (fun _ => True) (.slice none 0 0) ([] : List S79)) := ⟨Kd.R_nil _ _ _ _ _⟩
      by_cases hb : 24 < ll.length
      · have HF : Aside0 (StackedF l0 l1 = ([], 2)) := ⟨by rw [HFF.out, if_pos hb]⟩
        have d1 : decide ((24 : Int) < (ll.length : Int)) = true := decide_eq_true (by omega)
        have d2 : decide (24 < ll.length) = true := decide_eq_true hb
        clear hb
        go_wp2_with (first | ((with_reducible refine gate_dst (N := 21) rfl ?_); refine Kd.R_append_rows (α := S79) k79 (Rr := k79.K _) (w0 := w) w.heap.size ?hg (Operand.tmp 19) (Operand.tmp 20) 23 79 (.agg #[.int .i64 0, .int .i64 0, .int .i64 0]) 24 ?ho Try.underlying23 info79 (by rfl) (by decide) (by decide) (.slice none 0 0) ([] : List S79) l0 A0 l0.length c0 (fun _ => True) (fun _ => False) ?hs ?hx RO.out (kc_ HR0 HB) ?hKM (fun _ hk => False.elim hk) (fun _ _ => trivial) HB.out HB.out.size ?hl ?_; (case hg => rfl); (case ho => rfl); (case hs => rfl); (case hx => rfl); (case hKM => intro x cs h; obtain rfl := k79_open h; exact k79_mkM _ _ _ _); (case hl => have := HLN.out; first | omega | (simp; omega)); intro v2_ wa0 ho hb hg hat; simp only [List.nil_append] at ho; have h_ := Aside0.mk hb; clear RO HB hb hg hat; have HB := h_; clear h_; have RO := Aside0.mk ho; clear ho) | ((with_reducible refine gate_dst (N := 24) rfl ?_); refine Kd.R_append_rows (α := S79) k79 (Rr := k79.K _) (w0 := w) w.heap.size ?hg (Operand.tmp 22) (Operand.tmp 23) 23 79 (.agg #[.int .i64 0, .int .i64 0, .int .i64 0]) 24 ?ho Try.underlying23 info79 (by rfl) (by decide) (by decide) (v2_) l0 l1 A1 l1.length c1 (fun _ => True) (fun _ => False) ?hs ?hx RO.out (kc_ HR1 HB) ?hKM (fun _ hk => False.elim hk) (fun _ _ => trivial) HB.out HB.out.size ?hl ?_; (case hg => rfl); (case ho => rfl); (case hs => rfl); (case hx => rfl); (case hKM => intro x cs h; obtain rfl := k79_open h; exact k79_mkM _ _ _ _); (case hl => have := HLN.out; first | omega | (simp; omega)); intro v3_ wa1 ho hb hg hat; rw [HLL.out] at ho; have h_ := Aside0.mk hb; clear RO HB hb hg hat; have HB := h_; clear h_; obtain ⟨A3, c3, rfl, hc3, k3⟩ := Kd.R_reads ho; have RO := Aside0.mk ho; have C3 := Aside0.mk hc3; have K3 := Aside0.mk k3; clear ho hc3 k3))
        go_ret2
        rw [HF.out]
        exact ⟨_, rfl, Kd.R_nil _ _ _ _ _, HB.out⟩
      · cases hw : validB ll
        · have HV := Aside0.mk hw
          have HF : Aside0 (StackedF l0 l1 = ([], 1)) := ⟨by rw [HFF.out, if_neg hb, hw]; rfl⟩
          have d1 : decide ((24 : Int) < (ll.length : Int)) = false := decide_eq_false (by omega)
          have d2 : decide (24 < ll.length) = false := decide_eq_false hb
          clear hb hw
          go_wp2_with (first | ((with_reducible refine gate_dst (N := 21) rfl ?_); refine Kd.R_append_rows (α := S79) k79 (Rr := k79.K _) (w0 := w) w.heap.size ?hg (Operand.tmp 19) (Operand.tmp 20) 23 79 (.agg #[.int .i64 0, .int .i64 0, .int .i64 0]) 24 ?ho Try.underlying23 info79 (by rfl) (by decide) (by decide) (.slice none 0 0) ([] : List S79) l0 A0 l0.length c0 (fun _ => True) (fun _ => False) ?hs ?hx RO.out (kc_ HR0 HB) ?hKM (fun _ hk => False.elim hk) (fun _ _ => trivial) HB.out HB.out.size ?hl ?_; (case hg => rfl); (case ho => rfl); (case hs => rfl); (case hx => rfl); (case hKM => intro x cs h; obtain rfl := k79_open h; exact k79_mkM _ _ _ _); (case hl => have := HLN.out; first | omega | (simp; omega)); intro v2_ wa0 ho hb hg hat; simp only [List.nil_append] at ho; have h_ := Aside0.mk hb; clear RO HB hb hg hat; have HB := h_; clear h_; have RO := Aside0.mk ho; clear ho) | ((with_reducible refine gate_dst (N := 24) rfl ?_); refine Kd.R_append_rows (α := S79) k79 (Rr := k79.K _) (w0 := w) w.heap.size ?hg (Operand.tmp 22) (Operand.tmp 23) 23 79 (.agg #[.int .i64 0, .int .i64 0, .int .i64 0]) 24 ?ho Try.underlying23 info79 (by rfl) (by decide) (by decide) (v2_) l0 l1 A1 l1.length c1 (fun _ => True) (fun _ => False) ?hs ?hx RO.out (kc_ HR1 HB) ?hKM (fun _ hk => False.elim hk) (fun _ _ => trivial) HB.out HB.out.size ?hl ?_; (case hg => rfl); (case ho => rfl); (case hs => rfl); (case hx => rfl); (case hKM => intro x cs h; obtain rfl := k79_open h; exact k79_mkM _ _ _ _); (case hl => have := HLN.out; first | omega | (simp; omega)); intro v3_ wa1 ho hb hg hat; rw [HLL.out] at ho; have h_ := Aside0.mk hb; clear RO HB hb hg hat; have HB := h_; clear h_; obtain ⟨A3, c3, rfl, hc3, k3⟩ := Kd.R_reads ho; have RO := Aside0.mk ho; have C3 := Aside0.mk hc3; have K3 := Aside0.mk k3; clear ho hc3 k3))
          refine (show Calls Try.prog 53 #[.slice A3 ll.length c3] _ (fun e w' => e = .returned (.int .i64 20) ∧ Below _ _ w') from (by have h := ref_Check.calls A3 c3 ll _ K3.out; rwa [show checkF ll = 20 by unfold checkF; rw [HV.out]; rfl] at h)).mono ?_
          rintro e wz ⟨rfl, hb⟩
          replace RO := Aside0.mk (Kd.R_below RO.out hb)
          replace HB := bs_ HB hb
          clear hb
          go_wp2
          go_ret2
          rw [HF.out]
          exact ⟨_, rfl, Kd.R_nil _ _ _ _ _, HB.out⟩
        · have HV := Aside0.mk hw
          have HF : Aside0 (StackedF l0 l1 = (ll, 0)) := ⟨by rw [HFF.out, if_neg hb, hw]; rfl⟩
          have d1 : decide ((24 : Int) < (ll.length : Int)) = false := decide_eq_false (by omega)
          have d2 : decide (24 < ll.length) = false := decide_eq_false hb
          clear hb hw
          go_wp2_with (first | ((with_reducible refine gate_dst (N := 21) rfl ?_); refine Kd.R_append_rows (α := S79) k79 (Rr := k79.K _) (w0 := w) w.heap.size ?hg (Operand.tmp 19) (Operand.tmp 20) 23 79 (.agg #[.int .i64 0, .int .i64 0, .int .i64 0]) 24 ?ho Try.underlying23 info79 (by rfl) (by decide) (by decide) (.slice none 0 0) ([] : List S79) l0 A0 l0.length c0 (fun _ => True) (fun _ => False) ?hs ?hx RO.out (kc_ HR0 HB) ?hKM (fun _ hk => False.elim hk) (fun _ _ => trivial) HB.out HB.out.size ?hl ?_; (case hg => rfl); (case ho => rfl); (case hs => rfl); (case hx => rfl); (case hKM => intro x cs h; obtain rfl := k79_open h; exact k79_mkM _ _ _ _); (case hl => have := HLN.out; first | omega | (simp; omega)); intro v2_ wa0 ho hb hg hat; simp only [List.nil_append] at ho; have h_ := Aside0.mk hb; clear RO HB hb hg hat; have HB := h_; clear h_; have RO := Aside0.mk ho; clear ho) | ((with_reducible refine gate_dst (N := 24) rfl ?_); refine Kd.R_append_rows (α := S79) k79 (Rr := k79.K _) (w0 := w) w.heap.size ?hg (Operand.tmp 22) (Operand.tmp 23) 23 79 (.agg #[.int .i64 0, .int .i64 0, .int .i64 0]) 24 ?ho Try.underlying23 info79 (by rfl) (by decide) (by decide) (v2_) l0 l1 A1 l1.length c1 (fun _ => True) (fun _ => False) ?hs ?hx RO.out (kc_ HR1 HB) ?hKM (fun _ hk => False.elim hk) (fun _ _ => trivial) HB.out HB.out.size ?hl ?_; (case hg => rfl); (case ho => rfl); (case hs => rfl); (case hx => rfl); (case hKM => intro x cs h; obtain rfl := k79_open h; exact k79_mkM _ _ _ _); (case hl => have := HLN.out; first | omega | (simp; omega)); intro v3_ wa1 ho hb hg hat; rw [HLL.out] at ho; have h_ := Aside0.mk hb; clear RO HB hb hg hat; have HB := h_; clear h_; obtain ⟨A3, c3, rfl, hc3, k3⟩ := Kd.R_reads ho; have RO := Aside0.mk ho; have C3 := Aside0.mk hc3; have K3 := Aside0.mk k3; clear ho hc3 k3))
          refine (show Calls Try.prog 53 #[.slice A3 ll.length c3] _ (fun e w' => e = .returned (.int .i64 0) ∧ Below _ _ w') from (by have h := ref_Check.calls A3 c3 ll _ K3.out; rwa [show checkF ll = 0 by unfold checkF; rw [HV.out]; rfl] at h)).mono ?_
          rintro e wz ⟨rfl, hb⟩
          replace RO := Aside0.mk (Kd.R_below RO.out hb)
          replace HB := bs_ HB hb
          clear hb
          go_wp2
          go_ret2
          rw [HF.out]
          exact ⟨_, rfl, RO.out, HB.out⟩
    · have HF : Aside0 (StackedF l0 l1 = ([], 20)) := ⟨by unfold StackedF; rw [if_pos hv, if_neg hu]⟩
      have D0 : Aside0 (∀ W, Below w.heap.size w W → Calls Try.prog 53 #[.slice A0 l0.length c0] W fun e w' => e = .returned (.int .i64 0) ∧ Below W.heap.size W w') := ⟨fun W hB => by have h := ref_Check.calls A0 c0 l0 W (Kd.C_below HR0.out hB); rwa [show checkF l0 = 0 by unfold checkF; rw [if_pos hv]] at h⟩
      have D1 : Aside0 (∀ W, Below w.heap.size w W → Calls Try.prog 53 #[.slice A1 l1.length c1] W fun e w' => e = .returned (.int .i64 20) ∧ Below W.heap.size W w') := ⟨fun W hB => by have h := ref_Check.calls A1 c1 l1 W (Kd.C_below HR1.out hB); rwa [show checkF l1 = 20 by unfold checkF; rw [if_neg hu]] at h⟩
      clear hv hu
      go_enter Try.func61, Try.ntmps61
      go_wp2_with fail
      refine (D0.out _ HB.out).mono ?_
      rintro e w3 ⟨rfl, hb⟩
      replace hb := nb_ HB hb
      replace HB := bs_ HB hb
      clear hb
      go_wp2_with fail
      refine (D1.out _ HB.out).mono ?_
      rintro e w4 ⟨rfl, hb⟩
      replace hb := nb_ HB hb
      replace HB := bs_ HB hb
      clear hb
      go_wp2
      go_ret2
      rw [HF.out]
      exact ⟨_, rfl, Kd.R_nil _ _ _ _ _, HB.out⟩
  · have HF : Aside0 (StackedF l0 l1 = ([], 20)) := ⟨by unfold StackedF; rw [if_neg hv]⟩
    have D0 : Aside0 (∀ W, Below w.heap.size w W → Calls Try.prog 53 #[.slice A0 l0.length c0] W fun e w' => e = .returned (.int .i64 20) ∧ Below W.heap.size W w') := ⟨fun W hB => by have h := ref_Check.calls A0 c0 l0 W (Kd.C_below HR0.out hB); rwa [show checkF l0 = 20 by unfold checkF; rw [if_neg hv]] at h⟩
    clear hv
    go_enter Try.func61, Try.ntmps61
    go_wp2_with fail
    refine (D0.out _ HB.out).mono ?_
    rintro e w2 ⟨rfl, hb⟩
    replace hb := nb_ HB hb
    replace HB := bs_ HB hb
    clear hb
    go_wp2
    go_ret2
    rw [HF.out]
    exact ⟨_, rfl, Kd.R_nil _ _ _ _ _, HB.out⟩
end Go.Proofs.Ytlhfclpbodfmcaa.Pr
namespace Go.Proofs.Ytlhfclpbodfmcaa.Pr
open Go.RowKit Go.Proofs.YtlhfclpbodfmcaaW.PrintWords Go.Proofs.YtlhfclpbodfmcaaW.PrintLast Go.Proofs.YtlhfclpbodfmcaaW.PrintMore
open Go.Proofs.Ytlhfclpbodfmcaa.Vm
set_option linter.unusedVariables false
set_option linter.unusedSimpArgs false
attribute [local go_sem] fld79_0 fld79_1 fld79_2
/-- What ready answers. -/
def readyC (l : List S79) (n : Int) (lv : List Int) : Int := if validB l then (if lv.all (lvB l) && manyB n then 0 else 1) else 20
theorem inB_lvB (l : List S79) (x : Int) : inB x 0 (sm (hsO l)) = lvB l x := by rw [Bool.eq_iff_iff, inB_iff, lvB_iff]
theorem inB_manyB (n : Int) : inB n 0 16777216 = manyB n := by rw [Bool.eq_iff_iff, inB_iff, manyB_iff]
theorem ready_cases (l : List S79) (n : Int) (lv : List Int) : (∃ c, readyC l n lv = c ∧ c ≠ 0) ∨ (readyC l n lv = 0 ∧ validB l = true ∧ lv.all (lvB l) = true ∧ manyB n = true) := by
  unfold readyC
  cases hv : validB l with
  | false => exact .inl ⟨20, rfl, by decide⟩
  | true =>
    cases ha : lv.all (lvB l) with
    | false => exact .inl ⟨1, rfl, by decide⟩
    | true =>
      cases hm : manyB n with
      | false => exact .inl ⟨1, rfl, by decide⟩
      | true => exact .inr ⟨rfl, rfl, rfl, rfl⟩
def ref_ready.T7 : Bool × List (List Nat × List Nat) := (true, [([], []), ([], []), ([0, 1], [0, 1]), ([2], [2]), ([], []), ([4], [4]), ([3, 5, 5], [3, 5]), ([6], [6])])
def ref_ready.B7 : List Nat := [0, 0, 3, 7, 0, 16, 63, 127]
theorem ref_ready.tab7 : rtab .any (opsOf Try.f77 7) = ref_ready.T7 := by kernel_rfl
theorem ref_ready.bits7 : waitsOk ref_ready.T7.2 ref_ready.B7 = true := by kernel_rfl
set_option maxHeartbeats 1600000 in
set_option maxRecDepth 100000 in
theorem ref_ready.calls (A0 : Option Addr) (c0 : Nat) (l0 : List S79) (n : Int) (A1 : Option Addr) (c1 : Nat) (lv : List Int) (w : World) (hr0 : Kd.C k79 w A0 l0.length l0) (hr1 : Kd.C (Kd.int .i64) w A1 lv.length lv) (hl : lv.length ≤ 1000) : Calls Try.prog 77 #[.slice A0 l0.length c0, .int .i64 n, .slice A1 lv.length c1] w fun e w' => e = .returned (.int .i64 (readyC l0 n lv)) ∧ Below w.heap.size w w' := by
  have HR0 := Aside0.mk hr0
  have HR1 := Aside0.mk hr1
  have HLL := Aside0.mk hl
  clear hr0 hr1 hl
  have HB := Aside0.mk (Below.refl w.heap.size w)
  have CK : Aside0 (∀ W, Below w.heap.size w W → Calls Try.prog 53 #[.slice A0 l0.length c0] W fun e w' => e = .returned (.int .i64 (checkF l0)) ∧ Below W.heap.size W w') := ⟨fun W hB => ref_Check.calls A0 c0 l0 W (Kd.C_below HR0.out hB)⟩
  cases hv : validB l0
  · have HE : Aside0 (readyC l0 n lv = 20) := ⟨by unfold readyC; rw [hv]; rfl⟩
    have hc : checkF l0 = 20 := by unfold checkF; rw [hv]; rfl
    have CK2 := CK.out
    rw [hc] at CK2
    have CK3 := Aside0.mk CK2
    clear CK CK2 hc hv
    go_enter Try.func77, Try.ntmps77
    go_wp2_with fail
    refine (CK3.out _ HB.out).mono ?_
    rintro e w1 ⟨rfl, hb⟩
    replace HB := bs_ HB hb
    clear hb
    go_wp2
    go_ret
    exact ⟨by first | (rw [HE.out]; done) | (rw [HE.out]; rfl), HB.out⟩
  · have HE : Aside0 (readyC l0 n lv = if lv.all (lvB l0) && manyB n then 0 else 1) := ⟨by unfold readyC; rw [hv]; rfl⟩
    have hc : checkF l0 = 0 := by unfold checkF; rw [hv]; rfl
    have CK2 := CK.out
    rw [hc] at CK2
    have CK3 := Aside0.mk CK2
    have HG := Aside0.mk (valid_GV hv)
    clear CK CK2 hc hv
    have C1 : Aside0 (∀ W, Below w.heap.size w W → Calls Try.prog 103 #[.slice A0 l0.length c0] W fun e w' => e = .returned (.int .i64 (sm (hsO l0))) ∧ Below W.heap.size W w') := ⟨fun W hB => ref_high.calls A0 c0 l0 W (Kd.C_below HR0.out hB) HG.out⟩
    go_enter Try.func77, Try.ntmps77
    go_wp2_with fail
    refine (CK3.out _ HB.out).mono ?_
    rintro e w1 ⟨rfl, hb⟩
    replace HB := bs_ HB hb
    clear hb
    go_wp2
    go_loopg [8] lv.length (fun kq v8 w' => ∃ j : Nat, v8 = .int .i64 (j : Int) ∧ Aside0 (j ≤ lv.length ∧ lv.length - j ≤ kq ∧ lv.all (lvB l0) = (lv.drop j).all (lvB l0)) ∧ Aside0 (Below w.heap.size w w'))
    case atStart => exact ⟨0, rfl, ⟨Nat.zero_le _, by omega, rfl⟩, HB⟩
    case round =>
      clear HB
      obtain ⟨j, rfl, HJ, HB⟩ := hrel
      by_cases hj : j < lv.length
      · have hd : decide ((j : Int) < (lv.length : Int)) = true := decide_eq_true (by omega)
        have hd2 : decide (j < lv.length) = true := decide_eq_true hj
        have HJL := Aside0.mk hj
        have hi0 : (0 : Int) ≤ (j : Int) := by omega
        have hi1 : (j : Int) < (lv.length : Int) := by omega
        obtain ⟨ad, q_, x0_⟩ := Kd.at_int HR1.out (j : Int) hi0 hi1
        subst q_
        simp only [Int.toNat_natCast] at x0_
        have X0 := Aside0.mk x0_
        clear x0_
        have EW : Aside0 (wrap64 ((j : Int) + 1) = ((j + 1 : Nat) : Int)) := ⟨by have := HLL.out; rw [wrp_ (by omega) (by omega)]; rfl⟩
        have HDR : Aside0 ((lv.drop j).all (lvB l0) = (lvB l0 (rd lv (j : Int)) && (lv.drop (j + 1)).all (lvB l0))) := ⟨by rw [List.drop_eq_getElem_cons hj, List.all_cons]; simp [rd, List.getElem?_eq_getElem hj]⟩
        clear hj
        cases hb1 : lvB l0 (rd lv (j : Int))
        · have C2 : Aside0 (∀ W, Calls Try.prog 104 #[.int .i64 (rd lv (j : Int)), .int .i64 0, .int .i64 (sm (hsO l0))] W fun e w' => e = .returned (.bool false) ∧ Below W.heap.size W w') := ⟨fun W => hb1 ▸ inB_lvB l0 _ ▸ ref_within.calls (rd lv (j : Int)) 0 (sm (hsO l0)) W⟩
          have HX : Aside0 (lv.all (lvB l0) = false) := ⟨by rw [HJ.out.2.2, HDR.out, hb1]; rfl⟩
          clear hb1
          go_wp2
          replace HB := bd_ HB
          refine sM_ [] (fun w' => w'.cell? (ad.add j) = some (.int .i64 (rd lv (j : Int)))) ref_ready.tab7 ref_ready.bits7 (pw_cell_below HB.out X0.out) (fun hHeld HT_ HW_ => ?_)
          generalize wr.drew = w3 at HB hHeld ⊢
          refine pM_ HT_ 0 20 1 ?_
          refine pM_ HT_ 1 21 3 ?_
          refine pM_ HT_ 2 22 7 ?_
          refine pM_ HT_ 4 24 23 ?_
          refine tM_ HT_ HW_ hHeld 3 23 31 ?_
          refine oM_ HT_ 5 (some 25) 63 (fun K hK => ?_)
          refine gM_ Try.func103 (C1.out _ HB.out) ?_
          rintro e w4 ⟨rfl, hb⟩
          refine ⟨.int .i64 _, rfl, ?_⟩
          replace hb := nb_ HB hb
          replace HB := bs_ HB hb
          (try clear hb)
          refine hK.out _ _ (pw_cell_below HB.out X0.out) (fun hHeld => ?_)
          clear hK K
          refine nM_ ?_
          refine oM_ HT_ 6 (some 26) 127 (fun K hK => ?_)
          refine gM_ Try.func104 (C2.out _) ?_
          rintro e w5 ⟨rfl, hb⟩
          refine ⟨.bool _, rfl, ?_⟩
          replace hb := nb_ HB hb
          replace HB := bs_ HB hb
          (try clear hb)
          refine hK.out _ _ (pw_cell_below HB.out X0.out) (fun hHeld => ?_)
          clear hK K
          refine nM_ ?_
          refine pM_ HT_ 7 27 255 ?_
          refine dM_ HT_ ?_
          go_wp2
          go_ret
          exact ⟨by first | (rw [HE.out, HX.out]; done) | (rw [HE.out, HX.out]; rfl), HB.out⟩
        · have C2 : Aside0 (∀ W, Calls Try.prog 104 #[.int .i64 (rd lv (j : Int)), .int .i64 0, .int .i64 (sm (hsO l0))] W fun e w' => e = .returned (.bool true) ∧ Below W.heap.size W w') := ⟨fun W => hb1 ▸ inB_lvB l0 _ ▸ ref_within.calls (rd lv (j : Int)) 0 (sm (hsO l0)) W⟩
          have HX : Aside0 (lv.all (lvB l0) = (lv.drop (j + 1)).all (lvB l0)) := ⟨by rw [HJ.out.2.2, HDR.out, hb1]; rfl⟩
          clear hb1
          go_wp2
          replace HB := bd_ HB
          refine sM_ [] (fun w' => w'.cell? (ad.add j) = some (.int .i64 (rd lv (j : Int)))) ref_ready.tab7 ref_ready.bits7 (pw_cell_below HB.out X0.out) (fun hHeld HT_ HW_ => ?_)
          generalize wr.drew = w3 at HB hHeld ⊢
          refine pM_ HT_ 0 20 1 ?_
          refine pM_ HT_ 1 21 3 ?_
          refine pM_ HT_ 2 22 7 ?_
          refine pM_ HT_ 4 24 23 ?_
          refine tM_ HT_ HW_ hHeld 3 23 31 ?_
          refine oM_ HT_ 5 (some 25) 63 (fun K hK => ?_)
          refine gM_ Try.func103 (C1.out _ HB.out) ?_
          rintro e w4 ⟨rfl, hb⟩
          refine ⟨.int .i64 _, rfl, ?_⟩
          replace hb := nb_ HB hb
          replace HB := bs_ HB hb
          (try clear hb)
          refine hK.out _ _ (pw_cell_below HB.out X0.out) (fun hHeld => ?_)
          clear hK K
          refine nM_ ?_
          refine oM_ HT_ 6 (some 26) 127 (fun K hK => ?_)
          refine gM_ Try.func104 (C2.out _) ?_
          rintro e w5 ⟨rfl, hb⟩
          refine ⟨.bool _, rfl, ?_⟩
          replace hb := nb_ HB hb
          replace HB := bs_ HB hb
          (try clear hb)
          refine hK.out _ _ (pw_cell_below HB.out X0.out) (fun hHeld => ?_)
          clear hK K
          refine nM_ ?_
          refine pM_ HT_ 7 27 255 ?_
          refine dM_ HT_ ?_
          go_wp2
          go_roundg (gk - 1)
          case measure => have := HJ.out; have := HJL.out; omega
          case rel => exact ⟨j + 1, by rw [EW.out], ⟨by have := HJL.out; omega, by have := HJ.out; omega, HX.out⟩, HB⟩
      · have hd : decide ((j : Int) < (lv.length : Int)) = false := decide_eq_false (by omega)
        have hd2 : decide (j < lv.length) = false := decide_eq_false hj
        have HX : Aside0 (lv.all (lvB l0) = true) := ⟨by rw [HJ.out.2.2, List.drop_of_length_le (by omega)]; rfl⟩
        clear hj
        cases hm : manyB n
        · have HV : Aside0 (readyC l0 n lv = 1) := ⟨by rw [HE.out, HX.out, hm]; rfl⟩
          have C3 : Aside0 (∀ W, Calls Try.prog 104 #[.int .i64 n, .int .i64 0, .int .i64 16777216] W fun e w' => e = .returned (.bool false) ∧ Below W.heap.size W w') := ⟨fun W => hm ▸ inB_manyB n ▸ ref_within.calls n 0 16777216 W⟩
          clear hm
          go_wp2_with fail
          refine (C3.out _).mono ?_
          rintro e w3 ⟨rfl, hb⟩
          replace HB := bs_ HB hb
          clear hb
          go_wp2
          go_ret
          exact ⟨by first | (rw [HV.out]; done) | (rw [HV.out]; rfl), HB.out⟩
        · have HV : Aside0 (readyC l0 n lv = 0) := ⟨by rw [HE.out, HX.out, hm]; rfl⟩
          have C3 : Aside0 (∀ W, Calls Try.prog 104 #[.int .i64 n, .int .i64 0, .int .i64 16777216] W fun e w' => e = .returned (.bool true) ∧ Below W.heap.size W w') := ⟨fun W => hm ▸ inB_manyB n ▸ ref_within.calls n 0 16777216 W⟩
          clear hm
          go_wp2_with fail
          refine (C3.out _).mono ?_
          rintro e w3 ⟨rfl, hb⟩
          replace HB := bs_ HB hb
          clear hb
          go_wp2
          go_ret
          exact ⟨by first | (rw [HV.out]; done) | (rw [HV.out]; rfl), HB.out⟩
end Go.Proofs.Ytlhfclpbodfmcaa.Pr
namespace Go.Proofs.Ytlhfclpbodfmcaa.Pr
open Go.RowKit Go.Proofs.YtlhfclpbodfmcaaW.PrintWords Go.Proofs.YtlhfclpbodfmcaaW.PrintLast Go.Proofs.YtlhfclpbodfmcaaW.PrintMore
open Go.Proofs.Ytlhfclpbodfmcaa.Vm
set_option linter.unusedVariables false
set_option linter.unusedSimpArgs false
attribute [local go_sem] fld79_0 fld79_1 fld79_2
attribute [local go_sem] min2_int min_two
theorem app79_step {P : Program} {ops : Array Oper} {o : Oper} {a : Act} {Q : Exit → Act → World → Prop} {Kc : Act → World → Prop} {w W : World} (hw : Region.wanted o (yielded ops a.tmps) = true) (s x : Operand) (t e : TypeId)
    (ho : o.op = .call { callee := .builtin .append, args := #[s, x], argTypes := #[t, t] }) (ht : P.underlying t = some (.slice e)) (hi : (P.info? e).map (fun i => (i.zero, i.size, i.bytes)) = some (some (.agg #[.int .i64 0, .int .i64 0, .int .i64 0]), 3, 24))
    (v : Value) (xs : List S79) (y : S79) (ga : Nat) (hs : a.eval s = v) (hx : a.eval x = .slice (some ⟨ga, 0, none⟩) 1 1) (HO : Kd.R k79 e W w.heap.size (fun _ => True) v xs) (HL : W.heap[ga]? = some (.cells #[.int .i64 y.f0, .int .i64 y.f1, .int .i64 y.f2] e (0, 0))) (HB : Below w.heap.size w W) (hl : xs.length ≤ 1000)
    (h : ∀ v1 w1, Kd.R k79 e w1 w.heap.size (fun _ => True) v1 (xs ++ [y]) → Below w.heap.size w w1 → W.grownBy w1 v.ownBlock → (v1.ownBlock = v.ownBlock ∨ ∃ b, v1.ownBlock = some b ∧ W.heap.size ≤ b) → Kc (a.put o.dst v1) w1) :
    if Region.wanted o (yielded ops a.tmps) = true then Oper.wp P o a W Kc Q else Kc (a.put o.dst undef) W := by
  refine Kd.R_append_rows_step k79 (w0 := w) w.heap.size hw s x t e (.agg #[.int .i64 0, .int .i64 0, .int .i64 0]) 24 ho ht hi (by rfl) (by decide) (by decide) v xs [y] (some ⟨ga, 0, none⟩) 1 1 (fun _ => True) (fun _ => False) hs hx HO (recRow79 HL) ?_ (fun k hk => hk.elim) (fun k hk => trivial) HB HB.size (by omega) h
  intro x cs hc
  subst hc
  exact k79_mkM _ _ _ x
/-- What holds of the rings cut so far, at the level that is left. -/
structure CInv (l done : List S79) (a lv : Int) (n : Nat) : Prop where
  len : done.length ≤ n
  go : 1 ≤ lv → cutGo l a = (cutGo (l.drop n) lv).map (done ++ ·)
  stop : lv ≤ 0 → cutGo l a = some done
  lv : lv = a - sm ((hsO l).take n)
theorem drop_rd {l : List S79} {n : Nat} (h : n < l.length) : l.drop n = rd_T79 l (n : Int) :: l.drop (n + 1) := by rw [List.drop_eq_getElem_cons h]; simp [rd_T79, List.getD_eq_getElem?_getD, List.getElem?_eq_getElem h]
theorem CInv.step {l done : List S79} {a lv : Int} {n : Nat} (h : CInv l done a lv n) (hn : n < l.length) (h1 : 1 ≤ lv) (hp : (partF (rd_T79 l (n : Int)) (min lv (rd_T79 l (n : Int)).f0)).2 = true) :
    CInv l (done ++ [(partF (rd_T79 l (n : Int)) (min lv (rd_T79 l (n : Int)).f0)).1]) a (lv - (rd_T79 l (n : Int)).f0) (n + 1) := by
  have g := h.go h1
  rw [drop_rd hn] at g
  simp only [cutGo] at g
  rw [if_pos hp] at g
  refine ⟨by have := h.len; simp; omega, fun h2 => ?_, fun h2 => ?_, ?_⟩
  · rw [g, if_neg (by omega)]
    cases cutGo (l.drop (n + 1)) (lv - (rd_T79 l (n : Int)).f0) <;> simp
  · rw [g, if_pos h2]; rfl
  · have e := sm_take_succ (hsO l) n (by simpa using hn)
    rw [(rd79_gt l n hn).1] at e
    rw [e, h.lv]; omega
theorem CInv.fail {l done : List S79} {a lv : Int} {n : Nat} (h : CInv l done a lv n) (hn : n < l.length) (h1 : 1 ≤ lv) (hp : (partF (rd_T79 l (n : Int)) (min lv (rd_T79 l (n : Int)).f0)).2 = false) : cutGo l a = none := by
  have g := h.go h1
  rw [drop_rd hn] at g
  simp only [cutGo] at g
  rw [if_neg (by rw [hp]; simp)] at g
  rw [g]; rfl
theorem CInv.done {l done : List S79} {a lv : Int} {n : Nat} (h : CInv l done a lv n) (hn : l.length ≤ n) : cutGo l a = some done := by
  by_cases h1 : 1 ≤ lv
  · rw [h.go h1, List.drop_of_length_le hn]; simp [cutGo]
  · exact h.stop (by omega)
def ref_Cut.T11 : Bool × List (List Nat × List Nat) := (true, [([], []), ([], []), ([], []), ([1, 2], [1, 2]), ([3], [3]), ([0, 4], [0, 4]), ([], []), ([6], [6]), ([5, 7], [5, 7]), ([8, 3, 0, 1, 2, 3, 4, 5, 6, 7, 8], [8])])
def ref_Cut.B11 : List Nat := [0, 0, 0, 6, 14, 31, 0, 64, 255, 511]
theorem ref_Cut.tab11 : rtab .any (opsOf Try.f63 11) = ref_Cut.T11 := by kernel_rfl
theorem ref_Cut.bits11 : waitsOk ref_Cut.T11.2 ref_Cut.B11 = true := by kernel_rfl
def ref_Cut.T15 : Bool × List (List Nat × List Nat) := (true, [([], []), ([], []), ([], []), ([2], [2]), ([], []), ([3, 4], [3, 4]), ([], []), ([6], [6]), ([5, 7], [5, 7]), ([], []), ([9], [9]), ([], []), ([10, 11], [10, 11]), ([], []), ([13], [13]), ([12, 14], [12, 14]), ([1, 8, 15], [1, 8, 15]), ([16], [16]), ([0, 17], [0, 17]), ([18, 18, 0, 1, 2, 3, 4, 5, 6, 7, 8, 9, 10, 11, 12, 13, 14, 15, 16, 17, 18], [0, 18])])
def ref_Cut.B15 : List Nat := [0, 0, 0, 4, 0, 28, 0, 64, 252, 0, 512, 0, 3584, 0, 8192, 32256, 65534, 131070, 262143, 524287]
theorem ref_Cut.tab15 : rtab .any (opsOf Try.f63 15) = ref_Cut.T15 := by kernel_rfl
theorem ref_Cut.bits15 : waitsOk ref_Cut.T15.2 ref_Cut.B15 = true := by kernel_rfl
set_option maxHeartbeats 1600000 in
set_option maxRecDepth 100000 in
theorem ref_Cut.calls (A0 : Option Addr) (c0 : Nat) (l0 : List S79) (a1 : Int) (w : World) (hr0 : Kd.C k79 w A0 l0.length l0) :
    Calls Try.prog 63 #[.slice A0 l0.length c0, .int .i64 a1] w fun e w' => ∃ v0_ : Value, e = .returned (.tuple #[v0_, .int .i64 (CutF l0 a1).2]) ∧ Kd.R k79 79 w' w.heap.size (fun _ => True) v0_ (CutF l0 a1).1 ∧ Below w.heap.size w w' := by
  have hu79 := Try.underlying79
  have HR0 := Aside0.mk hr0
  clear hr0
  have HB := Aside0.mk (Below.refl w.heap.size w)
  rcases ready_cases l0 0 [a1] with ⟨c, hc, hne⟩ | ⟨hc, hv, ha, hm⟩
  · have HF : Aside0 (CutF l0 a1 = ([], c)) := ⟨by
      unfold CutF
      unfold readyC at hc
      cases hv : validB l0 with
      | false => rw [hv] at hc; rw [← hc]; rfl
      | true =>
        rw [hv] at hc
        rw [if_pos rfl] at hc ⊢
        by_cases hx : lvB l0 a1 = true
        · rw [if_pos (by simp [hx, manyB])] at hc; exact absurd hc.symm hne
        · rw [if_neg (by simp [hx])] at hc; rw [if_neg (fun h => hx h.2), ← hc]⟩
    have HCR := Aside0.mk hc
    have h1 : (c != 0) = true := bne_iff_ne.2 hne
    have h2 : (c == 0) = false := beq_eq_false_iff_ne.2 hne
    clear hc hne
    go_enter Try.func63, Try.ntmps63
    go_wp2_with fail
    have K2 : Kd.C (Kd.int .i64) (w.alloc (.cells #[.int .i64 a1] 3 (0, 0))) (some ⟨w.heap.size, 0, none⟩) 1 [a1] := litJ w [a1] (by simp)
    have CR := ref_ready.calls A0 c0 l0 0 (some ⟨w.heap.size, 0, none⟩) 1 [a1] _ (Kd.C_below HR0.out (below_alloc HB.out _)) K2 (by simp)
    rw [HCR.out] at CR
    refine CR.mono ?_
    rintro e w2 ⟨rfl, hb⟩
    clear CR K2
    replace hb := below_step (ba_ _ _) hb
    replace hb := nb_ HB hb
    replace HB := bs_ HB hb
    clear hb
    go_wp2
    go_ret2
    rw [HF.out]
    exact ⟨_, rfl, Kd.R_nil _ _ _ _ _, HB.out⟩
  · have HCR := Aside0.mk hc
    have hl : lvB l0 a1 = true := by simpa using ha
    have HV := Aside0.mk hv
    have HL := Aside0.mk hl
    clear hc ha hm hl hv
    by_cases hz : a1 = 0
    · have HF : Aside0 (CutF l0 a1 = ([], 1)) := ⟨by unfold CutF; rw [if_pos HV.out, if_neg (fun h => h.1 hz)]⟩
      have hz1 : (a1 == 0) = true := beq_iff_eq.2 hz
      clear hz
      go_enter Try.func63, Try.ntmps63
      go_wp2_with fail
      have K2 : Kd.C (Kd.int .i64) (w.alloc (.cells #[.int .i64 a1] 3 (0, 0))) (some ⟨w.heap.size, 0, none⟩) 1 [a1] := litJ w [a1] (by simp)
      have CR := ref_ready.calls A0 c0 l0 0 (some ⟨w.heap.size, 0, none⟩) 1 [a1] _ (Kd.C_below HR0.out (below_alloc HB.out _)) K2 (by simp)
      rw [HCR.out] at CR
      refine CR.mono ?_
      rintro e w2 ⟨rfl, hb⟩
      clear CR K2
      replace hb := below_step (ba_ _ _) hb
      replace hb := nb_ HB hb
      replace HB := bs_ HB hb
      clear hb
      go_wp2
      go_ret2
      rw [HF.out]
      exact ⟨_, rfl, Kd.R_nil _ _ _ _ _, HB.out⟩
    · have HF1 : Aside0 (∀ x, cutGo l0 a1 = some x → CutF l0 a1 = (x, 0)) := ⟨fun x hx => by unfold CutF; rw [if_pos HV.out, if_pos ⟨hz, HL.out⟩, hx]⟩
      have HF2 : Aside0 (cutGo l0 a1 = none → CutF l0 a1 = ([], 11)) := ⟨fun hx => by unfold CutF; rw [if_pos HV.out, if_pos ⟨hz, HL.out⟩, hx]⟩
      have hz1 : (a1 == 0) = false := beq_eq_false_iff_ne.2 hz
      have HG : Aside0 (GV (hsO l0) (vsO l0) (dsO l0)) := ⟨valid_GV HV.out⟩
      have HRING := Aside0.mk (valid_ring HV.out)
      have HA : Aside0 (1 ≤ a1 ∧ a1 ≤ 24000) := ⟨by have h := lvB_iff.1 HL.out; have := HG.out.sums; omega⟩
      have HLEN : Aside0 (l0.length ≤ 24) := ⟨by have := HG.out.h.ln; rw [List.length_map] at this; exact this⟩
      clear hz
      go_enter Try.func63, Try.ntmps63
      go_wp2_with fail
      have K2 : Kd.C (Kd.int .i64) (w.alloc (.cells #[.int .i64 a1] 3 (0, 0))) (some ⟨w.heap.size, 0, none⟩) 1 [a1] := litJ w [a1] (by simp)
      have CR := ref_ready.calls A0 c0 l0 0 (some ⟨w.heap.size, 0, none⟩) 1 [a1] _ (Kd.C_below HR0.out (below_alloc HB.out _)) K2 (by simp)
      rw [HCR.out] at CR
      refine CR.mono ?_
      rintro e w2 ⟨rfl, hb⟩
      clear CR K2
      replace hb := below_step (ba_ _ _) hb
      replace hb := nb_ HB hb
      replace HB := bs_ HB hb
      clear hb
      have RO : Aside0 (Kd.R k79 79 w2 w.heap.size (fun _ => True) (.slice none 0 0) ([] : List S79)) := ⟨Kd.R_nil _ _ _ _ _⟩
      go_wp2
      go_loopg [7, 8] l0.length (fun kq v7 v8 w' => ∃ (n : Nat) (lv : Int) (done : List S79), v8 = .int .i64 (n : Int) ∧ Aside0 (n + kq = l0.length ∧ lv ≤ 24000 ∧ CInv l0 done a1 lv n) ∧ Aside0 (Kd.R k79 79 w' w.heap.size (fun _ => True) v7 done) ∧ Aside0 (Below w.heap.size w w'))
      case atStart => exact ⟨0, a1, [], rfl, ⟨by omega, HA.out.2, ⟨by simp, fun _ => by simp, fun h => by have := HA.out; omega, by simp [sm]⟩⟩, RO, HB⟩
      case round =>
        clear RO HB
        obtain ⟨n, lv, done, rfl, HI, RO, HB⟩ := hrel
        by_cases hij : n < l0.length
        · have hd : decide ((n : Int) < (l0.length : Int)) = true := decide_eq_true (by omega)
          have hd2 : decide (n < l0.length) = true := decide_eq_true hij
          have HIJ := Aside0.mk hij
          obtain ⟨S, hS⟩ : ∃ S, sm ((hsO l0).take n) = S := ⟨_, rfl⟩
          have HS : Aside0 (0 ≤ S ∧ S ≤ 24000 ∧ lv = a1 - S) := ⟨by have t := take_b HG.out.h.pos n; have := HG.out.sums; have := HI.out.2.2.lv; omega⟩
          have C3 : Aside0 (∀ W, Below w.heap.size w W → Calls Try.prog 91 #[.slice A0 l0.length c0, .int .i64 (n : Int)] W fun e w' => e = .returned (.agg #[.int .i64 S, .int .i64 (sm ((vsO l0).take n)), .int .i64 (sm ((dsO l0).take n))]) ∧ Below W.heap.size W w') := ⟨fun W hB => by have h := ref_Sums.calls A0 c0 l0 n W (Kd.C_below HR0.out hB) HG.out (by have := HIJ.out; omega); rwa [hS] at h⟩
          clear hS
          have p1 : (0 : Int) ≤ (n : Int) := by omega
          have q1 : (n : Int) < (l0.length : Int) := by omega
          obtain ⟨ad, e9, x0, x1, x2⟩ := at_T79 HR0.out (n : Int) p1 q1
          cases e9
          simp only [Int.toNat_natCast] at x0 x1 x2
          replace x0 := pw_cell_below HB.out x0
          replace x1 := pw_cell_below HB.out x1
          replace x2 := pw_cell_below HB.out x2
          have HRB := Aside0.mk (HRING.out _ (rd_mem hij))
          have HC1 := Aside0.mk (fun h1 h2 => CInv.step HI.out.2.2 hij h1 h2)
          have HC2 := Aside0.mk (fun h1 h2 => HF2.out (CInv.fail HI.out.2.2 hij h1 h2))
          clear hij
          generalize rd_T79 l0 (n : Int) = rr at *
          obtain ⟨ra, rb, rc⟩ := rr
          simp only at x0 x1 x2
          have HRQ := Aside0.mk (ringB_iff.1 HRB.out)
          have HDL : Aside0 (done.length ≤ 1000) := ⟨by have := HI.out.2.2.len; have := HI.out.1; have := HLEN.out; omega⟩
          have hn24 : n ≤ 24 := by have := HLEN.out; have := HI.out.1; omega
          have e8 : wrap64 (a1 - S) = lv := by have := HS.out; have := HA.out; rw [wrp_ (by omega) (by omega)]; omega
          obtain ⟨m, hm⟩ : ∃ m, min lv ra = m := ⟨_, rfl⟩
          have HM : Aside0 (min lv ra = m) := ⟨hm⟩
          have hm2 : (if lv < ra then lv else ra) = m := by split <;> omega
          have hm3 : (if ra < lv then ra else lv) = m := by split <;> omega
          have hm4 : (if lv ≤ ra then lv else ra) = m := by split <;> omega
          go_upto_region 11 with (first | ((with_reducible refine gate_dst (N := 9) rfl ?_); refine bx_ 9 #[.int .i64 0, .int .i64 0, .int .i64 0] 79 ?_; intro gr hg w5 hbox hb; have NOgr := Aside0.mk (show ∀ k, (u7 : Value).ownBlock = some k → k ≠ gr from fun k hk => by rw [hg]; exact Nat.ne_of_lt (Kd.R_lt RO.out k hk)); have GEgr := ge_ hg HB; replace hb := nb_ HB hb; replace RO := Aside0.mk (Kd.R_below RO.out hb); replace HB := bs_ HB hb; have BKgr := Aside0.mk hbox; obtain ⟨Ogr_0, Ogr_1, Ogr_2⟩ := c3_ BKgr; replace x0 := pw_cell_below hb x0; replace x1 := pw_cell_below hb x1; replace x2 := pw_cell_below hb x2; clear hb hbox hg) | ((with_reducible refine gate_store (t := 79) (p := 9) rfl ?_); have hc_ := cf3_ BKgr; refine st3_ ?_; intro w6 hp_; clear hc_ x0 x1 x2 Ogr_0 Ogr_1 Ogr_2; replace RO : Aside0 (Kd.R k79 79 w6 w.heap.size (fun _ => True) u7 done) := ⟨by rw [← hp_.e]; exact row_other3 NOgr.out RO.out⟩; replace BKgr := pp3_ BKgr hp_; replace HB := pb3_ GEgr HB hp_; clear hp_))
          replace BKgr := kd_ BKgr
          replace RO := Aside0.mk (Kd.R_drew RO.out)
          replace HB := bd_ HB
          refine sM_ [] (fun w' => (w'.cell? ⟨gr, 0, none⟩ = some (.int .i64 ra) ∧ w'.cell? ⟨gr, 1, none⟩ = some (.int .i64 rb) ∧ w'.cell? ⟨gr, 2, none⟩ = some (.int .i64 rc))) ref_Cut.tab11 ref_Cut.bits11 (c3_ BKgr) (fun hHeld HT_ HW_ => ?_)
          generalize w6.drew = v1 at BKgr RO HB hHeld ⊢
          refine pM_ HT_ 0 30 1 ?_
          refine pM_ HT_ 1 31 3 ?_
          refine pM_ HT_ 2 32 7 ?_
          refine pM_ HT_ 6 36 71 ?_
          refine tM_ HT_ HW_ hHeld 7 37 199 ?_
          refine oM_ HT_ 3 (some 33) 207 (fun K hK => ?_)
          refine gM_ Try.func91 (C3.out _ HB.out) ?_
          rintro e z2 ⟨rfl, hb⟩
          refine ⟨.agg _, rfl, ?_⟩
          replace hb := nb_ HB hb
          replace BKgr := kb_ BKgr hb
          replace RO := Aside0.mk (Kd.R_below RO.out hb)
          replace HB := bs_ HB hb
          (try clear hb)
          refine hK.out _ _ (c3_ BKgr) (fun hHeld => ?_)
          clear hK K
          refine nM_ ?_
          refine pM_ HT_ 4 34 223 ?_
          refine pM_ HT_ 5 35 255 ?_
          refine pM_ HT_ 8 38 511 ?_
          refine pM_ HT_ 9 10 1023 ?_
          refine dM_ HT_ ?_
          clear hm hm2 hm3 hm4 e8
          by_cases h0 : lv ≤ 0
          · have d1 : decide (m ≤ 0) = true := decide_eq_true (by have := HM.out; omega)
            have HX : Aside0 (CutF l0 a1 = (done, 0)) := ⟨HF1.out _ (HI.out.2.2.stop h0)⟩
            clear h0
            go_wp2
            go_ret2
            rw [HX.out]
            exact ⟨_, rfl, RO.out, HB.out⟩
          · have hmb : 1 ≤ m ∧ m ≤ 1000 := by have := HM.out; have hr := HRQ.out; simp only at hr; omega
            have HLV : Aside0 (1 ≤ lv) := ⟨by omega⟩
            have d1 : decide (m ≤ 0) = false := decide_eq_false (by omega)
            have hh := HRQ.out
            simp only at hh
            have m1 := mul_b hh.2.2.1 hh.2.2.2.1 hmb.1 hmb.2
            have m2 := mul_b hh.2.2.2.2.1 hh.2.2.2.2.2 hmb.1 hmb.2
            have q1 := Int.ediv_le_self ra m1.1
            have q2 := Int.ediv_le_self ra m2.1
            have q3 := Int.ediv_nonneg m1.1 (show 0 ≤ ra by omega)
            have q4 := Int.ediv_nonneg m2.1 (show 0 ≤ ra by omega)
            have w1 : wrap64 (rb * m) = rb * m := wrp_ (by omega) (by omega)
            have w2 : wrap64 (rc * m) = rc * m := wrp_ (by omega) (by omega)
            have t1 : (rb * m).tdiv ra = rb * m / ra := Int.tdiv_eq_ediv_of_nonneg m1.1
            have t2 : (rc * m).tdiv ra = rc * m / ra := Int.tdiv_eq_ediv_of_nonneg m2.1
            have t3 : (rb * m).tmod ra = rb * m % ra := Int.tmod_eq_emod_of_nonneg m1.1
            have t4 : (rc * m).tmod ra = rc * m % ra := Int.tmod_eq_emod_of_nonneg m2.1
            have w3 : wrap64 (rb * m / ra) = rb * m / ra := wrp_ (by omega) (by omega)
            have w4 : wrap64 (rc * m / ra) = rc * m / ra := wrp_ (by omega) (by omega)
            have n1 := Int.emod_nonneg (rb * m) (show ra ≠ 0 by omega)
            have n2 := Int.emod_nonneg (rc * m) (show ra ≠ 0 by omega)
            have l1 := Int.emod_lt_of_pos (rb * m) (show 0 < ra by omega)
            have l2 := Int.emod_lt_of_pos (rc * m) (show 0 < ra by omega)
            have w5 : wrap64 (rb * m % ra) = rb * m % ra := wrp_ (by omega) (by omega)
            have w6 : wrap64 (rc * m % ra) = rc * m % ra := wrp_ (by omega) (by omega)
            have z1 : (ra == 0) = false := beq_eq_false_iff_ne.2 (by omega)
            have z2 : ¬ ra = 0 := by omega
            clear h0 hmb hh m1 m2 q1 q2 q3 q4 n1 n2 l1 l2
            obtain ⟨Ogr_0, Ogr_1, Ogr_2⟩ := c3_ BKgr
            by_cases k1 : rb * m % ra = 0
            · by_cases k2 : rc * m % ra = 0
              · have HCI : Aside0 (CInv l0 (done ++ [⟨m, rb * m / ra, rc * m / ra⟩]) a1 (lv - ra) (n + 1)) := ⟨by have h := HC1.out HLV.out (by show (partF _ (min lv ra)).2 = true; rw [HM.out]; simp [partF, k1, k2]); have e : min lv (S79.mk ra rb rc).f0 = m := HM.out; rw [e] at h; exact h⟩
                have f1a : (rb * m % ra == 0) = true := beq_iff_eq.2 k1
                have f1b : (rb * m % ra != 0) = false := by unfold bne; rw [f1a]; rfl
                have f2a : (rc * m % ra == 0) = true := beq_iff_eq.2 k2
                have f2b : (rc * m % ra != 0) = false := by unfold bne; rw [f2a]; rfl
                clear k1 k2
                go_wp2
                clear f1a f1b f2a f2b t3 t4 w5 w6 d1 Ogr_0 Ogr_1 Ogr_2
                replace BKgr := kd_ BKgr
                replace RO := Aside0.mk (Kd.R_drew RO.out)
                replace HB := bd_ HB
                refine sM_ [] (fun w' => (w'.cell? ⟨gr, 0, none⟩ = some (.int .i64 ra) ∧ w'.cell? ⟨gr, 1, none⟩ = some (.int .i64 rb) ∧ w'.cell? ⟨gr, 2, none⟩ = some (.int .i64 rc))) ref_Cut.tab15 ref_Cut.bits15 (c3_ BKgr) (fun hHeld HT_ HW_ => ?_)
                generalize v1.drew = z1 at BKgr RO HB hHeld ⊢
                refine pM_ HT_ 0 59 1 ?_
                refine pM_ HT_ 1 60 3 ?_
                refine pM_ HT_ 2 61 7 ?_
                refine pM_ HT_ 4 63 23 ?_
                refine pM_ HT_ 6 65 87 ?_
                refine pM_ HT_ 9 68 599 ?_
                refine pM_ HT_ 11 70 2647 ?_
                refine pM_ HT_ 13 72 10839 ?_
                refine tM_ HT_ HW_ hHeld 3 62 10847 ?_
                refine pM_ HT_ 5 64 10879 ?_
                refine tM_ HT_ HW_ hHeld 7 66 11007 ?_
                refine pM_ HT_ 8 67 11263 ?_
                refine tM_ HT_ HW_ hHeld 10 69 12287 ?_
                refine pM_ HT_ 12 71 16383 ?_
                refine tM_ HT_ HW_ hHeld 14 73 32767 ?_
                refine pM_ HT_ 15 74 65535 ?_
                refine pM_ HT_ 16 75 131071 ?_
                refine oM_ HT_ 17 (some 76) 262143 (fun K hK => ?_)
                refine lit27_step (by rfl) (N := 76) rfl (cs := #[.int .i64 m, .int .i64 (rb * m / ra), .int .i64 (rc * m / ra)]) (E := 79) ?hr ?_
                (case hr => first | (go_simp; done) | (go_simp; rfl))
                intro ga hg w13 hbox hb
                replace hb := nb_ HB hb
                replace BKgr := kb_ BKgr hb
                replace RO := Aside0.mk (Kd.R_below RO.out hb)
                replace HB := bs_ HB hb
                have BKga := Aside0.mk hbox
                clear hb hbox hg
                refine hK.out _ _ (c3_ BKgr) (fun hHeld => ?_)
                clear hK K
                refine nM_ ?_
                refine oM_ HT_ 18 (some 77) 524287 (fun K hK => ?_)
                refine app79_step (w := w) (by rfl) (.tmp 59) (.tmp 76) 23 79 rfl Try.underlying23 info79 u7 done ⟨m, rb * m / ra, rc * m / ra⟩ ga rfl rfl RO.out BKga.out HB.out HDL.out ?_
                intro u9_ w14 ho hb hg hat
                have n1_ := Aside0.mk (blk_grown BKgr.out hg (fun e_ => NOgr.out gr e_.symm rfl))
                have n3_ := Aside0.mk hb
                have n4_ := Aside0.mk ho
                clear BKgr HB RO BKga
                have BKgr := n1_
                have HB := n3_
                have RO := n4_
                clear n1_ n3_ n4_ ho hb hg hat
                refine hK.out _ _ (c3_ BKgr) (fun hHeld => ?_)
                clear hK K
                refine nM_ ?_
                refine pM_ HT_ 19 7 1048575 ?_
                refine dM_ HT_ ?_
                go_wp2
                go_roundg (gk - 1)
                case measure => have := HI.out; have := HIJ.out; omega
                case rel => exact ⟨n + 1, lv - ra, done ++ [⟨m, rb * m / ra, rc * m / ra⟩], by go_num, ⟨by have := HI.out; have := HIJ.out; omega, by have := HI.out; have hr : 1 ≤ ra := HRQ.out.1; omega, HCI.out⟩, RO, HB⟩
              · have HX : Aside0 (CutF l0 a1 = ([], 11)) := ⟨HC2.out HLV.out (by show (partF _ (min lv ra)).2 = false; rw [HM.out]; simp [partF, k1, k2])⟩
                have f1a : (rb * m % ra == 0) = true := beq_iff_eq.2 k1
                have f1b : (rb * m % ra != 0) = false := by unfold bne; rw [f1a]; rfl
                have f2a : (rc * m % ra == 0) = false := beq_eq_false_iff_ne.2 k2
                have f2b : (rc * m % ra != 0) = true := by unfold bne; rw [f2a]; rfl
                clear k1 k2
                go_wp2
                go_ret2
                rw [HX.out]
                exact ⟨_, rfl, Kd.R_nil _ _ _ _ _, HB.out⟩
            · have HX : Aside0 (CutF l0 a1 = ([], 11)) := ⟨HC2.out HLV.out (by show (partF _ (min lv ra)).2 = false; rw [HM.out]; simp [partF, k1])⟩
              have f1a : (rb * m % ra == 0) = false := beq_eq_false_iff_ne.2 k1
              have f1b : (rb * m % ra != 0) = true := by unfold bne; rw [f1a]; rfl
              clear k1
              go_wp2
              go_ret2
              rw [HX.out]
              exact ⟨_, rfl, Kd.R_nil _ _ _ _ _, HB.out⟩
        · have hd : decide ((n : Int) < (l0.length : Int)) = false := decide_eq_false (by omega)
          have hd2 : decide (n < l0.length) = false := decide_eq_false hij
          have HX : Aside0 (CutF l0 a1 = (done, 0)) := ⟨HF1.out _ (HI.out.2.2.done (by omega))⟩
          clear hij
          go_wp2
          go_ret2
          rw [HX.out]
          exact ⟨_, rfl, RO.out, HB.out⟩
end Go.Proofs.Ytlhfclpbodfmcaa.Pr
namespace Go.Proofs.Ytlhfclpbodfmcaa.Pr
open Go.RowKit Go.Proofs.YtlhfclpbodfmcaaW.PrintWords Go.Proofs.YtlhfclpbodfmcaaW.PrintLast Go.Proofs.YtlhfclpbodfmcaaW.PrintMore
theorem same_self (l : List S79) (hl : l.length ≤ 200) : waterhourref02_Same.f 300 l l = some true := by
  have key : ∀ (n i k : Nat), n + i = l.length → n < k → waterhourref02_Same.l0 k l l (i : Int) = some true := by
    intro n
    induction n with
    | zero =>
      intro i k h hk
      obtain ⟨k, rfl⟩ : ∃ m, k = m + 1 := ⟨k - 1, by omega⟩
      simp only [waterhourref02_Same.l0]
      rw [if_neg (by omega)]
    | succ n ih =>
      intro i k h hk
      obtain ⟨k, rfl⟩ : ∃ m, k = m + 1 := ⟨k - 1, by omega⟩
      simp only [waterhourref02_Same.l0]
      rw [if_pos (by omega), if_pos (by omega), if_pos (by omega), if_neg (by simp), wr (by omega) (by omega)]
      exact ih (i + 1) k (by omega) (by omega)
  unfold waterhourref02_Same.f
  rw [if_pos rfl]
  exact key l.length 0 300 (by omega) (by omega)
end Go.Proofs.Ytlhfclpbodfmcaa.Pr
