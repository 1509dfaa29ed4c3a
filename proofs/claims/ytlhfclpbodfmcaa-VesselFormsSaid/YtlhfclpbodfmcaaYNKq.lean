/- A part of the proof: Kq, Ra, Rb, Re, Kl, Dr, Fa, Rp, Fb. -/
import Derived.Test.YtlhfclpbodfmcaaXDr
import Derived.Test.YtlhfclpbodfmcaaXLb
namespace Go.Proofs.Ytlhfclpbodfmcaa.Pr
open Go.RowKit Go.Proofs.YtlhfclpbodfmcaaW.PrintWords Go.Proofs.YtlhfclpbodfmcaaW.PrintLast Go.Proofs.YtlhfclpbodfmcaaW.PrintMore
set_option linter.unusedVariables false
section
variable {P : Program} {ops : Array Oper} {Q : Exit → Act → World → Prop} {md : Region.Mode} {S : World → Prop} {ds : List Nat}
end
theorem fb_ {n : Nat} {w W X : World} (HB : Aside0 (Below n w W)) (h : Below W.heap.size W X := by repeat (first | exact Below.refl _ _ | apply below_alloc | apply pw_below_drewN | apply below_drew1)) (hn : n ≤ W.heap.size := by first | exact HB.out.size | exact Nat.le_refl _) : Below n w X := HB.out.trans (h.mono hn)
section
variable {P : Program} {ops : Array Oper} {Q : Exit → Act → World → Prop}
end
end Go.Proofs.Ytlhfclpbodfmcaa.Pr
namespace Go.Proofs.Ytlhfclpbodfmcaa.Pr
open Go.RowKit Go.Proofs.YtlhfclpbodfmcaaW.PrintWords Go.Proofs.YtlhfclpbodfmcaaW.PrintLast Go.Proofs.YtlhfclpbodfmcaaW.PrintMore
open Go.Proofs.Ytlhfclpbodfmcaa.Vm
set_option linter.unusedVariables false
set_option linter.unusedSimpArgs false
def inB (n lo hi : Int) : Bool := decide (lo ≤ n) && decide (n ≤ hi)
theorem inB_iff {n lo hi : Int} : inB n lo hi = true ↔ lo ≤ n ∧ n ≤ hi := by unfold inB; simp
set_option maxHeartbeats 1600000 in
set_option maxRecDepth 100000 in
theorem ref_within.calls (n lo hi : Int) (w : World) : Calls Try.prog 104 #[.int .i64 n, .int .i64 lo, .int .i64 hi] w fun e w' => e = .returned (.bool (inB n lo hi)) ∧ Below w.heap.size w w' := by
  have HB := Aside0.mk (Below.refl w.heap.size w)
  unfold inB
  cases hd : decide (lo ≤ n)
  all_goals go_enter Try.func104, Try.ntmps104
  all_goals go_wp2
  all_goals go_ret
  all_goals exact ⟨by simp, HB.out⟩
set_option maxHeartbeats 1600000 in
set_option maxRecDepth 100000 in
theorem ref_isRing.calls (r : S79) (w : World) : Calls Try.prog 119 #[.agg #[.int .i64 r.f0, .int .i64 r.f1, .int .i64 r.f2]] w fun e w' => e = .returned (.bool (ringB r)) ∧ Below w.heap.size w w' := by
  have hu79 := Try.underlying79
  have HB := Aside0.mk (Below.refl w.heap.size w)
  have key : ringB r = (inB r.f0 1 1000 && (inB r.f1 1 100000 && inB r.f2 1 20000)) := by
    rw [Bool.eq_iff_iff, ringB_iff, Bool.and_eq_true, Bool.and_eq_true, inB_iff, inB_iff, inB_iff]; constructor <;> (intro h; omega)
  rw [key]
  clear key
  obtain ⟨b0, h0⟩ : ∃ b, inB r.f0 1 1000 = b := ⟨_, rfl⟩
  obtain ⟨b1, h1⟩ : ∃ b, inB r.f1 1 100000 = b := ⟨_, rfl⟩
  obtain ⟨b2, h2⟩ : ∃ b, inB r.f2 1 20000 = b := ⟨_, rfl⟩
  have C0 : Aside0 (∀ W, Calls Try.prog 104 #[.int .i64 r.f0, .int .i64 1, .int .i64 1000] W fun e w' => e = .returned (.bool b0) ∧ Below W.heap.size W w') := ⟨fun W => h0 ▸ ref_within.calls r.f0 1 1000 W⟩
  have C1 : Aside0 (∀ W, Calls Try.prog 104 #[.int .i64 r.f1, .int .i64 1, .int .i64 100000] W fun e w' => e = .returned (.bool b1) ∧ Below W.heap.size W w') := ⟨fun W => h1 ▸ ref_within.calls r.f1 1 100000 W⟩
  have C2 : Aside0 (∀ W, Calls Try.prog 104 #[.int .i64 r.f2, .int .i64 1, .int .i64 20000] W fun e w' => e = .returned (.bool b2) ∧ Below W.heap.size W w') := ⟨fun W => h2 ▸ ref_within.calls r.f2 1 20000 W⟩
  rw [h0, h1, h2]
  clear h0 h1 h2
  go_enter Try.func119, Try.ntmps119
  go_wp2_with (first | ((with_reducible refine gate_dst (N := 1) rfl ?_); refine bx_ 1 #[.int .i64 (r.f0), .int .i64 (r.f1), .int .i64 (r.f2)] 79 ?_; intro gx hg w1 hbox hb; have GEgx := ge_ hg HB; replace hb := nb_ HB hb; replace HB := bs_ HB hb; have BKgx := Aside0.mk hbox; obtain ⟨Ogx_0, Ogx_1, Ogx_2⟩ := c3_ BKgx; clear hb hbox hg))
  go_wp2_with fail
  refine (C0.out _).mono ?_
  rintro e w2 ⟨rfl, hb⟩
  replace hb := nb_ HB hb
  replace BKgx := kb_ BKgx hb
  replace HB := bs_ HB hb
  clear Ogx_0 Ogx_1 Ogx_2
  obtain ⟨Ogx_0, Ogx_1, Ogx_2⟩ := c3_ BKgx
  clear hb
  cases b0
  · go_wp2
    go_ret
    exact ⟨rfl, HB.out⟩
  go_wp2_with fail
  refine (C1.out _).mono ?_
  rintro e w3 ⟨rfl, hb⟩
  replace hb := nb_ HB hb
  replace BKgx := kb_ BKgx hb
  replace HB := bs_ HB hb
  clear Ogx_0 Ogx_1 Ogx_2
  obtain ⟨Ogx_0, Ogx_1, Ogx_2⟩ := c3_ BKgx
  clear hb
  cases b1
  · go_wp2
    go_ret
    exact ⟨rfl, HB.out⟩
  go_wp2_with fail
  refine (C2.out _).mono ?_
  rintro e w4 ⟨rfl, hb⟩
  replace hb := nb_ HB hb
  replace BKgx := kb_ BKgx hb
  replace HB := bs_ HB hb
  clear Ogx_0 Ogx_1 Ogx_2
  obtain ⟨Ogx_0, Ogx_1, Ogx_2⟩ := c3_ BKgx
  clear hb
  go_wp2
  go_ret
  exact ⟨rfl, HB.out⟩
theorem wrp_ {n : Int} (h0 : -9223372036854775808 ≤ n) (h1 : n ≤ 9223372036854775807) : wrap64 n = n := wr h0 h1
end Go.Proofs.Ytlhfclpbodfmcaa.Pr
namespace Go.Proofs.Ytlhfclpbodfmcaa.Pr
open Go.RowKit Go.Proofs.YtlhfclpbodfmcaaW.PrintWords Go.Proofs.YtlhfclpbodfmcaaW.PrintLast Go.Proofs.YtlhfclpbodfmcaaW.PrintMore
open Go.Proofs.Ytlhfclpbodfmcaa.Vm
set_option linter.unusedVariables false
set_option linter.unusedSimpArgs false
attribute [local go_sem] fld79_0 fld79_1 fld79_2
/-- One cell of a block is set. -/
structure Set1 (W W' : World) (g j : Nat) (u : Value) : Prop where
  e : W.setCell ⟨g, j, none⟩ u = W'
theorem sj_ {P : Program} {ops : Array Oper} {oi : Oper} {a : Act} {Q : Exit → Act → World → Prop} {K : Act → World → Prop} {W : World} {g j : Nat} {u : Value} (h : ∀ W', Set1 W W' g j u → K a W') (hw : Region.wanted oi (yielded ops a.tmps) = true := by rfl) (hN : oi.dst = none := by rfl) (hrun : (execOp a.eval oi).run P W = .ok .skip (W.setCell ⟨g, j, none⟩ u) := by first | (go_simp; done) | (go_simp; rfl)) : if Region.wanted oi (yielded ops a.tmps) = true then Oper.wp P oi a W K Q else K (a.put none undef) W := skip_ hw hN hrun (h _ ⟨rfl⟩)
theorem sp0_ {W W' : World} {g t : Nat} {a b c x : Value} (h : Aside0 (W.heap[g]? = some (.cells #[a, b, c] t (0, 0)))) (p : Set1 W W' g 0 x) : Aside0 (W'.heap[g]? = some (.cells #[x, b, c] t (0, 0))) := ⟨by rw [← p.e]; exact blk_put h.out 0 x rfl⟩
theorem sp1_ {W W' : World} {g t : Nat} {a b c x : Value} (h : Aside0 (W.heap[g]? = some (.cells #[a, b, c] t (0, 0)))) (p : Set1 W W' g 1 x) : Aside0 (W'.heap[g]? = some (.cells #[a, x, c] t (0, 0))) := ⟨by rw [← p.e]; exact blk_put h.out 1 x rfl⟩
theorem sp2_ {W W' : World} {g t : Nat} {a b c x : Value} (h : Aside0 (W.heap[g]? = some (.cells #[a, b, c] t (0, 0)))) (p : Set1 W W' g 2 x) : Aside0 (W'.heap[g]? = some (.cells #[a, b, x] t (0, 0))) := ⟨by rw [← p.e]; exact blk_put h.out 2 x rfl⟩
theorem sf_ {W W' : World} {g k j t : Nat} {cs : Array Value} {x : Value} (n : Aside0 (k ≠ g)) (h : Aside0 (W.heap[k]? = some (.cells cs t (0, 0)))) (p : Set1 W W' g j x) : Aside0 (W'.heap[k]? = some (.cells cs t (0, 0))) := ⟨by rw [← p.e]; exact blk_far (p := ⟨g, j, none⟩) h.out n.out x⟩
theorem sb_ {w W W' : World} {g j : Nat} {x : Value} (n : Aside0 (w.heap.size ≤ g)) (h : Aside0 (Below w.heap.size w W)) (p : Set1 W W' g j x) : Aside0 (Below w.heap.size w W') := ⟨by rw [← p.e]; exact below_set h.out n.out⟩
theorem rd79_gt (l : List S79) (i : Nat) (h : i < l.length) : gt (hsO l) i = (rd_T79 l (i : Int)).f0 ∧ gt (vsO l) i = (rd_T79 l (i : Int)).f1 ∧ gt (dsO l) i = (rd_T79 l (i : Int)).f2 := by
  simp [gt, rd_T79, List.getD_eq_getElem?_getD, List.getElem?_eq_getElem h]
theorem take_b {xs : List Int} (h : Pos xs) (i : Nat) : 0 ≤ sm (xs.take i) ∧ sm (xs.take i) ≤ sm xs := ⟨(h.take i).sum, sm_take_le_all h i⟩
def ref_Sums.T5 : Bool × List (List Nat × List Nat) := (true, [([], []), ([0], [0]), ([], []), ([], []), ([2, 3], [2, 3]), ([4], [4]), ([5], [5]), ([1, 6], [1, 6]), ([0, 1, 2, 3, 4, 5, 6, 7], []), ([8, 7, 0, 1, 2, 3, 4, 5, 6, 7], [7, 8])])
def ref_Sums.B5 : List Nat := [0, 1, 0, 0, 12, 28, 60, 127, 255, 511]
theorem ref_Sums.tab5 : rtab .any (opsOf Try.f91 5) = ref_Sums.T5 := by kernel_rfl
theorem ref_Sums.bits5 : waitsOk ref_Sums.T5.2 ref_Sums.B5 = true := by kernel_rfl
def ref_Sums.T6 : Bool × List (List Nat × List Nat) := (true, [([], []), ([0], [0]), ([], []), ([], []), ([2, 3], [2, 3]), ([4], [4]), ([5], [5]), ([1, 6], [1, 6]), ([0, 1, 2, 3, 4, 5, 6, 7], []), ([8, 7, 0, 1, 2, 3, 4, 5, 6, 7], [7, 8])])
def ref_Sums.B6 : List Nat := [0, 1, 0, 0, 12, 28, 60, 127, 255, 511]
theorem ref_Sums.tab6 : rtab .any (opsOf Try.f91 6) = ref_Sums.T6 := by kernel_rfl
theorem ref_Sums.bits6 : waitsOk ref_Sums.T6.2 ref_Sums.B6 = true := by kernel_rfl
def ref_Sums.T7 : Bool × List (List Nat × List Nat) := (true, [([], []), ([0], [0]), ([], []), ([], []), ([2, 3], [2, 3]), ([4], [4]), ([5], [5]), ([1, 6], [1, 6]), ([0, 1, 2, 3, 4, 5, 6, 7], []), ([8, 7, 0, 1, 2, 3, 4, 5, 6, 7], [7, 8])])
def ref_Sums.B7 : List Nat := [0, 1, 0, 0, 12, 28, 60, 127, 255, 511]
theorem ref_Sums.tab7 : rtab .any (opsOf Try.f91 7) = ref_Sums.T7 := by kernel_rfl
theorem ref_Sums.bits7 : waitsOk ref_Sums.T7.2 ref_Sums.B7 = true := by kernel_rfl
set_option maxHeartbeats 1600000 in
set_option maxRecDepth 100000 in
theorem ref_Sums.calls (A0 : Option Addr) (c0 : Nat) (l0 : List S79) (i : Nat) (w : World) (hr0 : Kd.C k79 w A0 l0.length l0) (hG : GV (hsO l0) (vsO l0) (dsO l0)) (hi : i ≤ l0.length) : Calls Try.prog 91 #[.slice A0 l0.length c0, .int .i64 (i : Int)] w fun e w' => e = .returned (.agg #[.int .i64 (sm ((hsO l0).take i)), .int .i64 (sm ((vsO l0).take i)), .int .i64 (sm ((dsO l0).take i))]) ∧ Below w.heap.size w w' := by
  have hu79 := Try.underlying79
  have HB := Aside0.mk (Below.refl w.heap.size w)
  have HR0 := Aside0.mk hr0
  have HG := Aside0.mk hG
  have HI0 := Aside0.mk hi
  clear hr0 hG hi
  go_enter Try.func91, Try.ntmps91
  go_wp2_with (first | ((with_reducible refine gate_dst (N := 4) rfl ?_); refine bx_ 4 #[.int .i64 0, .int .i64 0, .int .i64 0] 79 ?_; intro gr hg w1 hbox hb; have GEgr := ge_ hg HB; replace hb := nb_ HB hb; replace HB := bs_ HB hb; have BKgr := Aside0.mk hbox; clear hb hbox hg) | ((with_reducible refine gate_dst (N := 5) rfl ?_); refine bx_ 5 #[.int .i64 0, .int .i64 0, .int .i64 0] 79 ?_; intro gs hg w2 hbox hb; have GEgs := ge_ hg HB; have NEgr_gs := ne_ hg BKgr; replace hb := nb_ HB hb; replace BKgr := kb_ BKgr hb; replace HB := bs_ HB hb; have BKgs := Aside0.mk hbox; clear hb hbox hg))
  go_loopg [6] i (fun kq v6 w' => ∃ j : Nat, v6 = .int .i64 (j : Int) ∧ Aside0 (j ≤ i ∧ i - j ≤ kq) ∧ Aside0 (w'.heap[gr]? = some (.cells #[.int .i64 0, .int .i64 0, .int .i64 0] 79 (0, 0))) ∧ Aside0 (w'.heap[gs]? = some (.cells #[.int .i64 (sm ((hsO l0).take j)), .int .i64 (sm ((vsO l0).take j)), .int .i64 (sm ((dsO l0).take j))] 79 (0, 0))) ∧ Aside0 (Below w.heap.size w w'))
  case atStart => exact ⟨0, rfl, ⟨Nat.zero_le _, by omega⟩, BKgr, BKgs, HB⟩
  case round =>
    clear BKgr BKgs HB
    obtain ⟨j, rfl, HJ, BKgr, BKgs, HB⟩ := hrel
    by_cases hj : j < i
    · have hd : decide ((j : Int) < (i : Int)) = true := decide_eq_true (by omega)
      have hd2 : decide (j < i) = true := decide_eq_true hj
      have hjl : j < l0.length := by have := HI0.out; omega
      have hi0 : (0 : Int) ≤ (j : Int) := by omega
      have hi1 : (j : Int) < (l0.length : Int) := by omega
      obtain ⟨ad, q_, x0_, x1_, x2_⟩ := at_T79 HR0.out (j : Int) hi0 hi1
      subst q_
      simp only [Int.toNat_natCast] at x0_ x1_ x2_
      have X0 := Aside0.mk x0_
      have X1 := Aside0.mk x1_
      have X2 := Aside0.mk x2_
      clear x0_ x1_ x2_
      obtain ⟨e0, e1, e2⟩ := rd79_gt l0 j hjl
      have hS := HG.out.sums
      have hln : l0.length ≤ 24 := by have := HG.out.h.ln; simpa using this
      have E0 : Aside0 (wrap64 (sm ((hsO l0).take j) + (rd_T79 l0 (j : Int)).f0) = sm ((hsO l0).take (j + 1))) := ⟨by
        have s1 := sm_take_succ (hsO l0) j (by simpa using hjl)
        have b1 := take_b HG.out.h.pos (j + 1)
        rw [e0] at s1
        rw [← s1, wrp_ (by omega) (by omega)]⟩
      have E1 : Aside0 (wrap64 (sm ((vsO l0).take j) + (rd_T79 l0 (j : Int)).f1) = sm ((vsO l0).take (j + 1))) := ⟨by
        have s1 := sm_take_succ (vsO l0) j (by simpa using hjl)
        have b1 := take_b HG.out.v.pos (j + 1)
        rw [e1] at s1
        rw [← s1, wrp_ (by omega) (by omega)]⟩
      have E2 : Aside0 (wrap64 (sm ((dsO l0).take j) + (rd_T79 l0 (j : Int)).f2) = sm ((dsO l0).take (j + 1))) := ⟨by
        have s1 := sm_take_succ (dsO l0) j (by simpa using hjl)
        have b1 := take_b HG.out.d.pos (j + 1)
        rw [e2] at s1
        rw [← s1, wrp_ (by omega) (by omega)]⟩
      have EW : Aside0 (wrap64 ((j : Int) + 1) = ((j + 1 : Nat) : Int)) := ⟨by rw [wrp_ (by omega) (by omega)]; rfl⟩
      clear e0 e1 e2 hS hln
      go_wp2
      replace BKgr := kd_ BKgr
      replace BKgs := kd_ BKgs
      replace HB := bd_ HB
      refine sM_ [9] (fun w' => (w'.cell? ⟨gs, 0, none⟩ = some (.int .i64 (sm ((hsO l0).take j))) ∧ w'.cell? ⟨gs, 1, none⟩ = some (.int .i64 (sm ((vsO l0).take j))) ∧ w'.cell? ⟨gs, 2, none⟩ = some (.int .i64 (sm ((dsO l0).take j)))) ∧ w'.cell? (ad.add (j * 3)) = some (.int .i64 (rd_T79 l0 (j : Int)).f0)) ref_Sums.tab5 ref_Sums.bits5 ⟨c3_ BKgs, pw_cell_below HB.out X0.out⟩ (fun hHeld HT_ HW_ => ?_)
      generalize wr.drew = x0 at BKgr BKgs HB hHeld ⊢
      refine pM_ HT_ 0 12 1 ?_
      refine pM_ HT_ 2 14 5 ?_
      refine pM_ HT_ 3 15 13 ?_
      refine pM_ HT_ 4 16 29 ?_
      refine pM_ HT_ 5 17 61 ?_
      refine tM_ HT_ HW_ hHeld 1 13 63 ?_
      refine tM_ HT_ HW_ hHeld 6 18 127 ?_
      refine pM_ HT_ 7 19 255 ?_
      refine pM_ HT_ 8 20 511 ?_
      refine lM_ HT_ 9 none 1023 (fun K hK => ?_)
      have hc_ := cf3_ BKgs
      refine sj_ (g := gs) (j := 0) ?_
      intro y0 hp_
      clear hc_
      refine hK.out _ _ ?_
      clear hK K
      refine dM_ HT_ ?_
      replace BKgr := sf_ NEgr_gs BKgr hp_
      replace BKgs := sp0_ BKgs hp_
      replace HB := sb_ GEgs HB hp_
      clear hp_
      rw [E0.out] at BKgs
      go_wp2
      replace BKgr := kd_ BKgr
      replace BKgs := kd_ BKgs
      replace HB := bd_ HB
      refine sM_ [9] (fun w' => (w'.cell? ⟨gs, 0, none⟩ = some (.int .i64 (sm ((hsO l0).take (j + 1)))) ∧ w'.cell? ⟨gs, 1, none⟩ = some (.int .i64 (sm ((vsO l0).take j))) ∧ w'.cell? ⟨gs, 2, none⟩ = some (.int .i64 (sm ((dsO l0).take j)))) ∧ w'.cell? ⟨(ad.add (j * 3)).block, (ad.add (j * 3)).off + 1, none⟩ = some (.int .i64 (rd_T79 l0 (j : Int)).f1)) ref_Sums.tab6 ref_Sums.bits6 ⟨c3_ BKgs, pw_cell_below HB.out X1.out⟩ (fun hHeld HT_ HW_ => ?_)
      generalize y0.drew = x1 at BKgr BKgs HB hHeld ⊢
      refine pM_ HT_ 0 21 1 ?_
      refine pM_ HT_ 2 23 5 ?_
      refine pM_ HT_ 3 24 13 ?_
      refine pM_ HT_ 4 25 29 ?_
      refine pM_ HT_ 5 26 61 ?_
      refine tM_ HT_ HW_ hHeld 1 22 63 ?_
      refine tM_ HT_ HW_ hHeld 6 27 127 ?_
      refine pM_ HT_ 7 28 255 ?_
      refine pM_ HT_ 8 29 511 ?_
      refine lM_ HT_ 9 none 1023 (fun K hK => ?_)
      have hc_ := cf3_ BKgs
      refine sj_ (g := gs) (j := 1) ?_
      intro y1 hp_
      clear hc_
      refine hK.out _ _ ?_
      clear hK K
      refine dM_ HT_ ?_
      replace BKgr := sf_ NEgr_gs BKgr hp_
      replace BKgs := sp1_ BKgs hp_
      replace HB := sb_ GEgs HB hp_
      clear hp_
      rw [E1.out] at BKgs
      go_wp2
      replace BKgr := kd_ BKgr
      replace BKgs := kd_ BKgs
      replace HB := bd_ HB
      refine sM_ [9] (fun w' => (w'.cell? ⟨gs, 0, none⟩ = some (.int .i64 (sm ((hsO l0).take (j + 1)))) ∧ w'.cell? ⟨gs, 1, none⟩ = some (.int .i64 (sm ((vsO l0).take (j + 1)))) ∧ w'.cell? ⟨gs, 2, none⟩ = some (.int .i64 (sm ((dsO l0).take j)))) ∧ w'.cell? ⟨(ad.add (j * 3)).block, (ad.add (j * 3)).off + 2, none⟩ = some (.int .i64 (rd_T79 l0 (j : Int)).f2)) ref_Sums.tab7 ref_Sums.bits7 ⟨c3_ BKgs, pw_cell_below HB.out X2.out⟩ (fun hHeld HT_ HW_ => ?_)
      generalize y1.drew = x2 at BKgr BKgs HB hHeld ⊢
      refine pM_ HT_ 0 30 1 ?_
      refine pM_ HT_ 2 32 5 ?_
      refine pM_ HT_ 3 33 13 ?_
      refine pM_ HT_ 4 34 29 ?_
      refine pM_ HT_ 5 35 61 ?_
      refine tM_ HT_ HW_ hHeld 1 31 63 ?_
      refine tM_ HT_ HW_ hHeld 6 36 127 ?_
      refine pM_ HT_ 7 37 255 ?_
      refine pM_ HT_ 8 38 511 ?_
      refine lM_ HT_ 9 none 1023 (fun K hK => ?_)
      have hc_ := cf3_ BKgs
      refine sj_ (g := gs) (j := 2) ?_
      intro y2 hp_
      clear hc_
      refine hK.out _ _ ?_
      clear hK K
      refine dM_ HT_ ?_
      replace BKgr := sf_ NEgr_gs BKgr hp_
      replace BKgs := sp2_ BKgs hp_
      replace HB := sb_ GEgs HB hp_
      clear hp_
      rw [E2.out] at BKgs
      go_wp2
      go_roundg (gk - 1)
      case measure => have := HJ.out; omega
      case rel => exact ⟨j + 1, by rw [EW.out], ⟨by omega, by have := HJ.out; omega⟩, BKgr, BKgs, HB⟩
    · have hd : decide ((j : Int) < (i : Int)) = false := decide_eq_false (by omega)
      have hd2 : decide (j < i) = false := decide_eq_false hj
      have HJI : Aside0 (j = i) := ⟨by have := HJ.out; omega⟩
      obtain ⟨Ogs_0, Ogs_1, Ogs_2⟩ := c3_ BKgs
      go_wp2_with (first | ((with_reducible refine gate_store (t := 79) (p := 4) rfl ?_); have hc_ := cf3_ BKgr; refine st3_ ?_; intro w3 hp_; clear hc_; clear Ogs_0 Ogs_1 Ogs_2; replace BKgr := pp3_ BKgr hp_; replace BKgs := pf3r_ NEgr_gs BKgs hp_; replace HB := pb3_ GEgr HB hp_; clear hp_; obtain ⟨Ogs_0, Ogs_1, Ogs_2⟩ := c3_ BKgs))
      try go_wp2
      refine bodyPost_ret (results_cell_row rfl _ _ gr 79 #[.int .i64 (sm ((hsO l0).take j)), .int .i64 (sm ((vsO l0).take j)), .int .i64 (sm ((dsO l0).take j))] (0, 0) _ rfl BKgr.out Try.underlying79 rfl (by kernel_rfl)) rfl ?_
      exact ⟨by rw [HJI.out], HB.out⟩
end Go.Proofs.Ytlhfclpbodfmcaa.Pr
namespace Go.Proofs.Ytlhfclpbodfmcaa.Pr
open Go.RowKit Go.Proofs.YtlhfclpbodfmcaaW.PrintWords Go.Proofs.YtlhfclpbodfmcaaW.PrintLast Go.Proofs.YtlhfclpbodfmcaaW.PrintMore
open Go.Proofs.Ytlhfclpbodfmcaa.Vm
set_option linter.unusedVariables false
set_option linter.unusedSimpArgs false
attribute [local go_sem] fld79_0 fld79_1 fld79_2
def ref_Check.T6 : Bool × List (List Nat × List Nat) := (true, [([], []), ([], []), ([0, 1], [0, 1]), ([2], [2]), ([3], [3]), ([4], [4]), ([5, 4], [5]), ([6], [6]), ([7, 6], [6, 7]), ([8, 6, 6], [6, 8]), ([9], [9]), ([9], [9]), ([10, 11, 9], [9, 10, 11]), ([12, 9], [9, 12]), ([13, 9], [9, 13]), ([9], [9]), ([9], [9]), ([16, 9], [9, 16]), ([15, 17, 9], [9, 15, 17]), ([18, 9], [9, 18]), ([19, 9], [9, 19]), ([14, 20, 9], [9, 14, 20]), ([9], [9]), ([9], [9]), ([23, 9], [9, 23]), ([22, 24, 9], [9, 22, 24]), ([25, 9], [9, 25]), ([26, 9], [9, 26]), ([9], [9]), ([9], [9]), ([28, 29, 9], [9, 28, 29]), ([30, 9], [9, 30]), ([31, 9], [9, 31]), ([27, 32, 9], [9, 27, 32]), ([21, 33, 9], [9, 21, 33]), ([9, 34, 6], [6, 9, 34]), ([6, 35], [6, 35])])
def ref_Check.B6 : List Nat := [0, 0, 3, 7, 15, 31, 63, 127, 255, 511, 1023, 1023, 4095, 8191, 16383, 1023, 1023, 66559, 230399, 492543, 1016831, 2097151, 1023, 1023, 8389631, 29361151, 62915583, 130024447, 1023, 1023, 805307391, 1879049215, 4026532863, 8585741311, 17179869183, 34359738367, 68719476735]
theorem ref_Check.tab6 : rtab .any (opsOf Try.f53 6) = ref_Check.T6 := by kernel_rfl
theorem ref_Check.bits6 : waitsOk ref_Check.T6.2 ref_Check.B6 = true := by kernel_rfl
set_option maxHeartbeats 1600000 in
set_option maxRecDepth 100000 in
theorem ref_Check.calls (A0 : Option Addr) (c0 : Nat) (l0 : List S79) (w : World) (hr0 : Kd.C k79 w A0 l0.length l0) : Calls Try.prog 53 #[.slice A0 l0.length c0] w fun e w' => e = .returned (.int .i64 (checkF l0)) ∧ Below w.heap.size w w' := by
  have hu79 := Try.underlying79
  have HR0 := Aside0.mk hr0
  have HB := Aside0.mk (Below.refl w.heap.size w)
  clear hr0
  by_cases hL : 1 ≤ l0.length ∧ l0.length ≤ 24
  · have HE : Aside0 (checkF l0 = if chainB l0 then 0 else 20) := ⟨by unfold checkF validB; rw [decide_eq_true hL, Bool.true_and]⟩
    have HL := Aside0.mk hL
    have q1 : decide ((l0.length : Int) < 1) = false := decide_eq_false (by omega)
    have q2 : decide (24 < (l0.length : Int)) = false := decide_eq_false (by omega)
    have q3 : decide (24 < l0.length) = false := decide_eq_false (by omega)
    have q5 : ¬ l0.length = 0 := by omega
    clear hL
    go_enter Try.func53, Try.ntmps53
    go_wp2
    go_loopg [3] l0.length (fun kq v3 w' => ∃ j : Nat, v3 = .int .i64 (j : Int) ∧ Aside0 (j ≤ l0.length ∧ l0.length - j ≤ kq ∧ (j = 0 ∨ ringB (rd_T79 l0 ((j - 1 : Nat) : Int)) = true) ∧ chainB l0 = chainB (l0.drop (j - 1))) ∧ Aside0 (Below w.heap.size w w'))
    case atStart => exact ⟨0, rfl, ⟨Nat.zero_le _, by omega, .inl rfl, rfl⟩, HB⟩
    case round =>
      clear HB q1 q2 q3 q5
      obtain ⟨j, rfl, HJ, HB⟩ := hrel
      by_cases hj : j < l0.length
      · have hd : decide ((j : Int) < (l0.length : Int)) = true := decide_eq_true (by omega)
        have hd2 : decide (j < l0.length) = true := decide_eq_true hj
        have HJL := Aside0.mk hj
        have hi0 : (0 : Int) ≤ (j : Int) := by omega
        have hi1 : (j : Int) < (l0.length : Int) := by omega
        obtain ⟨ad, q_, x0_, x1_, x2_⟩ := at_T79 HR0.out (j : Int) hi0 hi1
        subst q_
        simp only [Int.toNat_natCast] at x0_ x1_ x2_
        have X0 := Aside0.mk x0_
        have X1 := Aside0.mk x1_
        have X2 := Aside0.mk x2_
        clear x0_ x1_ x2_
        have EW : Aside0 (wrap64 ((j : Int) + 1) = ((j + 1 : Nat) : Int)) := ⟨by have := HL.out; rw [wrp_ (by omega) (by omega)]; rfl⟩
        clear hj
        cases hr : ringB (rd_T79 l0 (j : Int))
        · have C1 : Aside0 (∀ W, Calls Try.prog 119 #[.agg #[.int .i64 (rd_T79 l0 (j : Int)).f0, .int .i64 (rd_T79 l0 (j : Int)).f1, .int .i64 (rd_T79 l0 (j : Int)).f2]] W fun e w' => e = .returned (.bool false) ∧ Below W.heap.size W w') := ⟨fun W => hr ▸ ref_isRing.calls (rd_T79 l0 (j : Int)) W⟩
          have HX : Aside0 (chainB l0 = false) := ⟨by
            have h := HJ.out
            have hj := HJL.out
            rw [h.2.2.2]
            rcases Nat.eq_zero_or_pos j with h0 | h0
            · subst h0
              by_cases he : 1 = l0.length
              · rw [show 0 - 1 = 0 from rfl, chain_last l0 0 (by omega)]; exact hr
              · rw [show 0 - 1 = 0 from rfl, chain_step l0 0 (by omega), show ringB (rd_T79 l0 ((0 : Nat) : Int)) = false from hr]; rfl
            · rw [test_step l0 j hj h0 (h.2.2.1.resolve_left (by omega)), hr]; rfl⟩
          clear hr
          go_wp2
          replace HB := bd_ HB
          refine sM_ [] (fun w' => w'.cell? (ad.add (j * 3)) = some (.int .i64 (rd_T79 l0 (j : Int)).f0) ∧ w'.cell? ⟨(ad.add (j * 3)).block, (ad.add (j * 3)).off + 1, none⟩ = some (.int .i64 (rd_T79 l0 (j : Int)).f1) ∧ w'.cell? ⟨(ad.add (j * 3)).block, (ad.add (j * 3)).off + 2, none⟩ = some (.int .i64 (rd_T79 l0 (j : Int)).f2)) ref_Check.tab6 ref_Check.bits6 ⟨pw_cell_below HB.out X0.out, pw_cell_below HB.out X1.out, pw_cell_below HB.out X2.out⟩ (fun hHeld HT_ HW_ => ?_)
          generalize wr.drew = w3 at HB hHeld ⊢
          refine pM_ HT_ 0 18 1 ?_
          refine pM_ HT_ 1 19 3 ?_
          refine pM_ HT_ 2 20 7 ?_
          refine tM_ HT_ HW_ hHeld 3 21 15 ?_
          refine oM_ HT_ 4 (some 22) 31 (fun K hK => ?_)
          refine gM_ Try.func119 (C1.out _) ?_
          rintro e w4 ⟨rfl, hb⟩
          refine ⟨.bool _, rfl, ?_⟩
          replace hb := nb_ HB hb
          replace HB := bs_ HB hb
          (try clear hb)
          refine hK.out _ _ ⟨pw_cell_below HB.out X0.out, pw_cell_below HB.out X1.out, pw_cell_below HB.out X2.out⟩ (fun hHeld => ?_)
          clear hK K
          refine nM_ ?_
          refine pM_ HT_ 5 23 63 ?_
          refine pM_ HT_ 6 24 127 ?_
          refine pU_ HT_ 7 (some 25) 255 ?_
          refine pU_ HT_ 8 (some 26) 511 ?_
          refine pU_ HT_ 9 (some 27) 1023 ?_
          refine pU_ HT_ 10 (some 28) 2047 ?_
          refine pU_ HT_ 11 (some 29) 4095 ?_
          refine pU_ HT_ 12 (some 30) 8191 ?_
          refine pU_ HT_ 13 (some 31) 16383 ?_
          refine pU_ HT_ 14 (some 32) 32767 ?_
          refine pU_ HT_ 15 (some 33) 65535 ?_
          refine pU_ HT_ 16 (some 34) 131071 ?_
          refine pU_ HT_ 17 (some 35) 262143 ?_
          refine pU_ HT_ 18 (some 36) 524287 ?_
          refine pU_ HT_ 19 (some 37) 1048575 ?_
          refine pU_ HT_ 20 (some 38) 2097151 ?_
          refine pU_ HT_ 21 (some 39) 4194303 ?_
          refine pU_ HT_ 22 (some 40) 8388607 ?_
          refine pU_ HT_ 23 (some 41) 16777215 ?_
          refine pU_ HT_ 24 (some 42) 33554431 ?_
          refine pU_ HT_ 25 (some 43) 67108863 ?_
          refine pU_ HT_ 26 (some 44) 134217727 ?_
          refine pU_ HT_ 27 (some 45) 268435455 ?_
          refine pU_ HT_ 28 (some 46) 536870911 ?_
          refine pU_ HT_ 29 (some 47) 1073741823 ?_
          refine pU_ HT_ 30 (some 48) 2147483647 ?_
          refine pU_ HT_ 31 (some 49) 4294967295 ?_
          refine pU_ HT_ 32 (some 50) 8589934591 ?_
          refine pU_ HT_ 33 (some 51) 17179869183 ?_
          refine pU_ HT_ 34 (some 52) 34359738367 ?_
          refine pU_ HT_ 35 (some 53) 68719476735 ?_
          refine pM_ HT_ 36 54 137438953471 ?_
          refine dM_ HT_ ?_
          go_wp2
          go_ret
          exact ⟨by rw [HE.out, HX.out]; rfl, HB.out⟩
        · have HRJ := Aside0.mk hr
          have C1 : Aside0 (∀ W, Calls Try.prog 119 #[.agg #[.int .i64 (rd_T79 l0 (j : Int)).f0, .int .i64 (rd_T79 l0 (j : Int)).f1, .int .i64 (rd_T79 l0 (j : Int)).f2]] W fun e w' => e = .returned (.bool true) ∧ Below W.heap.size W w') := ⟨fun W => hr ▸ ref_isRing.calls (rd_T79 l0 (j : Int)) W⟩
          clear hr
          rcases Nat.eq_zero_or_pos j with h0 | h0
          · have h1 : decide (0 < (j : Int)) = false := decide_eq_false (by omega)
            have h2 : decide (0 < j) = false := decide_eq_false (by omega)
            have HX : Aside0 (chainB l0 = chainB (l0.drop (j + 1 - 1))) := ⟨by rw [HJ.out.2.2.2, h0]⟩
            clear h0
            go_wp2
            replace HB := bd_ HB
            refine sM_ [] (fun w' => w'.cell? (ad.add (j * 3)) = some (.int .i64 (rd_T79 l0 (j : Int)).f0) ∧ w'.cell? ⟨(ad.add (j * 3)).block, (ad.add (j * 3)).off + 1, none⟩ = some (.int .i64 (rd_T79 l0 (j : Int)).f1) ∧ w'.cell? ⟨(ad.add (j * 3)).block, (ad.add (j * 3)).off + 2, none⟩ = some (.int .i64 (rd_T79 l0 (j : Int)).f2)) ref_Check.tab6 ref_Check.bits6 ⟨pw_cell_below HB.out X0.out, pw_cell_below HB.out X1.out, pw_cell_below HB.out X2.out⟩ (fun hHeld HT_ HW_ => ?_)
            generalize wr.drew = w3 at HB hHeld ⊢
            refine pM_ HT_ 0 18 1 ?_
            refine pM_ HT_ 1 19 3 ?_
            refine pM_ HT_ 2 20 7 ?_
            refine tM_ HT_ HW_ hHeld 3 21 15 ?_
            refine oM_ HT_ 4 (some 22) 31 (fun K hK => ?_)
            refine gM_ Try.func119 (C1.out _) ?_
            rintro e w4 ⟨rfl, hb⟩
            refine ⟨.bool _, rfl, ?_⟩
            replace hb := nb_ HB hb
            replace HB := bs_ HB hb
            (try clear hb)
            refine hK.out _ _ ⟨pw_cell_below HB.out X0.out, pw_cell_below HB.out X1.out, pw_cell_below HB.out X2.out⟩ (fun hHeld => ?_)
            clear hK K
            refine nM_ ?_
            refine pM_ HT_ 5 23 63 ?_
            refine pM_ HT_ 6 24 127 ?_
            refine pM_ HT_ 7 25 255 ?_
            refine pM_ HT_ 8 26 511 ?_
            refine pM_ HT_ 9 27 1023 ?_
            refine pU_ HT_ 10 (some 28) 2047 ?_
            refine pU_ HT_ 11 (some 29) 4095 ?_
            refine pU_ HT_ 12 (some 30) 8191 ?_
            refine pU_ HT_ 13 (some 31) 16383 ?_
            refine pU_ HT_ 14 (some 32) 32767 ?_
            refine pU_ HT_ 15 (some 33) 65535 ?_
            refine pU_ HT_ 16 (some 34) 131071 ?_
            refine pU_ HT_ 17 (some 35) 262143 ?_
            refine pU_ HT_ 18 (some 36) 524287 ?_
            refine pU_ HT_ 19 (some 37) 1048575 ?_
            refine pU_ HT_ 20 (some 38) 2097151 ?_
            refine pU_ HT_ 21 (some 39) 4194303 ?_
            refine pU_ HT_ 22 (some 40) 8388607 ?_
            refine pU_ HT_ 23 (some 41) 16777215 ?_
            refine pU_ HT_ 24 (some 42) 33554431 ?_
            refine pU_ HT_ 25 (some 43) 67108863 ?_
            refine pU_ HT_ 26 (some 44) 134217727 ?_
            refine pU_ HT_ 27 (some 45) 268435455 ?_
            refine pU_ HT_ 28 (some 46) 536870911 ?_
            refine pU_ HT_ 29 (some 47) 1073741823 ?_
            refine pU_ HT_ 30 (some 48) 2147483647 ?_
            refine pU_ HT_ 31 (some 49) 4294967295 ?_
            refine pU_ HT_ 32 (some 50) 8589934591 ?_
            refine pU_ HT_ 33 (some 51) 17179869183 ?_
            refine pU_ HT_ 34 (some 52) 34359738367 ?_
            refine pM_ HT_ 35 53 68719476735 ?_
            refine pM_ HT_ 36 54 137438953471 ?_
            refine dM_ HT_ ?_
            go_wp2
            go_roundg (gk - 1)
            case measure => have := HJ.out; have := HJL.out; omega
            case rel => exact ⟨j + 1, by rw [EW.out], ⟨by have := HJL.out; omega, by have := HJ.out; omega, .inr HRJ.out, HX.out⟩, HB⟩
          · obtain ⟨q, hq⟩ : ∃ q : Nat, q + 1 = j := ⟨j - 1, by omega⟩
            have h1 : decide (0 < (j : Int)) = true := decide_eq_true (by omega)
            have h2 : decide (0 < j) = true := decide_eq_true h0
            have hqj : wrap64 ((j : Int) - 1) = (q : Int) := by have := HL.out; have := HJL.out; rw [wrp_ (by omega) (by omega)]; omega
            have hql : q < l0.length := by have := HJL.out; omega
            have HQ : Aside0 (q + 1 = j) := ⟨hq⟩
            have HQR : Aside0 (ringB (rd_T79 l0 (q : Int)) = true) := ⟨by have h := HJ.out.2.2.1.resolve_left (by omega); rwa [show j - 1 = q by omega] at h⟩
            have gi0 : (0 : Int) ≤ (q : Int) := by omega
            have gi1 : (q : Int) < (l0.length : Int) := by omega
            obtain ⟨ad2, q_, x0_, x1_, x2_⟩ := at_T79 HR0.out (q : Int) gi0 gi1
            obtain rfl : ad = ad2 := Option.some.inj q_
            simp only [Int.toNat_natCast] at x0_ x1_ x2_
            have Y1 := Aside0.mk x1_
            have Y2 := Aside0.mk x2_
            clear x0_ x1_ x2_ q_ hq h0
            have HM : Aside0 (wrap64 ((rd_T79 l0 (j : Int)).f1 * (rd_T79 l0 (q : Int)).f2) = (rd_T79 l0 (j : Int)).f1 * (rd_T79 l0 (q : Int)).f2 ∧ wrap64 ((rd_T79 l0 (q : Int)).f1 * (rd_T79 l0 (j : Int)).f2) = (rd_T79 l0 (q : Int)).f1 * (rd_T79 l0 (j : Int)).f2) := ⟨by
              have r1 := ringB_iff.1 HRJ.out
              have r2 := ringB_iff.1 HQR.out
              have m1 := mul_b r1.2.2.1 r1.2.2.2.1 r2.2.2.2.2.1 r2.2.2.2.2.2
              have m2 := mul_b r2.2.2.1 r2.2.2.2.1 r1.2.2.2.2.1 r1.2.2.2.2.2
              exact ⟨wrp_ (by omega) (by omega), wrp_ (by omega) (by omega)⟩⟩
            have HTS : Aside0 (chainB (l0.drop (j - 1)) = (decide ((rd_T79 l0 (q : Int)).f1 * (rd_T79 l0 (j : Int)).f2 ≤ (rd_T79 l0 (j : Int)).f1 * (rd_T79 l0 (q : Int)).f2) && chainB (l0.drop j))) := ⟨by
              have h := test_step l0 j HJL.out (by have := HQ.out; omega) (by rw [show j - 1 = q by have := HQ.out; omega]; exact HQR.out)
              rw [HRJ.out, Bool.true_and, show j - 1 = q by have := HQ.out; omega] at h
              rw [show j - 1 = q by have := HQ.out; omega]; exact h⟩
            by_cases hc : (rd_T79 l0 (j : Int)).f1 * (rd_T79 l0 (q : Int)).f2 < (rd_T79 l0 (q : Int)).f1 * (rd_T79 l0 (j : Int)).f2
            · have hcd : decide (wrap64 ((rd_T79 l0 (j : Int)).f1 * (rd_T79 l0 (q : Int)).f2) < wrap64 ((rd_T79 l0 (q : Int)).f1 * (rd_T79 l0 (j : Int)).f2)) = true := by rw [HM.out.1, HM.out.2]; exact decide_eq_true hc
              have HX : Aside0 (chainB l0 = false) := ⟨by rw [HJ.out.2.2.2, HTS.out, decide_eq_false (by omega)]; rfl⟩
              clear hc
              go_wp2
              replace HB := bd_ HB
              refine sM_ [] (fun w' => w'.cell? (ad.add (j * 3)) = some (.int .i64 (rd_T79 l0 (j : Int)).f0) ∧ w'.cell? ⟨(ad.add (j * 3)).block, (ad.add (j * 3)).off + 1, none⟩ = some (.int .i64 (rd_T79 l0 (j : Int)).f1) ∧ w'.cell? ⟨(ad.add (j * 3)).block, (ad.add (j * 3)).off + 2, none⟩ = some (.int .i64 (rd_T79 l0 (j : Int)).f2) ∧ w'.cell? ⟨(ad.add (q * 3)).block, (ad.add (q * 3)).off + 1, none⟩ = some (.int .i64 (rd_T79 l0 (q : Int)).f1) ∧ w'.cell? ⟨(ad.add (q * 3)).block, (ad.add (q * 3)).off + 2, none⟩ = some (.int .i64 (rd_T79 l0 (q : Int)).f2)) ref_Check.tab6 ref_Check.bits6 ⟨pw_cell_below HB.out X0.out, pw_cell_below HB.out X1.out, pw_cell_below HB.out X2.out, pw_cell_below HB.out Y1.out, pw_cell_below HB.out Y2.out⟩ (fun hHeld HT_ HW_ => ?_)
              generalize wr.drew = w3 at HB hHeld ⊢
              refine pM_ HT_ 0 18 1 ?_
              refine pM_ HT_ 1 19 3 ?_
              refine pM_ HT_ 2 20 7 ?_
              refine tM_ HT_ HW_ hHeld 3 21 15 ?_
              refine oM_ HT_ 4 (some 22) 31 (fun K hK => ?_)
              refine gM_ Try.func119 (C1.out _) ?_
              rintro e w4 ⟨rfl, hb⟩
              refine ⟨.bool _, rfl, ?_⟩
              replace hb := nb_ HB hb
              replace HB := bs_ HB hb
              (try clear hb)
              refine hK.out _ _ ⟨pw_cell_below HB.out X0.out, pw_cell_below HB.out X1.out, pw_cell_below HB.out X2.out, pw_cell_below HB.out Y1.out, pw_cell_below HB.out Y2.out⟩ (fun hHeld => ?_)
              clear hK K
              refine nM_ ?_
              refine pM_ HT_ 5 23 63 ?_
              refine pM_ HT_ 6 24 127 ?_
              refine pM_ HT_ 7 25 255 ?_
              refine pM_ HT_ 8 26 511 ?_
              refine pM_ HT_ 9 27 1023 ?_
              refine pM_ HT_ 10 28 2047 ?_
              refine pM_ HT_ 11 29 4095 ?_
              refine pM_ HT_ 12 30 8191 ?_
              refine pM_ HT_ 13 31 16383 ?_
              refine pM_ HT_ 15 33 49151 ?_
              refine pM_ HT_ 16 34 114687 ?_
              refine pM_ HT_ 17 35 245759 ?_
              refine pM_ HT_ 18 36 507903 ?_
              refine pM_ HT_ 19 37 1032191 ?_
              refine pM_ HT_ 22 40 5226495 ?_
              refine pM_ HT_ 23 41 13615103 ?_
              refine pM_ HT_ 24 42 30392319 ?_
              refine pM_ HT_ 25 43 63946751 ?_
              refine pM_ HT_ 26 44 131055615 ?_
              refine pM_ HT_ 28 46 399491071 ?_
              refine pM_ HT_ 29 47 936361983 ?_
              refine pM_ HT_ 30 48 2010103807 ?_
              refine pM_ HT_ 31 49 4157587455 ?_
              refine tM_ HT_ HW_ hHeld 14 32 4157603839 ?_
              refine tM_ HT_ HW_ hHeld 20 38 4158652415 ?_
              refine pM_ HT_ 21 39 4160749567 ?_
              refine tM_ HT_ HW_ hHeld 27 45 4294967295 ?_
              refine tM_ HT_ HW_ hHeld 32 50 8589934591 ?_
              refine pM_ HT_ 33 51 17179869183 ?_
              refine pM_ HT_ 34 52 34359738367 ?_
              refine pM_ HT_ 35 53 68719476735 ?_
              refine pM_ HT_ 36 54 137438953471 ?_
              refine dM_ HT_ ?_
              go_wp2
              go_ret
              exact ⟨by rw [HE.out, HX.out]; rfl, HB.out⟩
            · have hcd : decide (wrap64 ((rd_T79 l0 (j : Int)).f1 * (rd_T79 l0 (q : Int)).f2) < wrap64 ((rd_T79 l0 (q : Int)).f1 * (rd_T79 l0 (j : Int)).f2)) = false := by rw [HM.out.1, HM.out.2]; exact decide_eq_false hc
              have HX : Aside0 (chainB l0 = chainB (l0.drop (j + 1 - 1))) := ⟨by rw [HJ.out.2.2.2, HTS.out, decide_eq_true (by omega)]; rfl⟩
              clear hc
              go_wp2
              replace HB := bd_ HB
              refine sM_ [] (fun w' => w'.cell? (ad.add (j * 3)) = some (.int .i64 (rd_T79 l0 (j : Int)).f0) ∧ w'.cell? ⟨(ad.add (j * 3)).block, (ad.add (j * 3)).off + 1, none⟩ = some (.int .i64 (rd_T79 l0 (j : Int)).f1) ∧ w'.cell? ⟨(ad.add (j * 3)).block, (ad.add (j * 3)).off + 2, none⟩ = some (.int .i64 (rd_T79 l0 (j : Int)).f2) ∧ w'.cell? ⟨(ad.add (q * 3)).block, (ad.add (q * 3)).off + 1, none⟩ = some (.int .i64 (rd_T79 l0 (q : Int)).f1) ∧ w'.cell? ⟨(ad.add (q * 3)).block, (ad.add (q * 3)).off + 2, none⟩ = some (.int .i64 (rd_T79 l0 (q : Int)).f2)) ref_Check.tab6 ref_Check.bits6 ⟨pw_cell_below HB.out X0.out, pw_cell_below HB.out X1.out, pw_cell_below HB.out X2.out, pw_cell_below HB.out Y1.out, pw_cell_below HB.out Y2.out⟩ (fun hHeld HT_ HW_ => ?_)
              generalize wr.drew = w3 at HB hHeld ⊢
              refine pM_ HT_ 0 18 1 ?_
              refine pM_ HT_ 1 19 3 ?_
              refine pM_ HT_ 2 20 7 ?_
              refine tM_ HT_ HW_ hHeld 3 21 15 ?_
              refine oM_ HT_ 4 (some 22) 31 (fun K hK => ?_)
              refine gM_ Try.func119 (C1.out _) ?_
              rintro e w4 ⟨rfl, hb⟩
              refine ⟨.bool _, rfl, ?_⟩
              replace hb := nb_ HB hb
              replace HB := bs_ HB hb
              (try clear hb)
              refine hK.out _ _ ⟨pw_cell_below HB.out X0.out, pw_cell_below HB.out X1.out, pw_cell_below HB.out X2.out, pw_cell_below HB.out Y1.out, pw_cell_below HB.out Y2.out⟩ (fun hHeld => ?_)
              clear hK K
              refine nM_ ?_
              refine pM_ HT_ 5 23 63 ?_
              refine pM_ HT_ 6 24 127 ?_
              refine pM_ HT_ 7 25 255 ?_
              refine pM_ HT_ 8 26 511 ?_
              refine pM_ HT_ 9 27 1023 ?_
              refine pM_ HT_ 10 28 2047 ?_
              refine pM_ HT_ 11 29 4095 ?_
              refine pM_ HT_ 12 30 8191 ?_
              refine pM_ HT_ 13 31 16383 ?_
              refine pM_ HT_ 15 33 49151 ?_
              refine pM_ HT_ 16 34 114687 ?_
              refine pM_ HT_ 17 35 245759 ?_
              refine pM_ HT_ 18 36 507903 ?_
              refine pM_ HT_ 19 37 1032191 ?_
              refine pM_ HT_ 22 40 5226495 ?_
              refine pM_ HT_ 23 41 13615103 ?_
              refine pM_ HT_ 24 42 30392319 ?_
              refine pM_ HT_ 25 43 63946751 ?_
              refine pM_ HT_ 26 44 131055615 ?_
              refine pM_ HT_ 28 46 399491071 ?_
              refine pM_ HT_ 29 47 936361983 ?_
              refine pM_ HT_ 30 48 2010103807 ?_
              refine pM_ HT_ 31 49 4157587455 ?_
              refine tM_ HT_ HW_ hHeld 14 32 4157603839 ?_
              refine tM_ HT_ HW_ hHeld 20 38 4158652415 ?_
              refine pM_ HT_ 21 39 4160749567 ?_
              refine tM_ HT_ HW_ hHeld 27 45 4294967295 ?_
              refine tM_ HT_ HW_ hHeld 32 50 8589934591 ?_
              refine pM_ HT_ 33 51 17179869183 ?_
              refine pM_ HT_ 34 52 34359738367 ?_
              refine pM_ HT_ 35 53 68719476735 ?_
              refine pM_ HT_ 36 54 137438953471 ?_
              refine dM_ HT_ ?_
              go_wp2
              go_roundg (gk - 1)
              case measure => have := HJ.out; have := HJL.out; omega
              case rel => exact ⟨j + 1, by rw [EW.out], ⟨by have := HJL.out; omega, by have := HJ.out; omega, .inr HRJ.out, HX.out⟩, HB⟩
      · have hd : decide ((j : Int) < (l0.length : Int)) = false := decide_eq_false (by omega)
        have hd2 : decide (j < l0.length) = false := decide_eq_false hj
        have HX : Aside0 (chainB l0 = true) := ⟨by have h := HJ.out; have := HL.out; rw [h.2.2.2, chain_last l0 (j - 1) (by omega)]; exact h.2.2.1.resolve_left (by omega)⟩
        clear hj
        go_wp2
        go_ret
        exact ⟨by rw [HE.out, HX.out]; rfl, HB.out⟩
  · have HE : Aside0 (checkF l0 = 20) := ⟨by unfold checkF validB; rw [decide_eq_false hL]; rfl⟩
    have hc : l0.length = 0 ∨ 0 < l0.length ∧ 24 < l0.length := by omega
    clear hL
    rcases hc with hc | ⟨hc1, hc2⟩
    · rw [HE.out]
      clear HE
      rw [hc]
      clear hc HR0
      go_enter Try.func53, Try.ntmps53
      go_wp2
      go_ret
      exact ⟨rfl, HB.out⟩
    · have q1 : decide ((l0.length : Int) < 1) = false := decide_eq_false (by omega)
      have q2 : decide (24 < (l0.length : Int)) = true := decide_eq_true (by omega)
      have q3 : decide (24 < l0.length) = true := decide_eq_true hc2
      have q4 : decide (l0.length = 0) = false := decide_eq_false (by omega)
      have q5 : ¬ l0.length = 0 := by omega
      rw [HE.out]
      clear HE hc1
      go_enter Try.func53, Try.ntmps53
      go_wp2
      go_ret
      exact ⟨rfl, HB.out⟩
end Go.Proofs.Ytlhfclpbodfmcaa.Pr
namespace Go.Proofs.Ytlhfclpbodfmcaa.Pr
open Go.RowKit Go.Proofs.YtlhfclpbodfmcaaW.PrintWords Go.Proofs.YtlhfclpbodfmcaaW.PrintLast Go.Proofs.YtlhfclpbodfmcaaW.PrintMore
set_option linter.unusedVariables false
/-- A row of the caller's, later. -/
theorem kc_ {α : Type} {d : Kd α} {w W : World} {A : Option Addr} {l : List α} (h : Aside0 (Kd.C d w A l.length l)) (hb : Aside0 (Below w.heap.size w W)) : Kd.C d W A l.length l := Kd.C_below h.out hb.out
end Go.Proofs.Ytlhfclpbodfmcaa.Pr
namespace Go.Proofs.Ytlhfclpbodfmcaa.Pr
open Go.RowKit Go.Proofs.YtlhfclpbodfmcaaW.PrintWords Go.Proofs.YtlhfclpbodfmcaaW.PrintLast Go.Proofs.YtlhfclpbodfmcaaW.PrintMore
open Go.Proofs.Ytlhfclpbodfmcaa.Vm
set_option linter.unusedVariables false
set_option linter.unusedSimpArgs false
set_option maxHeartbeats 1600000 in
set_option maxRecDepth 100000 in
theorem volume_drawn.calls (A0 : Option Addr) (c0 : Nat) (l0 : List S79) (r1 : List S60) (r2 : Int) (w : World) (hr0 : Kd.C k79 w A0 l0.length l0) (hc0 : l0.length ≤ c0) (h : drawF (·.f1) l0 = (r1, r2)) :
    Calls Try.prog 107 #[.slice A0 l0.length c0, .func (.func 108) #[] #[]] w fun e w' => ∃ v0_ : Value, e = .returned (.tuple #[v0_, .int .i64 r2]) ∧ Kd.R k60 60 w' w.heap.size (fun _ => True) v0_ r1 ∧ Below w.heap.size w w' := by
  have hu60 := Try.underlying60
  have hu157 := Try.underlying157
  have hu150 := Try.underlying150
  have HR0 := Aside0.mk hr0
  have HC0 := Aside0.mk hc0
  clear hr0 hc0
  have HB := Aside0.mk (Below.refl w.heap.size w)
  unfold drawF at h
  by_cases hv : validB l0 = true
  · rw [if_pos hv] at h
    obtain ⟨rfl, rfl⟩ : (ptsF (l0.map (·.f0)) (l0.map (·.f1)) (l0.length + 1)) = r1 ∧ checkC (ptsF (l0.map (·.f0)) (l0.map (·.f1)) (l0.length + 1)) = r2 := by simpa using h
    clear h
    have hK : vessel_Check.f 30 l0 = some 0 := by rw [vCheck]; unfold checkF; rw [hv]; rfl
    have HK := Aside0.mk hK
    have hG : GV (hsO l0) (vsO l0) (dsO l0) := valid_GV hv
    have hlen := hG.h.ln
    rw [List.length_map] at hlen
    have HN : Aside0 (l0.length ≤ 900) := ⟨by omega⟩
    have HLEN := Aside0.mk hlen
    clear hK hv hG hlen
    go_enter Try.func107, Try.ntmps107
    go_wp2_with (first | ((with_reducible refine gate_callee (f := 48) rfl ?_); refine gL_ (some 13) Try.func48 (vessel_Check.calls 30 A0 c0 l0 0 _ (Kd.C_below HR0.out HB.out) HC0.out HK.out) ?_; rintro e w2 ⟨rfl, hb⟩; refine ⟨.int .i64 0, rfl, ?_⟩; replace hb := nb_ HB hb; replace HB := bs_ HB hb; clear hb))
    refine (height_scaled.calls A0 c0 l0 _ (Kd.C_below HR0.out HB.out) HN.out).mono ?_
    rintro e w3 ⟨g1, rfl, s_, hb⟩
    replace hb := nb_ HB hb
    replace HB := bs_ HB hb
    have SC1 := Aside0.mk (ScX.sc s_)
    clear s_ hb
    go_wp2_with fail
    refine (volume_scaled.calls A0 c0 l0 _ (Kd.C_below HR0.out HB.out) HN.out).mono ?_
    rintro e w4 ⟨g2, rfl, s_, hb⟩
    replace hb := nb_ HB hb
    replace SC1 := Aside0.mk (Sc.below SC1.out hb)
    replace HB := bs_ HB hb
    have SC2 := Aside0.mk (ScX.sc s_)
    clear s_ hb
    obtain ⟨a1, a2, cc1, cc2, e1, e2, d1, d2, l1, l2⟩ := SC1.out
    obtain ⟨b1, b2, dd1, dd2, f1, f2, t1, t2, m1, m2⟩ := SC2.out
    have hlx : (sums 0 (l0.map (·.f0))).length = l0.length + 1 := by rw [sums_length, List.length_map]
    have hly : (sums 0 (l0.map (·.f1))).length = l0.length + 1 := by rw [sums_length, List.length_map]
    rw [hlx] at e2 d2 l2
    rw [hly] at f2 t2 m2
    have E2 := Aside0.mk e2
    have F2 := Aside0.mk f2
    have D2 := Aside0.mk d2
    have T2 := Aside0.mk t2
    have HLX := Aside0.mk hlx
    have HLY := Aside0.mk hly
    have HV := Aside0.mk (Below.refl w4.heap.size w4)
    have HWV := Aside0.mk HB.out.size
    clear e1 d1 l1 l2 f1 t1 m1 m2 d2 t2 hlx hly SC1 SC2 f2
    go_wp2
    clear e2
    have RO : Aside0 (Kd.R k60 60 w4 w4.heap.size (fun _ => True) (.slice none 0 0) (ptsF (l0.map (·.f0)) (l0.map (·.f1)) 0)) := ⟨Kd.R_nil _ _ _ _ _⟩
    go_loopg [9, 27] (l0.length + 1) (fun kq v9 v27 w' => ∃ (n : Nat), v27 = .int .i64 (n : Int) ∧ Aside0 (n + kq = l0.length + 1) ∧ Aside0 (Kd.R k60 60 w' w4.heap.size (fun _ => True) v9 (ptsF (l0.map (·.f0)) (l0.map (·.f1)) n)) ∧ Aside0 (Below w.heap.size w w') ∧ Aside0 (Below w4.heap.size w4 w'))
    case atStart => exact ⟨0, rfl, ⟨by omega⟩, RO, HB, HV⟩
    case round =>
      clear RO HB HV
      obtain ⟨n, rfl, HI, RO, HB, HV⟩ := hrel
      by_cases hij : n < l0.length + 1
      · have hd : decide ((n : Int) < ((l0.length + 1 : Nat) : Int)) = true := decide_eq_true (by omega)
        have hd3 : decide ((n : Int) < (l0.length : Int) + 1) = true := decide_eq_true (by omega)
        have hd2 : decide (n < l0.length + 1) = true := decide_eq_true hij
        have h0 : (0 : Int) ≤ (n : Int) := by omega
        have h1 : (n : Int) < ((l0.length + 1 : Nat) : Int) := by omega
        have h2 : (n : Int) < (l0.length : Int) + 1 := by omega
        obtain ⟨ad1, q1, x1⟩ := Kd.at_int D2.out (n : Int) h0 h1
        obtain ⟨ad2, q2, x2⟩ := Kd.at_int T2.out (n : Int) h0 h1
        subst q1 q2
        simp only [Int.toNat_natCast] at x1 x2
        have hn24 : n ≤ 24 := by have := HLEN.out; omega
        have HPL : Aside0 ((ptsF (l0.map (·.f0)) (l0.map (·.f1)) n).length ≤ 1000) := ⟨by rw [ptsF_length]; have := HLEN.out; omega⟩
        have X1 := pw_cell_below HV.out x1
        have X2 := pw_cell_below HV.out x2
        have X3 := pw_cell_below HV.out F2.out
        clear x1 x2
        replace h0 := eq_true h0
        replace h1 := eq_true h1
        replace h2 := eq_true h2
        have h3 : (n < l0.length + 1) = True := eq_true hij
        go_wp2_with (first | ((with_reducible refine gate_dst (N := 42) rfl ?_); refine litv_list ?hg (N := 42) ?hd (cs := #[.int .i64 (rd (sums 0 (l0.map (·.f0))) (n : Int)), .int .i64 (rd (sums 0 (l0.map (·.f1))) (n : Int))]) (E := 60) ?hr ?_; (case hd => rfl); (case hg => rfl); (case hr => first | (go_simp; done) | (go_simp; rfl)); intro ga hg w10 hbox hb; replace hb := nb_ HB hb; replace RO := Aside0.mk (Kd.R_below RO.out hb); replace HB := bs_ HB hb; replace HV := bs_ HV hb; have BKga := Aside0.mk hbox; clear hb hbox hg X1 X2 X3) | ((with_reducible refine gate_dst (N := 43) rfl ?_); refine app60_list (w := w4) ?hg (.tmp 32) (.tmp 42) 37 60 ?ho Try.underlying37 info60 u9 (ptsF (l0.map (·.f0)) (l0.map (·.f1)) n) ⟨rd (sums 0 (l0.map (·.f0))) (n : Int), rd (sums 0 (l0.map (·.f1))) (n : Int)⟩ ga ?hq1 ?hq2 RO.out BKga.out HV.out HPL.out ?_; (case hg => rfl); (case ho => rfl); (case hq1 => rfl); (case hq2 => rfl); intro u9_ w11 ho hb hg hat; have n0_ := Aside0.mk (pw_below_grown HB.out _ HB.out.size hg (fun k hk => Nat.le_trans HWV.out (Kd.R_base RO.out k hk))); have n1_ := Aside0.mk hb; rw [ptsF_succ] at ho; have n2_ := Aside0.mk ho; clear HB RO BKga HV; have HB := n0_; have HV := n1_; have RO := n2_; clear n0_ n1_ n2_ ho hb hg hat))
        go_roundg (gk - 1)
        case measure => have := HI.out; omega
        case rel => exact ⟨n + 1, by go_num, ⟨by have := HI.out; omega⟩, RO, HB, HV⟩
      · have hd : decide ((n : Int) < ((l0.length + 1 : Nat) : Int)) = false := decide_eq_false (by omega)
        have hd3 : decide ((n : Int) < (l0.length : Int) + 1) = false := decide_eq_false (by omega)
        have hd2 : decide (n < l0.length + 1) = false := decide_eq_false hij
        obtain rfl : n = l0.length + 1 := by have := HI.out; omega
        obtain ⟨A9, c9, rfl, l9, k9⟩ := Kd.R_reads RO.out
        have K9 := Aside0.mk k9
        have L9 := Aside0.mk l9
        clear k9 l9
        go_wp2_with (first | ((with_reducible refine gate_callee (f := 40) rfl ?_); refine gL_ (some 47) Try.func40 (curve_Check.calls A9 c9 (ptsF (l0.map (·.f0)) (l0.map (·.f1)) (l0.length + 1)) _ _ K9.out L9.out rfl) ?_; rintro e w12 ⟨rfl, hb⟩; refine ⟨.int .i64 (checkC (ptsF (l0.map (·.f0)) (l0.map (·.f1)) (l0.length + 1))), rfl, ?_⟩; replace hb := nb_ HB hb; replace RO := Aside0.mk (Kd.R_below RO.out hb); replace HB := bs_ HB hb; clear hb))
        go_ret2
        exact ⟨_, rfl, Kd.R_lower RO.out HWV.out, HB.out⟩
  · rw [if_neg hv] at h
    obtain ⟨rfl, rfl⟩ : ([] : List S60) = r1 ∧ (20 : Int) = r2 := by simpa using h
    clear h
    have hK : vessel_Check.f 30 l0 = some 20 := by rw [vCheck]; unfold checkF; rw [Bool.not_eq_true] at hv; rw [hv]; rfl
    have HK := Aside0.mk hK
    clear hK hv
    go_enter Try.func107, Try.ntmps107
    go_wp2_with (first | ((with_reducible refine gate_callee (f := 48) rfl ?_); refine gL_ (some 13) Try.func48 (vessel_Check.calls 30 A0 c0 l0 20 _ (Kd.C_below HR0.out HB.out) HC0.out HK.out) ?_; rintro e w2 ⟨rfl, hb⟩; refine ⟨.int .i64 20, rfl, ?_⟩; replace hb := nb_ HB hb; replace HB := bs_ HB hb; clear hb))
    go_ret2
    exact ⟨_, rfl, Kd.R_nil _ _ _ _ _, HB.out⟩
def vessel_Holding.f (l0 : List S79) : Option (List S60 × Int) := some (drawF (·.f1) l0)
set_option maxHeartbeats 1600000 in
set_option maxRecDepth 100000 in
theorem vessel_Holding.calls (A0 : Option Addr) (c0 : Nat) (l0 : List S79) (r1 : List S60) (r2 : Int) (w : World) (hr0 : Kd.C k79 w A0 l0.length l0) (hc0 : l0.length ≤ c0) (h : vessel_Holding.f l0 = some (r1, r2)) :
    Calls Try.prog 39 #[.slice A0 l0.length c0] w fun e w' => ∃ v0_ : Value, e = .returned (.tuple #[v0_, .int .i64 r2]) ∧ Kd.R k60 60 w' w.heap.size (fun _ => True) v0_ r1 ∧ Below w.heap.size w w' := by
  have HB := Aside0.mk (Below.refl w.heap.size w)
  have C1 := volume_drawn.calls A0 c0 l0 r1 r2 w hr0 hc0 (Option.some.inj h)
  clear hr0 hc0 h
  go_enter Try.func39, Try.ntmps39
  go_wp2_with (first | ((with_reducible refine gate_dst (N := 5) rfl ?_); refine goesL_ (some 5) rfl rfl Try.func107 (by kernel_rfl) rfl #[.slice A0 l0.length c0, .func (.func 108) #[] #[]] rfl (by (try simp only [List.map_toArray, List.map_cons, List.map_nil]); first | done | rfl) ?_; refine C1.mono ?_; rintro e w2 ⟨v0_, rfl, RO, hb⟩; refine ⟨_, rfl, ?_⟩))
  go_ret2
  exact ⟨_, rfl, RO, hb⟩
end Go.Proofs.Ytlhfclpbodfmcaa.Pr
namespace Go.Proofs.Ytlhfclpbodfmcaa.Pr
open Go.RowKit Go.Proofs.YtlhfclpbodfmcaaW.PrintWords Go.Proofs.YtlhfclpbodfmcaaW.PrintLast Go.Proofs.YtlhfclpbodfmcaaW.PrintMore
open Go.Proofs.Ytlhfclpbodfmcaa.Vm
set_option linter.unusedVariables false
/-- The points of a curve of sums. -/
def ptsS (hs fs : List Int) (n : Nat) : List S60 := (List.range n).map (fun (i : Nat) => (⟨sm (hs.take i), sm (fs.take i)⟩ : S60))
theorem ptsS_length (hs fs : List Int) (n : Nat) : (ptsS hs fs n).length = n := by simp [ptsS]
theorem ptsS_succ (hs fs : List Int) (n : Nat) : ptsS hs fs n ++ [⟨sm (hs.take n), sm (fs.take n)⟩] = ptsS hs fs (n + 1) := by simp [ptsS, List.range_succ]
theorem ptsS_eq {hs fs : List Int} {A B : Int} (hh : GoodR hs A) (hf : GoodR fs B) (hA : A ≤ 100000) (hB : B ≤ 100000) (hl : hs.length = fs.length) : ptsF hs fs (hs.length + 1) = ptsS hs fs (hs.length + 1) := by
  unfold ptsF ptsS
  apply List.map_congr_left
  intro i hi
  have hi := List.mem_range.1 hi
  rw [hh.rd hA (by omega), hf.rd hB (by omega)]
theorem ptsS_get (hs fs : List Int) (n i : Nat) (h : i < n) : rd_T60 (ptsS hs fs n) (i : Int) = ⟨sm (hs.take i), sm (fs.take i)⟩ := by
  simp [rd_T60, ptsS, List.getD_eq_getElem?_getD, List.getElem?_map, List.getElem?_range h]
theorem checkC_S {hs fs : List Int} {A B : Int} (hh : GoodR hs A) (hf : GoodR fs B) (hA : sm hs ≤ 16777216) (hB : sm fs ≤ 16777216) (hl : hs.length = fs.length) : checkC (ptsS hs fs (hs.length + 1)) = 0 := by
  have bd : ∀ {xs : List Int} {C : Int}, GoodR xs C → sm xs ≤ 16777216 → ∀ i, 0 ≤ sm (xs.take i) ∧ sm (xs.take i) ≤ 16777216 := fun hx hC i => ⟨(hx.pos.take i).sum, Int.le_trans (sm_take_le_all hx.pos i) hC⟩
  have h1 : (ptsS hs fs (hs.length + 1)).all ptB = true := by
    rw [List.all_eq_true]
    intro x hx
    obtain ⟨i, hi, rfl⟩ := List.mem_map.1 hx
    have a := bd hh hA i
    have b := bd hf hB i
    simp only [ptB, coordB, Bool.and_eq_true, decide_eq_true_eq]
    exact ⟨⟨a.1, a.2⟩, ⟨b.1, b.2⟩⟩
  have h2 : incB (ptsS hs fs (hs.length + 1)) = true := by
    unfold incB
    rw [List.all_eq_true, ptsS_length]
    intro x hx
    obtain ⟨i, hi, rfl⟩ := List.mem_map.1 hx
    have hi := List.mem_range.1 hi
    have e : (i : Int) + 1 = ((i + 1 : Nat) : Int) := by omega
    unfold lineAt okLine
    rw [e, ptsS_get _ _ _ _ (by omega), ptsS_get _ _ _ _ (by omega)]
    have s1 := sm_take_succ hs i (by omega)
    have s2 := sm_take_succ fs i (by omega)
    have g1 := hh.gt (r := i) (by omega)
    have g2 := hf.gt (r := i) (by omega)
    simp only [Bool.and_eq_true, decide_eq_true_eq]
    omega
  have hn := hh.ne
  have hN := hh.ln
  unfold checkC
  rw [if_neg, if_pos h2]
  rw [ptsS_length, h1]
  simp
  omega
/-- What drawn hands back. -/
theorem draw_d {l : List S79} (h : validB l = true) : drawF (·.f2) l = (ptsS (hsO l) (dsO l) (l.length + 1), 0) := by
  have g := valid_GV h
  have S := g.sums
  have e := ptsS_eq g.h g.d (by decide) (by decide) g.hd
  have c := checkC_S g.h g.d (by omega) (by omega) g.hd
  rw [List.length_map] at e c
  unfold drawF
  rw [if_pos h, e, c]
theorem draw_v {l : List S79} (h : validB l = true) : drawF (·.f1) l = (ptsS (hsO l) (vsO l) (l.length + 1), 0) := by
  have g := valid_GV h
  have S := g.sums
  have e := ptsS_eq g.h g.v (by decide) (by decide) g.hv
  have c := checkC_S g.h g.v (by omega) (by omega) g.hv
  rw [List.length_map] at e c
  unfold drawF
  rw [if_pos h, e, c]
end Go.Proofs.Ytlhfclpbodfmcaa.Pr
namespace Go.Proofs.Ytlhfclpbodfmcaa.Pr
open Go.RowKit Go.Proofs.YtlhfclpbodfmcaaW.PrintWords Go.Proofs.YtlhfclpbodfmcaaW.PrintLast Go.Proofs.YtlhfclpbodfmcaaW.PrintMore
open Go.Proofs.Ytlhfclpbodfmcaa.Vm
set_option linter.unusedVariables false
set_option linter.unusedSimpArgs false
attribute [local go_sem] fld79_0 fld79_1 fld79_2 max2_int max_two
def ref_Sizes.T5 : Bool × List (List Nat × List Nat) := (true, [([], []), ([0], [0]), ([], []), ([2], [2]), ([], []), ([4], [4]), ([1, 0, 1], [1]), ([3, 6, 0, 1, 2, 3, 6], [3]), ([5, 7, 0, 1, 2, 3, 4, 5, 6, 7], [5]), ([8, 0, 1, 2, 3, 4, 5, 6, 7, 8], [])])
def ref_Sizes.B5 : List Nat := [0, 1, 0, 4, 0, 16, 3, 79, 255, 511]
theorem ref_Sizes.tab5 : rtab .any (opsOf Try.f50 5) = ref_Sizes.T5 := by kernel_rfl
theorem ref_Sizes.bits5 : waitsOk ref_Sizes.T5.2 ref_Sizes.B5 = true := by kernel_rfl
set_option maxHeartbeats 1600000 in
set_option maxRecDepth 100000 in
theorem ref_Sizes.calls (A0 : Option Addr) (c0 : Nat) (l0 : List S79) (w : World) (hr0 : Kd.C k79 w A0 l0.length l0) : Calls Try.prog 50 #[.slice A0 l0.length c0] w fun e w' => e = .returned (.tuple #[.int .i64 (SizesF l0).1, .int .i64 (SizesF l0).2.1, .int .i64 (SizesF l0).2.2.1, .int .i64 (SizesF l0).2.2.2]) ∧ Below w.heap.size w w' := by
  have hu79 := Try.underlying79
  have HR0 := Aside0.mk hr0
  clear hr0
  have HB := Aside0.mk (Below.refl w.heap.size w)
  have K0 : Aside0 (∀ W, Below w.heap.size w W → Calls Try.prog 53 #[.slice A0 l0.length c0] W fun e w' => e = .returned (.int .i64 (checkF l0)) ∧ Below W.heap.size W w') := ⟨fun W hB => ref_Check.calls A0 c0 l0 W (Kd.C_below HR0.out hB)⟩
  go_enter Try.func50, Try.ntmps50
  cases hv : validB l0
  · have HF : Aside0 (SizesF l0 = (0, 0, 0, 20)) := ⟨by unfold SizesF; rw [hv]; rfl⟩
    have hc_ : checkF l0 = 20 := by unfold checkF; rw [hv]; rfl
    have h_ := K0.out
    rw [hc_] at h_
    have K0v := Aside0.mk h_
    clear h_ hc_ K0
    clear hv
    go_wp2_with fail
    refine (K0v.out _ HB.out).mono ?_
    rintro e w2 ⟨rfl, hb⟩
    replace hb := nb_ HB hb
    replace HB := bs_ HB hb
    clear hb
    try go_wp2
    refine bodyPost_ret (results_list (rs := [.tmp 2, .tmp 3, .tmp 4, .tmp 5]) rfl (by simp) (.tmp (.tmp (.tmp (.tmp .nil))))) rfl ?_
    exact ⟨by first | (rw [HF.out]; done) | (rw [HF.out]; rfl), HB.out⟩
  · have HF : Aside0 (SizesF l0 = (sm (hsO l0), sm (vsO l0), sm (dsO l0), 0)) := ⟨by unfold SizesF; rw [hv]; rfl⟩
    have hc_ : checkF l0 = 0 := by unfold checkF; rw [hv]; rfl
    have h_ := K0.out
    rw [hc_] at h_
    have K0v := Aside0.mk h_
    clear h_ hc_ K0
    have HG : Aside0 (GV (hsO l0) (vsO l0) (dsO l0)) := ⟨valid_GV hv⟩
    clear hv
    have C1 : Aside0 (∀ W, Below w.heap.size w W → Calls Try.prog 91 #[.slice A0 l0.length c0, .int .i64 (l0.length : Int)] W fun e w' => e = .returned (.agg #[.int .i64 (sm (hsO l0)), .int .i64 (sm (vsO l0)), .int .i64 (sm (dsO l0))]) ∧ Below W.heap.size W w') := ⟨fun W hB => by
      have h := ref_Sums.calls A0 c0 l0 l0.length W (Kd.C_below HR0.out hB) HG.out (Nat.le_refl _)
      rwa [List.take_of_length_le (l := hsO l0) (by simp), List.take_of_length_le (l := vsO l0) (by simp), List.take_of_length_le (l := dsO l0) (by simp)] at h⟩
    go_wp2_with fail
    refine (K0v.out _ HB.out).mono ?_
    rintro e w2 ⟨rfl, hb⟩
    replace hb := nb_ HB hb
    replace HB := bs_ HB hb
    clear hb
    go_wp2_with fail
    refine (C1.out _ HB.out).mono ?_
    rintro e w3 ⟨rfl, hb⟩
    replace hb := nb_ HB hb
    replace HB := bs_ HB hb
    clear hb
    go_upto_region 5 with (fail)
    have BKgs := Aside0.mk (blk_new w3 (.cells #[.int .i64 (sm (hsO l0)), .int .i64 (sm (vsO l0)), .int .i64 (sm (dsO l0))] 79 (0, 0)))
    have hb := below_alloc (Below.refl _ w3) (.cells #[.int .i64 (sm (hsO l0)), .int .i64 (sm (vsO l0)), .int .i64 (sm (dsO l0))] 79 (0, 0))
    replace HB := bs_ HB hb
    clear hb
    generalize w3.alloc (.cells #[.int .i64 (sm (hsO l0)), .int .i64 (sm (vsO l0)), .int .i64 (sm (dsO l0))] 79 (0, 0)) = w4 at BKgs HB ⊢
    generalize w3.heap.size = gs at BKgs ⊢
    replace BKgs := kd_ BKgs
    replace HB := bd_ HB
    refine sM_ [] (fun w' => (w'.cell? ⟨gs, 0, none⟩ = some (.int .i64 (sm (hsO l0))) ∧ w'.cell? ⟨gs, 1, none⟩ = some (.int .i64 (sm (vsO l0))) ∧ w'.cell? ⟨gs, 2, none⟩ = some (.int .i64 (sm (dsO l0))))) ref_Sizes.tab5 ref_Sizes.bits5 (c3_ BKgs) (fun hHeld HT_ HW_ => ?_)
    generalize w4.drew = w5 at BKgs HB hHeld ⊢
    refine pM_ HT_ 0 17 1 ?_
    refine pM_ HT_ 2 19 5 ?_
    refine pM_ HT_ 4 21 21 ?_
    refine tM_ HT_ HW_ hHeld 1 18 23 ?_
    refine pM_ HT_ 6 2 87 ?_
    refine tM_ HT_ HW_ hHeld 3 20 95 ?_
    refine pM_ HT_ 7 3 223 ?_
    refine tM_ HT_ HW_ hHeld 5 22 255 ?_
    refine pM_ HT_ 8 4 511 ?_
    refine pM_ HT_ 9 5 1023 ?_
    refine dM_ HT_ ?_
    try go_wp2
    refine bodyPost_ret (results_list (rs := [.tmp 2, .tmp 3, .tmp 4, .tmp 5]) rfl (by simp) (.tmp (.tmp (.tmp (.tmp .nil))))) rfl ?_
    exact ⟨by first | (rw [HF.out]; done) | (rw [HF.out]; rfl), HB.out⟩
set_option maxHeartbeats 1600000 in
set_option maxRecDepth 100000 in
theorem ref_Emptying.calls (A0 : Option Addr) (c0 : Nat) (l0 : List S79) (w : World) (hr0 : Kd.C k79 w A0 l0.length l0) :
    Calls Try.prog 51 #[.slice A0 l0.length c0] w fun e w' => ∃ v0_ : Value, e = .returned (.tuple #[v0_, .int .i64 (drawF (·.f2) l0).2]) ∧ Kd.R k60 60 w' w.heap.size (fun _ => True) v0_ (drawF (·.f2) l0).1 ∧ Below w.heap.size w w' := by
  have hu79 := Try.underlying79
  have hu60 := Try.underlying60
  have HR0 := Aside0.mk hr0
  clear hr0
  have HB := Aside0.mk (Below.refl w.heap.size w)
  have K0 : Aside0 (∀ W, Below w.heap.size w W → Calls Try.prog 53 #[.slice A0 l0.length c0] W fun e w' => e = .returned (.int .i64 (checkF l0)) ∧ Below W.heap.size W w') := ⟨fun W hB => ref_Check.calls A0 c0 l0 W (Kd.C_below HR0.out hB)⟩
  go_enter Try.func51, Try.ntmps51
  cases hv : validB l0
  · have HF : Aside0 (drawF (·.f2) l0 = ([], 20)) := ⟨by unfold drawF; rw [hv]; rfl⟩
    have hc_ : checkF l0 = 20 := by unfold checkF; rw [hv]; rfl
    have h_ := K0.out
    rw [hc_] at h_
    have K0v := Aside0.mk h_
    clear h_ hc_ K0
    clear hv
    go_wp2_with fail
    refine (K0v.out _ HB.out).mono ?_
    rintro e w2 ⟨rfl, hb⟩
    replace hb := nb_ HB hb
    replace HB := bs_ HB hb
    clear hb
    go_wp2
    go_ret2
    rw [HF.out]
    exact ⟨_, rfl, Kd.R_nil _ _ _ _ _, HB.out⟩
  · have HF : Aside0 (drawF (·.f2) l0 = (ptsS (hsO l0) (dsO l0) (l0.length + 1), 0)) := ⟨draw_d hv⟩
    have hc_ : checkF l0 = 0 := by unfold checkF; rw [hv]; rfl
    have h_ := K0.out
    rw [hc_] at h_
    have K0v := Aside0.mk h_
    clear h_ hc_ K0
    have HG : Aside0 (GV (hsO l0) (vsO l0) (dsO l0)) := ⟨valid_GV hv⟩
    clear hv
    go_wp2_with fail
    refine (K0v.out _ HB.out).mono ?_
    rintro e w2 ⟨rfl, hb⟩
    replace hb := nb_ HB hb
    replace HB := bs_ HB hb
    clear hb
    have HLN : Aside0 (l0.length ≤ 24) := ⟨by have := HG.out.h.ln; simpa using this⟩
    go_wp2
    have RO : Aside0 (Kd.R k60 60 w2 w.heap.size (fun _ => True) (.slice none 0 0) (ptsS (hsO l0) (dsO l0) 0)) := ⟨Kd.R_nil _ _ _ _ _⟩
    go_loopg [5, 6] (l0.length + 1) (fun kq v5 v6 w' => ∃ n : Nat, v6 = .int .i64 (n : Int) ∧ Aside0 (n + kq = l0.length + 1) ∧ Aside0 (Kd.R k60 60 w' w.heap.size (fun _ => True) v5 (ptsS (hsO l0) (dsO l0) n)) ∧ Aside0 (Below w.heap.size w w'))
    case atStart => exact ⟨0, rfl, ⟨by omega⟩, RO, HB⟩
    case round =>
      clear RO HB
      obtain ⟨n, rfl, HI, RO, HB⟩ := hrel
      by_cases hn : n < l0.length + 1
      · have hd : decide ((n : Int) ≤ (l0.length : Int)) = true := decide_eq_true (by omega)
        have hd2 : decide (n ≤ l0.length) = true := decide_eq_true (by omega)
        have EW : Aside0 (wrap64 ((n : Int) + 1) = ((n + 1 : Nat) : Int)) := ⟨by have := HLN.out; rw [wrp_ (by omega) (by omega)]; rfl⟩
        have HPL : Aside0 ((ptsS (hsO l0) (dsO l0) n).length ≤ 1000) := ⟨by rw [ptsS_length]; have := HLN.out; omega⟩
        have C1 : Aside0 (∀ W, Below w.heap.size w W → Calls Try.prog 91 #[.slice A0 l0.length c0, .int .i64 (n : Int)] W fun e w' => e = .returned (.agg #[.int .i64 (sm ((hsO l0).take n)), .int .i64 (sm ((vsO l0).take n)), .int .i64 (sm ((dsO l0).take n))]) ∧ Below W.heap.size W w') := ⟨fun W hB => ref_Sums.calls A0 c0 l0 n W (Kd.C_below HR0.out hB) HG.out (by omega)⟩
        have HNL := Aside0.mk hn
        clear hn
        go_wp2_with fail
        refine (C1.out _ HB.out).mono ?_
        rintro e w4 ⟨rfl, hb⟩
        replace hb := nb_ HB hb
        replace RO := Aside0.mk (Kd.R_below RO.out hb)
        replace HB := bs_ HB hb
        clear hb
        clear C1
        go_upto_region 9 with (fail)
        have BKgs := Aside0.mk (blk_new w4 (.cells #[.int .i64 (sm ((hsO l0).take n)), .int .i64 (sm ((vsO l0).take n)), .int .i64 (sm ((dsO l0).take n))] 79 (0, 0)))
        have hb := below_alloc (Below.refl _ w4) (.cells #[.int .i64 (sm ((hsO l0).take n)), .int .i64 (sm ((vsO l0).take n)), .int .i64 (sm ((dsO l0).take n))] 79 (0, 0))
        replace RO := Aside0.mk (Kd.R_below RO.out hb)
        replace HB := bs_ HB hb
        clear hb
        generalize w4.alloc (.cells #[.int .i64 (sm ((hsO l0).take n)), .int .i64 (sm ((vsO l0).take n)), .int .i64 (sm ((dsO l0).take n))] 79 (0, 0)) = w5 at BKgs RO HB ⊢
        generalize w4.heap.size = gs at BKgs ⊢
        obtain ⟨Ogs_0, Ogs_1, Ogs_2⟩ := c3_ BKgs
        go_wp2_with (first | ((with_reducible refine gate_dst (N := 28) rfl ?_); refine litv_list ?hg (N := 28) ?hd (cs := #[.int .i64 (sm ((hsO l0).take n)), .int .i64 (sm ((dsO l0).take n))]) (E := 60) ?hr ?_; (case hd => rfl); (case hg => rfl); (case hr => first | (go_simp; done) | (go_simp; rfl)); intro ga hg w10 hbox hb; replace hb := nb_ HB hb; replace RO := Aside0.mk (Kd.R_below RO.out hb); replace HB := bs_ HB hb; have BKga := Aside0.mk hbox; clear hb hbox hg Ogs_0 Ogs_1 Ogs_2) | ((with_reducible refine gate_dst (N := 29) rfl ?_); refine app60_list (w := w) ?hg (.tmp 22) (.tmp 28) 37 60 ?ho Try.underlying37 info60 u5 (ptsS (hsO l0) (dsO l0) n) ⟨sm ((hsO l0).take n), sm ((dsO l0).take n)⟩ ga ?hq1 ?hq2 RO.out BKga.out HB.out HPL.out ?_; (case hg => rfl); (case ho => rfl); (case hq1 => rfl); (case hq2 => rfl); intro u5_ w11 ho hb hg hat; have n1_ := Aside0.mk hb; rw [ptsS_succ] at ho; have n2_ := Aside0.mk ho; clear HB RO BKga BKgs; have HB := n1_; have RO := n2_; clear n1_ n2_ ho hb hg hat))
        go_roundg (gk - 1)
        case measure => have := HI.out; have := HNL.out; omega
        case rel => exact ⟨n + 1, by rw [EW.out], ⟨by have := HI.out; have := HNL.out; omega⟩, RO, HB⟩
      · have hd : decide ((n : Int) ≤ (l0.length : Int)) = false := decide_eq_false (by omega)
        have hd2 : decide (n ≤ l0.length) = false := decide_eq_false (by omega)
        have HN : Aside0 (n = l0.length + 1) := ⟨by have := HI.out; omega⟩
        clear hn
        go_wp2
        go_ret2
        rw [HF.out]
        have ro := RO.out
        rw [HN.out] at ro
        exact ⟨_, rfl, ro, HB.out⟩
set_option maxHeartbeats 1600000 in
set_option maxRecDepth 100000 in
theorem ref_Holding.calls (A0 : Option Addr) (c0 : Nat) (l0 : List S79) (w : World) (hr0 : Kd.C k79 w A0 l0.length l0) :
    Calls Try.prog 52 #[.slice A0 l0.length c0] w fun e w' => ∃ v0_ : Value, e = .returned (.tuple #[v0_, .int .i64 (drawF (·.f1) l0).2]) ∧ Kd.R k60 60 w' w.heap.size (fun _ => True) v0_ (drawF (·.f1) l0).1 ∧ Below w.heap.size w w' := by
  have hu79 := Try.underlying79
  have hu60 := Try.underlying60
  have HR0 := Aside0.mk hr0
  clear hr0
  have HB := Aside0.mk (Below.refl w.heap.size w)
  have K0 : Aside0 (∀ W, Below w.heap.size w W → Calls Try.prog 53 #[.slice A0 l0.length c0] W fun e w' => e = .returned (.int .i64 (checkF l0)) ∧ Below W.heap.size W w') := ⟨fun W hB => ref_Check.calls A0 c0 l0 W (Kd.C_below HR0.out hB)⟩
  go_enter Try.func52, Try.ntmps52
  cases hv : validB l0
  · have HF : Aside0 (drawF (·.f1) l0 = ([], 20)) := ⟨by unfold drawF; rw [hv]; rfl⟩
    have hc_ : checkF l0 = 20 := by unfold checkF; rw [hv]; rfl
    have h_ := K0.out
    rw [hc_] at h_
    have K0v := Aside0.mk h_
    clear h_ hc_ K0
    clear hv
    go_wp2_with fail
    refine (K0v.out _ HB.out).mono ?_
    rintro e w2 ⟨rfl, hb⟩
    replace hb := nb_ HB hb
    replace HB := bs_ HB hb
    clear hb
    go_wp2
    go_ret2
    rw [HF.out]
    exact ⟨_, rfl, Kd.R_nil _ _ _ _ _, HB.out⟩
  · have HF : Aside0 (drawF (·.f1) l0 = (ptsS (hsO l0) (vsO l0) (l0.length + 1), 0)) := ⟨draw_v hv⟩
    have hc_ : checkF l0 = 0 := by unfold checkF; rw [hv]; rfl
    have h_ := K0.out
    rw [hc_] at h_
    have K0v := Aside0.mk h_
    clear h_ hc_ K0
    have HG : Aside0 (GV (hsO l0) (vsO l0) (dsO l0)) := ⟨valid_GV hv⟩
    clear hv
    go_wp2_with fail
    refine (K0v.out _ HB.out).mono ?_
    rintro e w2 ⟨rfl, hb⟩
    replace hb := nb_ HB hb
    replace HB := bs_ HB hb
    clear hb
    have HLN : Aside0 (l0.length ≤ 24) := ⟨by have := HG.out.h.ln; simpa using this⟩
    go_wp2
    have RO : Aside0 (Kd.R k60 60 w2 w.heap.size (fun _ => True) (.slice none 0 0) (ptsS (hsO l0) (vsO l0) 0)) := ⟨Kd.R_nil _ _ _ _ _⟩
    go_loopg [5, 6] (l0.length + 1) (fun kq v5 v6 w' => ∃ n : Nat, v6 = .int .i64 (n : Int) ∧ Aside0 (n + kq = l0.length + 1) ∧ Aside0 (Kd.R k60 60 w' w.heap.size (fun _ => True) v5 (ptsS (hsO l0) (vsO l0) n)) ∧ Aside0 (Below w.heap.size w w'))
    case atStart => exact ⟨0, rfl, ⟨by omega⟩, RO, HB⟩
    case round =>
      clear RO HB
      obtain ⟨n, rfl, HI, RO, HB⟩ := hrel
      by_cases hn : n < l0.length + 1
      · have hd : decide ((n : Int) ≤ (l0.length : Int)) = true := decide_eq_true (by omega)
        have hd2 : decide (n ≤ l0.length) = true := decide_eq_true (by omega)
        have EW : Aside0 (wrap64 ((n : Int) + 1) = ((n + 1 : Nat) : Int)) := ⟨by have := HLN.out; rw [wrp_ (by omega) (by omega)]; rfl⟩
        have HPL : Aside0 ((ptsS (hsO l0) (vsO l0) n).length ≤ 1000) := ⟨by rw [ptsS_length]; have := HLN.out; omega⟩
        have C1 : Aside0 (∀ W, Below w.heap.size w W → Calls Try.prog 91 #[.slice A0 l0.length c0, .int .i64 (n : Int)] W fun e w' => e = .returned (.agg #[.int .i64 (sm ((hsO l0).take n)), .int .i64 (sm ((vsO l0).take n)), .int .i64 (sm ((dsO l0).take n))]) ∧ Below W.heap.size W w') := ⟨fun W hB => ref_Sums.calls A0 c0 l0 n W (Kd.C_below HR0.out hB) HG.out (by omega)⟩
        have HNL := Aside0.mk hn
        clear hn
        go_wp2_with fail
        refine (C1.out _ HB.out).mono ?_
        rintro e w4 ⟨rfl, hb⟩
        replace hb := nb_ HB hb
        replace RO := Aside0.mk (Kd.R_below RO.out hb)
        replace HB := bs_ HB hb
        clear hb
        clear C1
        go_upto_region 9 with (fail)
        have BKgs := Aside0.mk (blk_new w4 (.cells #[.int .i64 (sm ((hsO l0).take n)), .int .i64 (sm ((vsO l0).take n)), .int .i64 (sm ((dsO l0).take n))] 79 (0, 0)))
        have hb := below_alloc (Below.refl _ w4) (.cells #[.int .i64 (sm ((hsO l0).take n)), .int .i64 (sm ((vsO l0).take n)), .int .i64 (sm ((dsO l0).take n))] 79 (0, 0))
        replace RO := Aside0.mk (Kd.R_below RO.out hb)
        replace HB := bs_ HB hb
        clear hb
        generalize w4.alloc (.cells #[.int .i64 (sm ((hsO l0).take n)), .int .i64 (sm ((vsO l0).take n)), .int .i64 (sm ((dsO l0).take n))] 79 (0, 0)) = w5 at BKgs RO HB ⊢
        generalize w4.heap.size = gs at BKgs ⊢
        obtain ⟨Ogs_0, Ogs_1, Ogs_2⟩ := c3_ BKgs
        go_wp2_with (first | ((with_reducible refine gate_dst (N := 28) rfl ?_); refine litv_list ?hg (N := 28) ?hd (cs := #[.int .i64 (sm ((hsO l0).take n)), .int .i64 (sm ((vsO l0).take n))]) (E := 60) ?hr ?_; (case hd => rfl); (case hg => rfl); (case hr => first | (go_simp; done) | (go_simp; rfl)); intro ga hg w10 hbox hb; replace hb := nb_ HB hb; replace RO := Aside0.mk (Kd.R_below RO.out hb); replace HB := bs_ HB hb; have BKga := Aside0.mk hbox; clear hb hbox hg Ogs_0 Ogs_1 Ogs_2) | ((with_reducible refine gate_dst (N := 29) rfl ?_); refine app60_list (w := w) ?hg (.tmp 22) (.tmp 28) 37 60 ?ho Try.underlying37 info60 u5 (ptsS (hsO l0) (vsO l0) n) ⟨sm ((hsO l0).take n), sm ((vsO l0).take n)⟩ ga ?hq1 ?hq2 RO.out BKga.out HB.out HPL.out ?_; (case hg => rfl); (case ho => rfl); (case hq1 => rfl); (case hq2 => rfl); intro u5_ w11 ho hb hg hat; have n1_ := Aside0.mk hb; rw [ptsS_succ] at ho; have n2_ := Aside0.mk ho; clear HB RO BKga BKgs; have HB := n1_; have RO := n2_; clear n1_ n2_ ho hb hg hat))
        go_roundg (gk - 1)
        case measure => have := HI.out; have := HNL.out; omega
        case rel => exact ⟨n + 1, by rw [EW.out], ⟨by have := HI.out; have := HNL.out; omega⟩, RO, HB⟩
      · have hd : decide ((n : Int) ≤ (l0.length : Int)) = false := decide_eq_false (by omega)
        have hd2 : decide (n ≤ l0.length) = false := decide_eq_false (by omega)
        have HN : Aside0 (n = l0.length + 1) := ⟨by have := HI.out; omega⟩
        clear hn
        go_wp2
        go_ret2
        rw [HF.out]
        have ro := RO.out
        rw [HN.out] at ro
        exact ⟨_, rfl, ro, HB.out⟩
end Go.Proofs.Ytlhfclpbodfmcaa.Pr
namespace Go.Proofs.Ytlhfclpbodfmcaa.Pr
open Go.RowKit Go.Proofs.YtlhfclpbodfmcaaW.PrintWords Go.Proofs.YtlhfclpbodfmcaaW.PrintLast Go.Proofs.YtlhfclpbodfmcaaW.PrintMore
theorem eq60_self (l : List S60) (hl : l.length ≤ 200) : api_Point_54.f 300 l l = some true := by
  have key : ∀ (n i k : Nat), n + i = l.length → n < k → api_Point_54.l0 k l l (l.length : Int) (i : Int) = some true := by
    intro n
    induction n with
    | zero =>
      intro i k h hk
      obtain ⟨k, rfl⟩ : ∃ m, k = m + 1 := ⟨k - 1, by omega⟩
      simp only [api_Point_54.l0]
      rw [if_neg (by omega)]
    | succ n ih =>
      intro i k h hk
      obtain ⟨k, rfl⟩ : ∃ m, k = m + 1 := ⟨k - 1, by omega⟩
      simp only [api_Point_54.l0]
      rw [if_pos (by omega), if_pos (by omega), if_pos (by omega), if_pos (by omega), if_neg (by simp), wr (by omega) (by omega)]
      exact ih (i + 1) k (by omega) (by omega)
  unfold api_Point_54.f
  rw [if_pos rfl]
  exact key l.length 0 300 (by omega) (by omega)
end Go.Proofs.Ytlhfclpbodfmcaa.Pr
