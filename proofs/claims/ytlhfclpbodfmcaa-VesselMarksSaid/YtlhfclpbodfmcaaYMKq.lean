/- A part of the proof: Kq, Ra, Rb, Rc, Re, Rd, Rf, Rg, Kl, Rh, Rq, Sl, Rr, Sv, Fb. -/
import Derived.Test.YtlhfclpbodfmcaaYMWMore
import Derived.Test.YtlhfclpbodfmcaaYMVm
import Derived.Test.YtlhfclpbodfmcaaXLb
import Derived.Test.YtlhfclpbodfmcaaXDr
import Derived.Test.YtlhfclpbodfmcaaXTqI
import Derived.WalkMore
namespace Go.Proofs.Ytlhfclpbodfmcaa.Pr
open Go.RowKit Go.Proofs.YtlhfclpbodfmcaaW.PrintWords Go.Proofs.YtlhfclpbodfmcaaW.PrintLast Go.Proofs.YtlhfclpbodfmcaaW.PrintMore
set_option linter.unusedVariables false
section
variable {P : Program} {ops : Array Oper} {Q : Exit → Act → World → Prop} {md : Region.Mode} {S : World → Prop} {ds : List Nat}
end
theorem fb_ {n : Nat} {w W X : World} (HB : Aside0 (Below n w W)) (h : Below W.heap.size W X := by repeat (first | exact Below.refl _ _ | apply below_alloc | apply pw_below_drewN | apply below_drew1)) (hn : n ≤ W.heap.size := by first | exact HB.out.size | exact Nat.le_refl _) : Below n w X := HB.out.trans (h.mono hn)
section
variable {P : Program} {ops : Array Oper} {Q : Exit → Act → World → Prop}
end
end Go.Proofs.Ytlhfclpbodfmcaa.Pr
namespace Go.Proofs.Ytlhfclpbodfmcaa.Pr
open Go.RowKit Go.Proofs.YtlhfclpbodfmcaaW.PrintWords Go.Proofs.YtlhfclpbodfmcaaW.PrintLast Go.Proofs.YtlhfclpbodfmcaaW.PrintMore
open Go.Proofs.Ytlhfclpbodfmcaa.Vm
set_option linter.unusedVariables false
set_option linter.unusedSimpArgs false
def inB (n lo hi : Int) : Bool := decide (lo ≤ n) && decide (n ≤ hi)
theorem inB_iff {n lo hi : Int} : inB n lo hi = true ↔ lo ≤ n ∧ n ≤ hi := by unfold inB; simp
set_option maxHeartbeats 1600000 in
set_option maxRecDepth 100000 in
theorem ref_within.calls (n lo hi : Int) (w : World) : Calls Try.prog 104 #[.int .i64 n, .int .i64 lo, .int .i64 hi] w fun e w' => e = .returned (.bool (inB n lo hi)) ∧ Below w.heap.size w w' := by
  have HB := Aside0.mk (Below.refl w.heap.size w)
  unfold inB
  cases hd : decide (lo ≤ n)
  all_goals go_enter Try.func104, Try.ntmps104
  all_goals go_wp2
  all_goals go_ret
  all_goals exact ⟨by simp, HB.out⟩
set_option maxHeartbeats 1600000 in
set_option maxRecDepth 100000 in
theorem ref_isRing.calls (r : S79) (w : World) : Calls Try.prog 119 #[.agg #[.int .i64 r.f0, .int .i64 r.f1, .int .i64 r.f2]] w fun e w' => e = .returned (.bool (ringB r)) ∧ Below w.heap.size w w' := by
  have hu79 := Try.underlying79
  have HB := Aside0.mk (Below.refl w.heap.size w)
  have key : ringB r = (inB r.f0 1 1000 && (inB r.f1 1 100000 && inB r.f2 1 20000)) := by
    rw [Bool.eq_iff_iff, ringB_iff, Bool.and_eq_true, Bool.and_eq_true, inB_iff, inB_iff, inB_iff]; constructor <;> (intro h; omega)
  rw [key]
  clear key
  obtain ⟨b0, h0⟩ : ∃ b, inB r.f0 1 1000 = b := ⟨_, rfl⟩
  obtain ⟨b1, h1⟩ : ∃ b, inB r.f1 1 100000 = b := ⟨_, rfl⟩
  obtain ⟨b2, h2⟩ : ∃ b, inB r.f2 1 20000 = b := ⟨_, rfl⟩
  have C0 : Aside0 (∀ W, Calls Try.prog 104 #[.int .i64 r.f0, .int .i64 1, .int .i64 1000] W fun e w' => e = .returned (.bool b0) ∧ Below W.heap.size W w') := ⟨fun W => h0 ▸ ref_within.calls r.f0 1 1000 W⟩
  have C1 : Aside0 (∀ W, Calls Try.prog 104 #[.int .i64 r.f1, .int .i64 1, .int .i64 100000] W fun e w' => e = .returned (.bool b1) ∧ Below W.heap.size W w') := ⟨fun W => h1 ▸ ref_within.calls r.f1 1 100000 W⟩
  have C2 : Aside0 (∀ W, Calls Try.prog 104 #[.int .i64 r.f2, .int .i64 1, .int .i64 20000] W fun e w' => e = .returned (.bool b2) ∧ Below W.heap.size W w') := ⟨fun W => h2 ▸ ref_within.calls r.f2 1 20000 W⟩
  rw [h0, h1, h2]
  clear h0 h1 h2
  go_enter Try.func119, Try.ntmps119
  go_wp2_with (first | ((with_reducible refine gate_dst (N := 1) rfl ?_); refine bx_ 1 #[.int .i64 (r.f0), .int .i64 (r.f1), .int .i64 (r.f2)] 79 ?_; intro gx hg w1 hbox hb; have GEgx := ge_ hg HB; replace hb := nb_ HB hb; replace HB := bs_ HB hb; have BKgx := Aside0.mk hbox; obtain ⟨Ogx_0, Ogx_1, Ogx_2⟩ := c3_ BKgx; clear hb hbox hg))
  go_wp2_with fail
  refine (C0.out _).mono ?_
  rintro e w2 ⟨rfl, hb⟩
  replace hb := nb_ HB hb
  replace BKgx := kb_ BKgx hb
  replace HB := bs_ HB hb
  clear Ogx_0 Ogx_1 Ogx_2
  obtain ⟨Ogx_0, Ogx_1, Ogx_2⟩ := c3_ BKgx
  clear hb
  cases b0
  · go_wp2
    go_ret
    exact ⟨rfl, HB.out⟩
  go_wp2_with fail
  refine (C1.out _).mono ?_
  rintro e w3 ⟨rfl, hb⟩
  replace hb := nb_ HB hb
  replace BKgx := kb_ BKgx hb
  replace HB := bs_ HB hb
  clear Ogx_0 Ogx_1 Ogx_2
  obtain ⟨Ogx_0, Ogx_1, Ogx_2⟩ := c3_ BKgx
  clear hb
  cases b1
  · go_wp2
    go_ret
    exact ⟨rfl, HB.out⟩
  go_wp2_with fail
  refine (C2.out _).mono ?_
  rintro e w4 ⟨rfl, hb⟩
  replace hb := nb_ HB hb
  replace BKgx := kb_ BKgx hb
  replace HB := bs_ HB hb
  clear Ogx_0 Ogx_1 Ogx_2
  obtain ⟨Ogx_0, Ogx_1, Ogx_2⟩ := c3_ BKgx
  clear hb
  go_wp2
  go_ret
  exact ⟨rfl, HB.out⟩
def ref_span.T1 : Bool × List (List Nat × List Nat) := (true, [([], []), ([], []), ([0, 1], [0, 1]), ([], []), ([], []), ([3, 4], [3, 4]), ([5], [5]), ([], []), ([6, 7], [6, 7]), ([2, 8], [2, 8]), ([9, 0, 1, 2, 3, 4, 5, 6, 7, 8, 9], [9])])
def ref_span.B1 : List Nat := [0, 0, 3, 0, 0, 24, 56, 0, 248, 511, 1023]
theorem ref_span.tab1 : rtab .any (opsOf Try.f85 1) = ref_span.T1 := by kernel_rfl
theorem ref_span.bits1 : waitsOk ref_span.T1.2 ref_span.B1 = true := by kernel_rfl
def spanD (n d : Int) : Int × Int := (n / d, (n + d - 1) / d)
set_option maxHeartbeats 1600000 in
set_option maxRecDepth 100000 in
theorem ref_span.calls (n d : Int) (w : World) (n0 : 0 ≤ n) (n1 : n ≤ 1000000000000000000) (d0 : 1 ≤ d) (d1 : d ≤ 1000000000000000000) : Calls Try.prog 85 #[.int .i64 n, .int .i64 d] w fun e w' => e = .returned (.agg #[.int .i64 (spanD n d).1, .int .i64 (spanD n d).2]) ∧ Below w.heap.size w w' := by
  have hu27 := Try.underlying27
  have HB := Aside0.mk (Below.refl w.heap.size w)
  have HE : Aside0 (wrap64 (n.tdiv d) = (spanD n d).1 ∧ wrap64 ((wrap64 (wrap64 (n + d) - 1)).tdiv d) = (spanD n d).2) := ⟨by
    have q0 := Int.ediv_nonneg n0 (show 0 ≤ d by omega)
    have q1 := Int.ediv_le_self d n0
    have q2 := Int.ediv_nonneg (show 0 ≤ n + d - 1 by omega) (show 0 ≤ d by omega)
    have q3 := Int.ediv_le_self d (show 0 ≤ n + d - 1 by omega)
    unfold spanD
    rw [Int.tdiv_eq_ediv_of_nonneg n0, wr (n := n + d) (by omega) (by omega), wr (n := n + d - 1) (by omega) (by omega), Int.tdiv_eq_ediv_of_nonneg (by omega : 0 ≤ n + d - 1), wr (by omega) (by omega), wr (by omega) (by omega)]
    exact ⟨rfl, rfl⟩⟩
  have hz : (d == 0) = false := beq_eq_false_iff_ne.2 (by omega)
  have hz2 : ¬ d = 0 := by omega
  clear n0 n1 d0 d1
  go_enter Try.func85, Try.ntmps85
  go_wp2_with (first | ((with_reducible refine gate_dst (N := 4) rfl ?_); refine bx_ 4 #[.int .i64 0, .int .i64 0] 27 ?_; intro gb hg w1 hbox hb; have GEgb := ge_ hg HB; replace hb := nb_ HB hb; replace HB := bs_ HB hb; have BKgb := Aside0.mk hbox; clear hb hbox hg))
  replace BKgb := kd_ BKgb
  replace HB := bd_ HB
  refine sM_ [10] (fun w' => True) ref_span.tab1 ref_span.bits1 trivial (fun hHeld HT_ HW_ => ?_)
  generalize w1.drew = w2 at BKgb HB hHeld ⊢
  refine pM_ HT_ 0 5 1 ?_
  refine pM_ HT_ 1 6 3 ?_
  refine pM_ HT_ 2 7 7 ?_
  refine pM_ HT_ 3 8 15 ?_
  refine pM_ HT_ 4 9 31 ?_
  refine pM_ HT_ 5 10 63 ?_
  refine pM_ HT_ 6 11 127 ?_
  refine pM_ HT_ 7 12 255 ?_
  refine pM_ HT_ 8 13 511 ?_
  refine pM_ HT_ 9 14 1023 ?_
  refine lM_ HT_ 10 none 2047 (fun K hK => ?_)
  have hc_ := cf2_ BKgb
  refine sk2_ ?_
  intro ws_ hp_
  clear hc_
  refine hK.out _ _ ?_
  clear hK K
  refine dM_ HT_ ?_
  try go_wp2
  refine bodyPost_ret (results_cell_row rfl _ _ gb 27 #[.int .i64 (wrap64 (n.tdiv d)), .int .i64 (wrap64 ((wrap64 (wrap64 (n + d) - 1)).tdiv d))] (0, 0) _ rfl (pp2_ BKgb hp_).out Try.underlying27 rfl (by kernel_rfl)) rfl ?_
  exact ⟨by rw [HE.out.1, HE.out.2], (pb2_ GEgb HB hp_).out⟩
def ref_lowest.T6 : Bool × List (List Nat × List Nat) := (true, [([], []), ([], []), ([], []), ([1, 2], [1, 2]), ([], []), ([], []), ([4, 5], [4, 5]), ([0, 3, 6], [0, 3, 6]), ([7, 0, 1, 2, 3, 4, 5, 6, 7], [7])])
def ref_lowest.B6 : List Nat := [0, 0, 0, 6, 0, 0, 48, 127, 255]
theorem ref_lowest.tab6 : rtab .any (opsOf Try.f131 6) = ref_lowest.T6 := by kernel_rfl
theorem ref_lowest.bits6 : waitsOk ref_lowest.T6.2 ref_lowest.B6 = true := by kernel_rfl
theorem gcd_step {a b : Int} (h : 0 ≤ a) (h2 : 0 ≤ b) : Int.gcd b (a % b) = Int.gcd a b := by
  obtain ⟨m, rfl⟩ := Int.eq_ofNat_of_zero_le h
  obtain ⟨n, rfl⟩ := Int.eq_ofNat_of_zero_le h2
  show Int.gcd (n : Int) ((m % n : Nat) : Int) = _
  rw [Int.gcd_natCast_natCast, Int.gcd_natCast_natCast, Nat.gcd_comm n, ← Nat.gcd_rec, Nat.gcd_comm]
theorem wrp_ {n : Int} (h0 : -9223372036854775808 ≤ n) (h1 : n ≤ 9223372036854775807) : wrap64 n = n := wr h0 h1
set_option maxHeartbeats 1600000 in
set_option maxRecDepth 100000 in
theorem ref_lowest.calls (r n d : Int) (w : World) (n0 : 0 ≤ n) (n1 : n ≤ 1000000000000000000) (d0 : 1 ≤ d) (d1 : d ≤ 1000000000000000000) : Calls Try.prog 131 #[.int .i64 r, .int .i64 n, .int .i64 d] w fun e w' => e = .returned (.agg #[.int .i64 r, .int .i64 (n / (Int.gcd n d : Int)), .int .i64 (d / (Int.gcd n d : Int))]) ∧ Below w.heap.size w w' := by
  have hu96 := Try.underlying96
  have HB := Aside0.mk (Below.refl w.heap.size w)
  have HN := Aside0.mk n0
  have HN1 := Aside0.mk n1
  have HD := Aside0.mk d0
  have HD1 := Aside0.mk d1
  clear n0 n1 d0 d1
  go_enter Try.func131, Try.ntmps131
  go_wp2_with (first | ((with_reducible refine gate_dst (N := 6) rfl ?_); refine bx_ 6 #[.int .i64 0, .int .i64 0, .int .i64 0] 96 ?_; intro gb hg w1 hbox hb; have GEgb := ge_ hg HB; replace hb := nb_ HB hb; replace HB := bs_ HB hb; have BKgb := Aside0.mk hbox; clear hb hbox hg))
  go_loopg [7, 8] d.toNat (fun kq v7 v8 w' => ∃ a b : Int, v7 = .int .i64 a ∧ v8 = .int .i64 b ∧ Aside0 (0 ≤ a ∧ 0 ≤ b ∧ a ≤ 1000000000000000000 ∧ b ≤ 1000000000000000000 ∧ 1 ≤ a + b ∧ Int.gcd a b = Int.gcd n d ∧ b.toNat ≤ kq) ∧ Aside0 (w'.heap[gb]? = some (.cells #[.int .i64 0, .int .i64 0, .int .i64 0] 96 (0, 0))) ∧ Aside0 (Below w.heap.size w w'))
  case atStart => exact ⟨n, d, rfl, rfl, ⟨HN.out, by have := HD.out; omega, HN1.out, HD1.out, by have := HN.out; have := HD.out; omega, rfl, Nat.le_refl _⟩, BKgb, HB⟩
  case round =>
    clear BKgb HB
    obtain ⟨a, b, rfl, rfl, HI, BKgb, HB⟩ := hrel
    obtain ⟨h1, h2, h3, h4, h5, h6, h7⟩ := HI.out
    by_cases hb0 : b = 0
    · have hz : (b == 0) = true := beq_iff_eq.2 hb0
      have hz2 : (b != 0) = false := bne_eq_false_iff_eq.2 hb0
      have hga : a = (Int.gcd n d : Int) := by rw [← h6, hb0, Int.gcd_zero_right]; omega
      have HE : Aside0 (wrap64 (n.tdiv a) = n / (Int.gcd n d : Int) ∧ wrap64 (d.tdiv a) = d / (Int.gcd n d : Int)) := ⟨by
        have n0 := HN.out
        have n1 := HN1.out
        have d0 := HD.out
        have d1 := HD1.out
        have q0 := Int.ediv_nonneg n0 h1
        have q1 := Int.ediv_le_self a n0
        have q2 := Int.ediv_nonneg (show 0 ≤ d by omega) h1
        have q3 := Int.ediv_le_self a (show 0 ≤ d by omega)
        rw [Int.tdiv_eq_ediv_of_nonneg n0, Int.tdiv_eq_ediv_of_nonneg (by omega : 0 ≤ d), wrp_ (by omega) (by omega), wrp_ (by omega) (by omega), ← hga]
        exact ⟨rfl, rfl⟩⟩
      have ha : (a == 0) = false := beq_eq_false_iff_ne.2 (by omega)
      have ha2 : ¬ a = 0 := by omega
      clear hga hb0 h1 h2 h3 h4 h5 h6 h7 HI
      try go_wp2
      replace BKgb := kd_ BKgb
      replace HB := bd_ HB
      refine sM_ [8] (fun w' => True) ref_lowest.tab6 ref_lowest.bits6 trivial (fun hHeld HT_ HW_ => ?_)
      generalize wr.drew = w2 at BKgb HB hHeld ⊢
      refine pM_ HT_ 0 19 1 ?_
      refine pM_ HT_ 1 20 3 ?_
      refine pM_ HT_ 2 21 7 ?_
      refine pM_ HT_ 3 22 15 ?_
      refine pM_ HT_ 4 23 31 ?_
      refine pM_ HT_ 5 24 63 ?_
      refine pM_ HT_ 6 25 127 ?_
      refine pM_ HT_ 7 26 255 ?_
      refine lM_ HT_ 8 none 511 (fun K hK => ?_)
      have hc_ := cf3_ BKgb
      refine sk3_ ?_
      intro ws_ hp_
      clear hc_
      refine hK.out _ _ ?_
      clear hK K
      refine dM_ HT_ ?_
      try go_wp2
      refine bodyPost_ret (results_cell_row rfl _ _ gb 96 #[.int .i64 r, .int .i64 (wrap64 (n.tdiv a)), .int .i64 (wrap64 (d.tdiv a))] (0, 0) _ rfl (pp3_ BKgb hp_).out Try.underlying96 rfl (by kernel_rfl)) rfl ?_
      exact ⟨by rw [HE.out.1, HE.out.2], (pb3_ GEgb HB hp_).out⟩
    · have hz : (b == 0) = false := beq_eq_false_iff_ne.2 hb0
      have hz2 : (b != 0) = true := bne_iff_ne.2 hb0
      have m0 := Int.emod_nonneg a hb0
      have m1 := Int.emod_lt_of_pos a (show 0 < b by omega)
      have et : a.tmod b = a % b := Int.tmod_eq_emod_of_nonneg h1
      have ew : wrap64 (a % b) = a % b := wrp_ (by omega) (by omega)
      have hg := gcd_step h1 h2
      have HX : Aside0 (0 ≤ b ∧ 0 ≤ a % b ∧ b ≤ 1000000000000000000 ∧ a % b ≤ 1000000000000000000 ∧ 1 ≤ b + a % b ∧ Int.gcd b (a % b) = Int.gcd n d ∧ (a % b).toNat ≤ gk - 1 ∧ gk - 1 < gk) := ⟨h2, m0, h4, by omega, by omega, hg.trans h6, by omega, by omega⟩
      clear h1 h2 h3 h4 h5 h6 h7 m0 m1 hg HI
      go_wp2
      go_roundg (gk - 1)
      case measure => have := HX.out; omega
      case rel => exact ⟨b, a % b, rfl, by first | rfl | (simp only [*]; done), ⟨HX.out.1, HX.out.2.1, HX.out.2.2.1, HX.out.2.2.2.1, HX.out.2.2.2.2.1, HX.out.2.2.2.2.2.1, HX.out.2.2.2.2.2.2.1⟩, BKgb, HB⟩
end Go.Proofs.Ytlhfclpbodfmcaa.Pr
namespace Go.Proofs.Ytlhfclpbodfmcaa.Pr
open Go.RowKit Go.Proofs.YtlhfclpbodfmcaaW.PrintWords Go.Proofs.YtlhfclpbodfmcaaW.PrintLast Go.Proofs.YtlhfclpbodfmcaaW.PrintMore
open Go.Proofs.Ytlhfclpbodfmcaa.Vm
set_option linter.unusedVariables false
set_option linter.unusedSimpArgs false
attribute [local go_sem] fld79_0 fld79_1 fld79_2
/-- One cell of a block is set. -/
structure Set1 (W W' : World) (g j : Nat) (u : Value) : Prop where
  e : W.setCell ⟨g, j, none⟩ u = W'
theorem sj_ {P : Program} {ops : Array Oper} {oi : Oper} {a : Act} {Q : Exit → Act → World → Prop} {K : Act → World → Prop} {W : World} {g j : Nat} {u : Value} (h : ∀ W', Set1 W W' g j u → K a W') (hw : Region.wanted oi (yielded ops a.tmps) = true := by rfl) (hN : oi.dst = none := by rfl) (hrun : (execOp a.eval oi).run P W = .ok .skip (W.setCell ⟨g, j, none⟩ u) := by first | (go_simp; done) | (go_simp; rfl)) : if Region.wanted oi (yielded ops a.tmps) = true then Oper.wp P oi a W K Q else K (a.put none undef) W := skip_ hw hN hrun (h _ ⟨rfl⟩)
theorem sp0_ {W W' : World} {g t : Nat} {a b c x : Value} (h : Aside0 (W.heap[g]? = some (.cells #[a, b, c] t (0, 0)))) (p : Set1 W W' g 0 x) : Aside0 (W'.heap[g]? = some (.cells #[x, b, c] t (0, 0))) := ⟨by rw [← p.e]; exact blk_put h.out 0 x rfl⟩
theorem sp1_ {W W' : World} {g t : Nat} {a b c x : Value} (h : Aside0 (W.heap[g]? = some (.cells #[a, b, c] t (0, 0)))) (p : Set1 W W' g 1 x) : Aside0 (W'.heap[g]? = some (.cells #[a, x, c] t (0, 0))) := ⟨by rw [← p.e]; exact blk_put h.out 1 x rfl⟩
theorem sp2_ {W W' : World} {g t : Nat} {a b c x : Value} (h : Aside0 (W.heap[g]? = some (.cells #[a, b, c] t (0, 0)))) (p : Set1 W W' g 2 x) : Aside0 (W'.heap[g]? = some (.cells #[a, b, x] t (0, 0))) := ⟨by rw [← p.e]; exact blk_put h.out 2 x rfl⟩
theorem sf_ {W W' : World} {g k j t : Nat} {cs : Array Value} {x : Value} (n : Aside0 (k ≠ g)) (h : Aside0 (W.heap[k]? = some (.cells cs t (0, 0)))) (p : Set1 W W' g j x) : Aside0 (W'.heap[k]? = some (.cells cs t (0, 0))) := ⟨by rw [← p.e]; exact blk_far (p := ⟨g, j, none⟩) h.out n.out x⟩
theorem sb_ {w W W' : World} {g j : Nat} {x : Value} (n : Aside0 (w.heap.size ≤ g)) (h : Aside0 (Below w.heap.size w W)) (p : Set1 W W' g j x) : Aside0 (Below w.heap.size w W') := ⟨by rw [← p.e]; exact below_set h.out n.out⟩
theorem rd79_gt (l : List S79) (i : Nat) (h : i < l.length) : gt (hsO l) i = (rd_T79 l (i : Int)).f0 ∧ gt (vsO l) i = (rd_T79 l (i : Int)).f1 ∧ gt (dsO l) i = (rd_T79 l (i : Int)).f2 := by
  simp [gt, rd_T79, List.getD_eq_getElem?_getD, List.getElem?_eq_getElem h]
theorem take_b {xs : List Int} (h : Pos xs) (i : Nat) : 0 ≤ sm (xs.take i) ∧ sm (xs.take i) ≤ sm xs := ⟨(h.take i).sum, sm_take_le_all h i⟩
def ref_Sums.T5 : Bool × List (List Nat × List Nat) := (true, [([], []), ([0], [0]), ([], []), ([], []), ([2, 3], [2, 3]), ([4], [4]), ([5], [5]), ([1, 6], [1, 6]), ([0, 1, 2, 3, 4, 5, 6, 7], []), ([8, 7, 0, 1, 2, 3, 4, 5, 6, 7], [7, 8])])
def ref_Sums.B5 : List Nat := [0, 1, 0, 0, 12, 28, 60, 127, 255, 511]
theorem ref_Sums.tab5 : rtab .any (opsOf Try.f91 5) = ref_Sums.T5 := by kernel_rfl
theorem ref_Sums.bits5 : waitsOk ref_Sums.T5.2 ref_Sums.B5 = true := by kernel_rfl
def ref_Sums.T6 : Bool × List (List Nat × List Nat) := (true, [([], []), ([0], [0]), ([], []), ([], []), ([2, 3], [2, 3]), ([4], [4]), ([5], [5]), ([1, 6], [1, 6]), ([0, 1, 2, 3, 4, 5, 6, 7], []), ([8, 7, 0, 1, 2, 3, 4, 5, 6, 7], [7, 8])])
def ref_Sums.B6 : List Nat := [0, 1, 0, 0, 12, 28, 60, 127, 255, 511]
theorem ref_Sums.tab6 : rtab .any (opsOf Try.f91 6) = ref_Sums.T6 := by kernel_rfl
theorem ref_Sums.bits6 : waitsOk ref_Sums.T6.2 ref_Sums.B6 = true := by kernel_rfl
def ref_Sums.T7 : Bool × List (List Nat × List Nat) := (true, [([], []), ([0], [0]), ([], []), ([], []), ([2, 3], [2, 3]), ([4], [4]), ([5], [5]), ([1, 6], [1, 6]), ([0, 1, 2, 3, 4, 5, 6, 7], []), ([8, 7, 0, 1, 2, 3, 4, 5, 6, 7], [7, 8])])
def ref_Sums.B7 : List Nat := [0, 1, 0, 0, 12, 28, 60, 127, 255, 511]
theorem ref_Sums.tab7 : rtab .any (opsOf Try.f91 7) = ref_Sums.T7 := by kernel_rfl
theorem ref_Sums.bits7 : waitsOk ref_Sums.T7.2 ref_Sums.B7 = true := by kernel_rfl
set_option maxHeartbeats 1600000 in
set_option maxRecDepth 100000 in
theorem ref_Sums.calls (A0 : Option Addr) (c0 : Nat) (l0 : List S79) (i : Nat) (w : World) (hr0 : Kd.C k79 w A0 l0.length l0) (hG : GV (hsO l0) (vsO l0) (dsO l0)) (hi : i ≤ l0.length) : Calls Try.prog 91 #[.slice A0 l0.length c0, .int .i64 (i : Int)] w fun e w' => e = .returned (.agg #[.int .i64 (sm ((hsO l0).take i)), .int .i64 (sm ((vsO l0).take i)), .int .i64 (sm ((dsO l0).take i))]) ∧ Below w.heap.size w w' := by
  have hu79 := Try.underlying79
  have HB := Aside0.mk (Below.refl w.heap.size w)
  have HR0 := Aside0.mk hr0
  have HG := Aside0.mk hG
  have HI0 := Aside0.mk hi
  clear hr0 hG hi
  go_enter Try.func91, Try.ntmps91
  go_wp2_with (first | ((with_reducible refine gate_dst (N := 4) rfl ?_); refine bx_ 4 #[.int .i64 0, .int .i64 0, .int .i64 0] 79 ?_; intro gr hg w1 hbox hb; have GEgr := ge_ hg HB; replace hb := nb_ HB hb; replace HB := bs_ HB hb; have BKgr := Aside0.mk hbox; clear hb hbox hg) | ((with_reducible refine gate_dst (N := 5) rfl ?_); refine bx_ 5 #[.int .i64 0, .int .i64 0, .int .i64 0] 79 ?_; intro gs hg w2 hbox hb; have GEgs := ge_ hg HB; have NEgr_gs := ne_ hg BKgr; replace hb := nb_ HB hb; replace BKgr := kb_ BKgr hb; replace HB := bs_ HB hb; have BKgs := Aside0.mk hbox; clear hb hbox hg))
  go_loopg [6] i (fun kq v6 w' => ∃ j : Nat, v6 = .int .i64 (j : Int) ∧ Aside0 (j ≤ i ∧ i - j ≤ kq) ∧ Aside0 (w'.heap[gr]? = some (.cells #[.int .i64 0, .int .i64 0, .int .i64 0] 79 (0, 0))) ∧ Aside0 (w'.heap[gs]? = some (.cells #[.int .i64 (sm ((hsO l0).take j)), .int .i64 (sm ((vsO l0).take j)), .int .i64 (sm ((dsO l0).take j))] 79 (0, 0))) ∧ Aside0 (Below w.heap.size w w'))
  case atStart => exact ⟨0, rfl, ⟨Nat.zero_le _, by omega⟩, BKgr, BKgs, HB⟩
  case round =>
    clear BKgr BKgs HB
    obtain ⟨j, rfl, HJ, BKgr, BKgs, HB⟩ := hrel
    by_cases hj : j < i
    · have hd : decide ((j : Int) < (i : Int)) = true := decide_eq_true (by omega)
      have hd2 : decide (j < i) = true := decide_eq_true hj
      have hjl : j < l0.length := by have := HI0.out; omega
      have hi0 : (0 : Int) ≤ (j : Int) := by omega
      have hi1 : (j : Int) < (l0.length : Int) := by omega
      obtain ⟨ad, q_, x0_, x1_, x2_⟩ := at_T79 HR0.out (j : Int) hi0 hi1
      subst q_
      simp only [Int.toNat_natCast] at x0_ x1_ x2_
      have X0 := Aside0.mk x0_
      have X1 := Aside0.mk x1_
      have X2 := Aside0.mk x2_
      clear x0_ x1_ x2_
      obtain ⟨e0, e1, e2⟩ := rd79_gt l0 j hjl
      have hS := HG.out.sums
      have hln : l0.length ≤ 24 := by have := HG.out.h.ln; simpa using this
      have E0 : Aside0 (wrap64 (sm ((hsO l0).take j) + (rd_T79 l0 (j : Int)).f0) = sm ((hsO l0).take (j + 1))) := ⟨by
        have s1 := sm_take_succ (hsO l0) j (by simpa using hjl)
        have b1 := take_b HG.out.h.pos (j + 1)
        rw [e0] at s1
        rw [← s1, wrp_ (by omega) (by omega)]⟩
      have E1 : Aside0 (wrap64 (sm ((vsO l0).take j) + (rd_T79 l0 (j : Int)).f1) = sm ((vsO l0).take (j + 1))) := ⟨by
        have s1 := sm_take_succ (vsO l0) j (by simpa using hjl)
        have b1 := take_b HG.out.v.pos (j + 1)
        rw [e1] at s1
        rw [← s1, wrp_ (by omega) (by omega)]⟩
      have E2 : Aside0 (wrap64 (sm ((dsO l0).take j) + (rd_T79 l0 (j : Int)).f2) = sm ((dsO l0).take (j + 1))) := ⟨by
        have s1 := sm_take_succ (dsO l0) j (by simpa using hjl)
        have b1 := take_b HG.out.d.pos (j + 1)
        rw [e2] at s1
        rw [← s1, wrp_ (by omega) (by omega)]⟩
      have EW : Aside0 (wrap64 ((j : Int) + 1) = ((j + 1 : Nat) : Int)) := ⟨by rw [wrp_ (by omega) (by omega)]; rfl⟩
      clear e0 e1 e2 hS hln
      go_wp2
      replace BKgr := kd_ BKgr
      replace BKgs := kd_ BKgs
      replace HB := bd_ HB
      refine sM_ [9] (fun w' => (w'.cell? ⟨gs, 0, none⟩ = some (.int .i64 (sm ((hsO l0).take j))) ∧ w'.cell? ⟨gs, 1, none⟩ = some (.int .i64 (sm ((vsO l0).take j))) ∧ w'.cell? ⟨gs, 2, none⟩ = some (.int .i64 (sm ((dsO l0).take j)))) ∧ w'.cell? (ad.add (j * 3)) = some (.int .i64 (rd_T79 l0 (j : Int)).f0)) ref_Sums.tab5 ref_Sums.bits5 ⟨c3_ BKgs, pw_cell_below HB.out X0.out⟩ (fun hHeld HT_ HW_ => ?_)
      generalize wr.drew = x0 at BKgr BKgs HB hHeld ⊢
      refine pM_ HT_ 0 12 1 ?_
      refine pM_ HT_ 2 14 5 ?_
      refine pM_ HT_ 3 15 13 ?_
      refine pM_ HT_ 4 16 29 ?_
      refine pM_ HT_ 5 17 61 ?_
      refine tM_ HT_ HW_ hHeld 1 13 63 ?_
      refine tM_ HT_ HW_ hHeld 6 18 127 ?_
      refine pM_ HT_ 7 19 255 ?_
      refine pM_ HT_ 8 20 511 ?_
      refine lM_ HT_ 9 none 1023 (fun K hK => ?_)
      have hc_ := cf3_ BKgs
      refine sj_ (g := gs) (j := 0) ?_
      intro y0 hp_
      clear hc_
      refine hK.out _ _ ?_
      clear hK K
      refine dM_ HT_ ?_
      replace BKgr := sf_ NEgr_gs BKgr hp_
      replace BKgs := sp0_ BKgs hp_
      replace HB := sb_ GEgs HB hp_
      clear hp_
      rw [E0.out] at BKgs
      go_wp2
      replace BKgr := kd_ BKgr
      replace BKgs := kd_ BKgs
      replace HB := bd_ HB
      refine sM_ [9] (fun w' => (w'.cell? ⟨gs, 0, none⟩ = some (.int .i64 (sm ((hsO l0).take (j + 1)))) ∧ w'.cell? ⟨gs, 1, none⟩ = some (.int .i64 (sm ((vsO l0).take j))) ∧ w'.cell? ⟨gs, 2, none⟩ = some (.int .i64 (sm ((dsO l0).take j)))) ∧ w'.cell? ⟨(ad.add (j * 3)).block, (ad.add (j * 3)).off + 1, none⟩ = some (.int .i64 (rd_T79 l0 (j : Int)).f1)) ref_Sums.tab6 ref_Sums.bits6 ⟨c3_ BKgs, pw_cell_below HB.out X1.out⟩ (fun hHeld HT_ HW_ => ?_)
      generalize y0.drew = x1 at BKgr BKgs HB hHeld ⊢
      refine pM_ HT_ 0 21 1 ?_
      refine pM_ HT_ 2 23 5 ?_
      refine pM_ HT_ 3 24 13 ?_
      refine pM_ HT_ 4 25 29 ?_
      refine pM_ HT_ 5 26 61 ?_
      refine tM_ HT_ HW_ hHeld 1 22 63 ?_
      refine tM_ HT_ HW_ hHeld 6 27 127 ?_
      refine pM_ HT_ 7 28 255 ?_
      refine pM_ HT_ 8 29 511 ?_
      refine lM_ HT_ 9 none 1023 (fun K hK => ?_)
      have hc_ := cf3_ BKgs
      refine sj_ (g := gs) (j := 1) ?_
      intro y1 hp_
      clear hc_
      refine hK.out _ _ ?_
      clear hK K
      refine dM_ HT_ ?_
      replace BKgr := sf_ NEgr_gs BKgr hp_
      replace BKgs := sp1_ BKgs hp_
      replace HB := sb_ GEgs HB hp_
      clear hp_
      rw [E1.out] at BKgs
      go_wp2
      replace BKgr := kd_ BKgr
      replace BKgs := kd_ BKgs
      replace HB := bd_ HB
      refine sM_ [9] (fun w' => (w'.cell? ⟨gs, 0, none⟩ = some (.int .i64 (sm ((hsO l0).take (j + 1)))) ∧ w'.cell? ⟨gs, 1, none⟩ = some (.int .i64 (sm ((vsO l0).take (j + 1)))) ∧ w'.cell? ⟨gs, 2, none⟩ = some (.int .i64 (sm ((dsO l0).take j)))) ∧ w'.cell? ⟨(ad.add (j * 3)).block, (ad.add (j * 3)).off + 2, none⟩ = some (.int .i64 (rd_T79 l0 (j : Int)).f2)) ref_Sums.tab7 ref_Sums.bits7 ⟨c3_ BKgs, pw_cell_below HB.out X2.out⟩ (fun hHeld HT_ HW_ => ?_)
      generalize y1.drew = x2 at BKgr BKgs HB hHeld ⊢
      refine pM_ HT_ 0 30 1 ?_
      refine pM_ HT_ 2 32 5 ?_
      refine pM_ HT_ 3 33 13 ?_
      refine pM_ HT_ 4 34 29 ?_
      refine pM_ HT_ 5 35 61 ?_
      refine tM_ HT_ HW_ hHeld 1 31 63 ?_
      refine tM_ HT_ HW_ hHeld 6 36 127 ?_
      refine pM_ HT_ 7 37 255 ?_
      refine pM_ HT_ 8 38 511 ?_
      refine lM_ HT_ 9 none 1023 (fun K hK => ?_)
      have hc_ := cf3_ BKgs
      refine sj_ (g := gs) (j := 2) ?_
      intro y2 hp_
      clear hc_
      refine hK.out _ _ ?_
      clear hK K
      refine dM_ HT_ ?_
      replace BKgr := sf_ NEgr_gs BKgr hp_
      replace BKgs := sp2_ BKgs hp_
      replace HB := sb_ GEgs HB hp_
      clear hp_
      rw [E2.out] at BKgs
      go_wp2
      go_roundg (gk - 1)
      case measure => have := HJ.out; omega
      case rel => exact ⟨j + 1, by rw [EW.out], ⟨by omega, by have := HJ.out; omega⟩, BKgr, BKgs, HB⟩
    · have hd : decide ((j : Int) < (i : Int)) = false := decide_eq_false (by omega)
      have hd2 : decide (j < i) = false := decide_eq_false hj
      have HJI : Aside0 (j = i) := ⟨by have := HJ.out; omega⟩
      obtain ⟨Ogs_0, Ogs_1, Ogs_2⟩ := c3_ BKgs
      go_wp2_with (first | ((with_reducible refine gate_store (t := 79) (p := 4) rfl ?_); have hc_ := cf3_ BKgr; refine st3_ ?_; intro w3 hp_; clear hc_; clear Ogs_0 Ogs_1 Ogs_2; replace BKgr := pp3_ BKgr hp_; replace BKgs := pf3r_ NEgr_gs BKgs hp_; replace HB := pb3_ GEgr HB hp_; clear hp_; obtain ⟨Ogs_0, Ogs_1, Ogs_2⟩ := c3_ BKgs))
      try go_wp2
      refine bodyPost_ret (results_cell_row rfl _ _ gr 79 #[.int .i64 (sm ((hsO l0).take j)), .int .i64 (sm ((vsO l0).take j)), .int .i64 (sm ((dsO l0).take j))] (0, 0) _ rfl BKgr.out Try.underlying79 rfl (by kernel_rfl)) rfl ?_
      exact ⟨by rw [HJI.out], HB.out⟩
end Go.Proofs.Ytlhfclpbodfmcaa.Pr
namespace Go.Proofs.Ytlhfclpbodfmcaa.Pr
open Go.RowKit Go.Proofs.YtlhfclpbodfmcaaW.PrintWords Go.Proofs.YtlhfclpbodfmcaaW.PrintLast Go.Proofs.YtlhfclpbodfmcaaW.PrintMore
open Go.Proofs.Ytlhfclpbodfmcaa.Vm
set_option linter.unusedVariables false
set_option linter.unusedSimpArgs false
attribute [local go_sem] fld79_0 fld79_1 fld79_2
/-- What belongs to a place, times its d. -/
def timeN (xs : List Int) (p : Pl) : Int := sm (xs.take p.r) * p.d + gt xs p.r * p.n
theorem timeN_v {xs : List Int} {p : Pl} (hd : 1 ≤ p.d) : (timeN xs p : Rat) / (p.d : Rat) = pv xs p := by
  have d1 := one_le hd
  unfold timeN pv
  rw [Rat.intCast_add, Rat.intCast_mul, Rat.intCast_mul]
  grind
theorem timeN_bd {xs : List Int} {B : Int} (h : GoodR xs B) {p : Pl} (hp : p.ok xs.length) : 0 ≤ timeN xs p ∧ timeN xs p ≤ sm xs * p.d := by
  obtain ⟨p0, p1, p2, p3⟩ := hp
  have g := h.pos.gt p0
  have t := take_b h.pos p.r
  have s := sm_take_succ xs p.r p0
  have t2 := take_b h.pos (p.r + 1)
  have m1 := Int.mul_nonneg t.1 (show 0 ≤ p.d by omega)
  have m2 := Int.mul_nonneg (show 0 ≤ gt xs p.r by omega) p1
  have m3 := Int.mul_le_mul_of_nonneg_left p2 (show 0 ≤ gt xs p.r by omega)
  have m4 := Int.mul_le_mul_of_nonneg_right t2.2 (show 0 ≤ p.d by omega)
  rw [s, Int.add_mul] at m4
  unfold timeN
  omega
set_option maxHeartbeats 1600000 in
set_option maxRecDepth 100000 in
theorem ref_high.calls (A0 : Option Addr) (c0 : Nat) (l0 : List S79) (w : World) (hr0 : Kd.C k79 w A0 l0.length l0) (hG : GV (hsO l0) (vsO l0) (dsO l0)) : Calls Try.prog 103 #[.slice A0 l0.length c0] w fun e w' => e = .returned (.int .i64 (sm (hsO l0))) ∧ Below w.heap.size w w' := by
  have HR0 := Aside0.mk hr0
  have HG := Aside0.mk hG
  clear hr0 hG
  have HB := Aside0.mk (Below.refl w.heap.size w)
  have HE : Aside0 (sm ((hsO l0).take l0.length) = sm (hsO l0)) := ⟨by rw [List.take_of_length_le (by simp)]⟩
  have C1 : Aside0 (∀ W, Below w.heap.size w W → Calls Try.prog 91 #[.slice A0 l0.length c0, .int .i64 (l0.length : Int)] W fun e w' => e = .returned (.agg #[.int .i64 (sm ((hsO l0).take l0.length)), .int .i64 (sm ((vsO l0).take l0.length)), .int .i64 (sm ((dsO l0).take l0.length))]) ∧ Below W.heap.size W w') := ⟨fun W hB => ref_Sums.calls A0 c0 l0 l0.length W (Kd.C_below HR0.out hB) HG.out (Nat.le_refl _)⟩
  go_enter Try.func103, Try.ntmps103
  go_wp2_with fail
  refine (C1.out _ HB.out).mono ?_
  rintro e w1 ⟨rfl, hb⟩
  replace HB := bs_ HB hb
  clear hb
  go_wp2
  go_ret
  exact ⟨by first | rfl | (rw [HE.out]; done) | (rw [HE.out]; rfl), HB.out⟩
def ref_Level.T1 : Bool × List (List Nat × List Nat) := (true, [([], []), ([], []), ([1], [1]), ([0, 2], [0, 2]), ([3], [3]), ([], []), ([5], [5]), ([4, 6], [4, 6]), ([], []), ([], []), ([9], [9]), ([8, 10], [8, 10]), ([11], [11]), ([12], [12]), ([], []), ([14], [14]), ([13, 15], [13, 15]), ([7, 16], [7, 16]), ([17, 3, 0, 1, 2, 3, 4, 5, 6, 7, 8, 9, 10, 11, 12, 13, 14, 15, 16, 17], [17])])
def ref_Level.B1 : List Nat := [0, 0, 2, 7, 15, 0, 32, 127, 0, 0, 512, 1792, 3840, 7936, 0, 16384, 65280, 131071, 262143]
theorem ref_Level.tab1 : rtab .any (opsOf Try.f86 1) = ref_Level.T1 := by kernel_rfl
theorem ref_Level.bits1 : waitsOk ref_Level.T1.2 ref_Level.B1 = true := by kernel_rfl
set_option maxHeartbeats 1600000 in
set_option maxRecDepth 100000 in
theorem ref_Level.calls (A0 : Option Addr) (c0 : Nat) (l0 : List S79) (p : Pl) (w : World) (hr0 : Kd.C k79 w A0 l0.length l0) (hG : GV (hsO l0) (vsO l0) (dsO l0)) (hp : p.ok l0.length) (hd : p.d ≤ 1000000000) : Calls Try.prog 86 #[.slice A0 l0.length c0, .agg #[.int .i64 ((p).r : Int), .int .i64 (p).n, .int .i64 (p).d]] w fun e w' => e = .returned (.int .i64 (timeN (hsO l0) p)) ∧ Below w.heap.size w w' := by
  have hu96 := Try.underlying96
  have HR0 := Aside0.mk hr0
  have HG := Aside0.mk hG
  clear hr0 hG
  have HB := Aside0.mk (Below.refl w.heap.size w)
  have hpr : p.r < l0.length := hp.1
  have hi0 : (0 : Int) ≤ (p.r : Int) := by omega
  have hi1 : (p.r : Int) < (l0.length : Int) := by omega
  obtain ⟨ad, q_, x0_, x1_, x2_⟩ := at_T79 HR0.out (p.r : Int) hi0 hi1
  subst q_
  simp only [Int.toNat_natCast] at x0_ x1_ x2_
  have X0 := Aside0.mk x0_
  clear x0_ x1_ x2_
  have HE : Aside0 (wrap64 (wrap64 (sm ((hsO l0).take p.r) * p.d) + wrap64 ((rd_T79 l0 (p.r : Int)).f0 * p.n)) = timeN (hsO l0) p) := ⟨by
    have e := (rd79_gt l0 p.r hpr).1
    have hS := HG.out.sums
    have hq : p.ok (hsO l0).length := by simpa using hp
    have tb := timeN_bd HG.out.h hq
    obtain ⟨p0, p1, p2, p3⟩ := hp
    have g := HG.out.h.gt (r := p.r) (by simpa using hpr)
    have t := take_b HG.out.h.pos p.r
    have m1 := Int.mul_nonneg t.1 (show 0 ≤ p.d by omega)
    have m2 := Int.mul_nonneg (show 0 ≤ gt (hsO l0) p.r by omega) p1
    have m5 := Int.mul_le_mul (show sm (hsO l0) ≤ 24000 by omega) hd (by omega) (by omega)
    unfold timeN at tb ⊢
    rw [← e, wrp_ (n := _ * p.d) (by omega) (by omega), wrp_ (n := _ * p.n) (by omega) (by omega), wrp_ (by omega) (by omega)]⟩
  have C1 : Aside0 (∀ W, Below w.heap.size w W → Calls Try.prog 91 #[.slice (some ad) l0.length c0, .int .i64 (p.r : Int)] W fun e w' => e = .returned (.agg #[.int .i64 (sm ((hsO l0).take p.r)), .int .i64 (sm ((vsO l0).take p.r)), .int .i64 (sm ((dsO l0).take p.r))]) ∧ Below W.heap.size W w') := ⟨fun W hB => ref_Sums.calls (some ad) c0 l0 p.r W (Kd.C_below HR0.out hB) HG.out (Nat.le_of_lt hpr)⟩
  clear hp hd
  go_enter Try.func86, Try.ntmps86
  go_wp2_with (first | ((with_reducible refine gate_dst (N := 3) rfl ?_); refine bx_ 3 #[.int .i64 ((p.r : Int)), .int .i64 (p.n), .int .i64 (p.d)] 96 ?_; intro gx hg w1 hbox hb; have GEgx := ge_ hg HB; replace hb := nb_ HB hb; replace HB := bs_ HB hb; have BKgx := Aside0.mk hbox; clear hb hbox hg))
  replace BKgx := kd_ BKgx
  replace HB := bd_ HB
  refine sM_ [] (fun w' => (w'.cell? ⟨gx, 0, none⟩ = some (.int .i64 ((p.r : Int))) ∧ w'.cell? ⟨gx, 1, none⟩ = some (.int .i64 (p.n)) ∧ w'.cell? ⟨gx, 2, none⟩ = some (.int .i64 (p.d))) ∧ w'.cell? (ad.add (p.r * 3)) = some (.int .i64 (rd_T79 l0 (p.r : Int)).f0)) ref_Level.tab1 ref_Level.bits1 ⟨c3_ BKgx, pw_cell_below HB.out X0.out⟩ (fun hHeld HT_ HW_ => ?_)
  generalize w1.drew = w2 at BKgx HB hHeld ⊢
  refine pM_ HT_ 0 5 1 ?_
  refine pM_ HT_ 1 6 3 ?_
  refine pM_ HT_ 5 10 35 ?_
  refine pM_ HT_ 8 13 291 ?_
  refine pM_ HT_ 9 14 803 ?_
  refine pM_ HT_ 14 19 17187 ?_
  refine tM_ HT_ HW_ hHeld 2 7 17191 ?_
  refine tM_ HT_ HW_ hHeld 6 11 17255 ?_
  refine tM_ HT_ HW_ hHeld 10 15 18279 ?_
  refine pM_ HT_ 11 16 20327 ?_
  refine pM_ HT_ 12 17 24423 ?_
  refine tM_ HT_ HW_ hHeld 13 18 32615 ?_
  refine tM_ HT_ HW_ hHeld 15 20 65383 ?_
  refine pM_ HT_ 16 21 130919 ?_
  refine oM_ HT_ 3 (some 8) 130927 (fun K hK => ?_)
  refine gM_ Try.func91 (C1.out _ HB.out) ?_
  rintro e w3 ⟨rfl, hb⟩
  refine ⟨.agg #[.int .i64 (sm ((hsO l0).take p.r)), .int .i64 (sm ((vsO l0).take p.r)), .int .i64 (sm ((dsO l0).take p.r))], rfl, ?_⟩
  replace hb := nb_ HB hb
  replace BKgx := kb_ BKgx hb
  replace HB := bs_ HB hb
  (try clear hb)
  refine hK.out _ _ ⟨c3_ BKgx, pw_cell_below HB.out X0.out⟩ (fun hHeld => ?_)
  clear hK K
  refine nM_ ?_
  refine pM_ HT_ 4 9 130943 ?_
  refine pM_ HT_ 7 12 131071 ?_
  refine pM_ HT_ 17 22 262143 ?_
  refine pM_ HT_ 18 4 524287 ?_
  refine dM_ HT_ ?_
  go_wp2
  go_ret
  exact ⟨by first | (rw [HE.out]; done) | (rw [HE.out]; rfl), HB.out⟩
end Go.Proofs.Ytlhfclpbodfmcaa.Pr
namespace Go.Proofs.Ytlhfclpbodfmcaa.Pr
open Go.RowKit Go.Proofs.YtlhfclpbodfmcaaW.PrintWords Go.Proofs.YtlhfclpbodfmcaaW.PrintLast Go.Proofs.YtlhfclpbodfmcaaW.PrintMore
open Go.Proofs.Ytlhfclpbodfmcaa.Vm
set_option linter.unusedVariables false
set_option linter.unusedSimpArgs false
attribute [local go_sem] fld79_0 fld79_1 fld79_2
def ref_Check.T6 : Bool × List (List Nat × List Nat) := (true, [([], []), ([], []), ([0, 1], [0, 1]), ([2], [2]), ([3], [3]), ([4], [4]), ([5, 4], [5]), ([6], [6]), ([7, 6], [6, 7]), ([8, 6, 6], [6, 8]), ([9], [9]), ([9], [9]), ([10, 11, 9], [9, 10, 11]), ([12, 9], [9, 12]), ([13, 9], [9, 13]), ([9], [9]), ([9], [9]), ([16, 9], [9, 16]), ([15, 17, 9], [9, 15, 17]), ([18, 9], [9, 18]), ([19, 9], [9, 19]), ([14, 20, 9], [9, 14, 20]), ([9], [9]), ([9], [9]), ([23, 9], [9, 23]), ([22, 24, 9], [9, 22, 24]), ([25, 9], [9, 25]), ([26, 9], [9, 26]), ([9], [9]), ([9], [9]), ([28, 29, 9], [9, 28, 29]), ([30, 9], [9, 30]), ([31, 9], [9, 31]), ([27, 32, 9], [9, 27, 32]), ([21, 33, 9], [9, 21, 33]), ([9, 34, 6], [6, 9, 34]), ([6, 35], [6, 35])])
def ref_Check.B6 : List Nat := [0, 0, 3, 7, 15, 31, 63, 127, 255, 511, 1023, 1023, 4095, 8191, 16383, 1023, 1023, 66559, 230399, 492543, 1016831, 2097151, 1023, 1023, 8389631, 29361151, 62915583, 130024447, 1023, 1023, 805307391, 1879049215, 4026532863, 8585741311, 17179869183, 34359738367, 68719476735]
theorem ref_Check.tab6 : rtab .any (opsOf Try.f53 6) = ref_Check.T6 := by kernel_rfl
theorem ref_Check.bits6 : waitsOk ref_Check.T6.2 ref_Check.B6 = true := by kernel_rfl
set_option maxHeartbeats 1600000 in
set_option maxRecDepth 100000 in
theorem ref_Check.calls (A0 : Option Addr) (c0 : Nat) (l0 : List S79) (w : World) (hr0 : Kd.C k79 w A0 l0.length l0) : Calls Try.prog 53 #[.slice A0 l0.length c0] w fun e w' => e = .returned (.int .i64 (checkF l0)) ∧ Below w.heap.size w w' := by
  have hu79 := Try.underlying79
  have HR0 := Aside0.mk hr0
  have HB := Aside0.mk (Below.refl w.heap.size w)
  clear hr0
  by_cases hL : 1 ≤ l0.length ∧ l0.length ≤ 24
  · have HE : Aside0 (checkF l0 = if chainB l0 then 0 else 20) := ⟨by unfold checkF validB; rw [decide_eq_true hL, Bool.true_and]⟩
    have HL := Aside0.mk hL
    have q1 : decide ((l0.length : Int) < 1) = false := decide_eq_false (by omega)
    have q2 : decide (24 < (l0.length : Int)) = false := decide_eq_false (by omega)
    have q3 : decide (24 < l0.length) = false := decide_eq_false (by omega)
    have q5 : ¬ l0.length = 0 := by omega
    clear hL
    go_enter Try.func53, Try.ntmps53
    go_wp2
    go_loopg [3] l0.length (fun kq v3 w' => ∃ j : Nat, v3 = .int .i64 (j : Int) ∧ Aside0 (j ≤ l0.length ∧ l0.length - j ≤ kq ∧ (j = 0 ∨ ringB (rd_T79 l0 ((j - 1 : Nat) : Int)) = true) ∧ chainB l0 = chainB (l0.drop (j - 1))) ∧ Aside0 (Below w.heap.size w w'))
    case atStart => exact ⟨0, rfl, ⟨Nat.zero_le _, by omega, .inl rfl, rfl⟩, HB⟩
    case round =>
      clear HB q1 q2 q3 q5
      obtain ⟨j, rfl, HJ, HB⟩ := hrel
      by_cases hj : j < l0.length
      · have hd : decide ((j : Int) < (l0.length : Int)) = true := decide_eq_true (by omega)
        have hd2 : decide (j < l0.length) = true := decide_eq_true hj
        have HJL := Aside0.mk hj
        have hi0 : (0 : Int) ≤ (j : Int) := by omega
        have hi1 : (j : Int) < (l0.length : Int) := by omega
        obtain ⟨ad, q_, x0_, x1_, x2_⟩ := at_T79 HR0.out (j : Int) hi0 hi1
        subst q_
        simp only [Int.toNat_natCast] at x0_ x1_ x2_
        have X0 := Aside0.mk x0_
        have X1 := Aside0.mk x1_
        have X2 := Aside0.mk x2_
        clear x0_ x1_ x2_
        have EW : Aside0 (wrap64 ((j : Int) + 1) = ((j + 1 : Nat) : Int)) := ⟨by have := HL.out; rw [wrp_ (by omega) (by omega)]; rfl⟩
        clear hj
        cases hr : ringB (rd_T79 l0 (j : Int))
        · have C1 : Aside0 (∀ W, Calls Try.prog 119 #[.agg #[.int .i64 (rd_T79 l0 (j : Int)).f0, .int .i64 (rd_T79 l0 (j : Int)).f1, .int .i64 (rd_T79 l0 (j : Int)).f2]] W fun e w' => e = .returned (.bool false) ∧ Below W.heap.size W w') := ⟨fun W => hr ▸ ref_isRing.calls (rd_T79 l0 (j : Int)) W⟩
          have HX : Aside0 (chainB l0 = false) := ⟨by
            have h := HJ.out
            have hj := HJL.out
            rw [h.2.2.2]
            rcases Nat.eq_zero_or_pos j with h0 | h0
            · subst h0
              by_cases he : 1 = l0.length
              · rw [show 0 - 1 = 0 from rfl, chain_last l0 0 (by omega)]; exact hr
              · rw [show 0 - 1 = 0 from rfl, chain_step l0 0 (by omega), show ringB (rd_T79 l0 ((0 : Nat) : Int)) = false from hr]; rfl
            · rw [test_step l0 j hj h0 (h.2.2.1.resolve_left (by omega)), hr]; rfl⟩
          clear hr
          go_wp2
          replace HB := bd_ HB
          refine sM_ [] (fun w' => w'.cell? (ad.add (j * 3)) = some (.int .i64 (rd_T79 l0 (j : Int)).f0) ∧ w'.cell? ⟨(ad.add (j * 3)).block, (ad.add (j * 3)).off + 1, none⟩ = some (.int .i64 (rd_T79 l0 (j : Int)).f1) ∧ w'.cell? ⟨(ad.add (j * 3)).block, (ad.add (j * 3)).off + 2, none⟩ = some (.int .i64 (rd_T79 l0 (j : Int)).f2)) ref_Check.tab6 ref_Check.bits6 ⟨pw_cell_below HB.out X0.out, pw_cell_below HB.out X1.out, pw_cell_below HB.out X2.out⟩ (fun hHeld HT_ HW_ => ?_)
          generalize wr.drew = w3 at HB hHeld ⊢
          refine pM_ HT_ 0 18 1 ?_
          refine pM_ HT_ 1 19 3 ?_
          refine pM_ HT_ 2 20 7 ?_
          refine tM_ HT_ HW_ hHeld 3 21 15 ?_
          refine oM_ HT_ 4 (some 22) 31 (fun K hK => ?_)
          refine gM_ Try.func119 (C1.out _) ?_
          rintro e w4 ⟨rfl, hb⟩
          refine ⟨.bool _, rfl, ?_⟩
          replace hb := nb_ HB hb
          replace HB := bs_ HB hb
          (try clear hb)
          refine hK.out _ _ ⟨pw_cell_below HB.out X0.out, pw_cell_below HB.out X1.out, pw_cell_below HB.out X2.out⟩ (fun hHeld => ?_)
          clear hK K
          refine nM_ ?_
          refine pM_ HT_ 5 23 63 ?_
          refine pM_ HT_ 6 24 127 ?_
          refine pU_ HT_ 7 (some 25) 255 ?_
          refine pU_ HT_ 8 (some 26) 511 ?_
          refine pU_ HT_ 9 (some 27) 1023 ?_
          refine pU_ HT_ 10 (some 28) 2047 ?_
          refine pU_ HT_ 11 (some 29) 4095 ?_
          refine pU_ HT_ 12 (some 30) 8191 ?_
          refine pU_ HT_ 13 (some 31) 16383 ?_
          refine pU_ HT_ 14 (some 32) 32767 ?_
          refine pU_ HT_ 15 (some 33) 65535 ?_
          refine pU_ HT_ 16 (some 34) 131071 ?_
          refine pU_ HT_ 17 (some 35) 262143 ?_
          refine pU_ HT_ 18 (some 36) 524287 ?_
          refine pU_ HT_ 19 (some 37) 1048575 ?_
          refine pU_ HT_ 20 (some 38) 2097151 ?_
          refine pU_ HT_ 21 (some 39) 4194303 ?_
          refine pU_ HT_ 22 (some 40) 8388607 ?_
          refine pU_ HT_ 23 (some 41) 16777215 ?_
          refine pU_ HT_ 24 (some 42) 33554431 ?_
          refine pU_ HT_ 25 (some 43) 67108863 ?_
          refine pU_ HT_ 26 (some 44) 134217727 ?_
          refine pU_ HT_ 27 (some 45) 268435455 ?_
          refine pU_ HT_ 28 (some 46) 536870911 ?_
          refine pU_ HT_ 29 (some 47) 1073741823 ?_
          refine pU_ HT_ 30 (some 48) 2147483647 ?_
          refine pU_ HT_ 31 (some 49) 4294967295 ?_
          refine pU_ HT_ 32 (some 50) 8589934591 ?_
          refine pU_ HT_ 33 (some 51) 17179869183 ?_
          refine pU_ HT_ 34 (some 52) 34359738367 ?_
          refine pU_ HT_ 35 (some 53) 68719476735 ?_
          refine pM_ HT_ 36 54 137438953471 ?_
          refine dM_ HT_ ?_
          go_wp2
          go_ret
          exact ⟨by rw [HE.out, HX.out]; rfl, HB.out⟩
        · have HRJ := Aside0.mk hr
          have C1 : Aside0 (∀ W, Calls Try.prog 119 #[.agg #[.int .i64 (rd_T79 l0 (j : Int)).f0, .int .i64 (rd_T79 l0 (j : Int)).f1, .int .i64 (rd_T79 l0 (j : Int)).f2]] W fun e w' => e = .returned (.bool true) ∧ Below W.heap.size W w') := ⟨fun W => hr ▸ ref_isRing.calls (rd_T79 l0 (j : Int)) W⟩
          clear hr
          rcases Nat.eq_zero_or_pos j with h0 | h0
          · have h1 : decide (0 < (j : Int)) = false := decide_eq_false (by omega)
            have h2 : decide (0 < j) = false := decide_eq_false (by omega)
            have HX : Aside0 (chainB l0 = chainB (l0.drop (j + 1 - 1))) := ⟨by rw [HJ.out.2.2.2, h0]⟩
            clear h0
            go_wp2
            replace HB := bd_ HB
            refine sM_ [] (fun w' => w'.cell? (ad.add (j * 3)) = some (.int .i64 (rd_T79 l0 (j : Int)).f0) ∧ w'.cell? ⟨(ad.add (j * 3)).block, (ad.add (j * 3)).off + 1, none⟩ = some (.int .i64 (rd_T79 l0 (j : Int)).f1) ∧ w'.cell? ⟨(ad.add (j * 3)).block, (ad.add (j * 3)).off + 2, none⟩ = some (.int .i64 (rd_T79 l0 (j : Int)).f2)) ref_Check.tab6 ref_Check.bits6 ⟨pw_cell_below HB.out X0.out, pw_cell_below HB.out X1.out, pw_cell_below HB.out X2.out⟩ (fun hHeld HT_ HW_ => ?_)
            generalize wr.drew = w3 at HB hHeld ⊢
            refine pM_ HT_ 0 18 1 ?_
            refine pM_ HT_ 1 19 3 ?_
            refine pM_ HT_ 2 20 7 ?_
            refine tM_ HT_ HW_ hHeld 3 21 15 ?_
            refine oM_ HT_ 4 (some 22) 31 (fun K hK => ?_)
            refine gM_ Try.func119 (C1.out _) ?_
            rintro e w4 ⟨rfl, hb⟩
            refine ⟨.bool _, rfl, ?_⟩
            replace hb := nb_ HB hb
            replace HB := bs_ HB hb
            (try clear hb)
            refine hK.out _ _ ⟨pw_cell_below HB.out X0.out, pw_cell_below HB.out X1.out, pw_cell_below HB.out X2.out⟩ (fun hHeld => ?_)
            clear hK K
            refine nM_ ?_
            refine pM_ HT_ 5 23 63 ?_
            refine pM_ HT_ 6 24 127 ?_
            refine pM_ HT_ 7 25 255 ?_
            refine pM_ HT_ 8 26 511 ?_
            refine pM_ HT_ 9 27 1023 ?_
            refine pU_ HT_ 10 (some 28) 2047 ?_
            refine pU_ HT_ 11 (some 29) 4095 ?_
            refine pU_ HT_ 12 (some 30) 8191 ?_
            refine pU_ HT_ 13 (some 31) 16383 ?_
            refine pU_ HT_ 14 (some 32) 32767 ?_
            refine pU_ HT_ 15 (some 33) 65535 ?_
            refine pU_ HT_ 16 (some 34) 131071 ?_
            refine pU_ HT_ 17 (some 35) 262143 ?_
            refine pU_ HT_ 18 (some 36) 524287 ?_
            refine pU_ HT_ 19 (some 37) 1048575 ?_
            refine pU_ HT_ 20 (some 38) 2097151 ?_
            refine pU_ HT_ 21 (some 39) 4194303 ?_
            refine pU_ HT_ 22 (some 40) 8388607 ?_
            refine pU_ HT_ 23 (some 41) 16777215 ?_
            refine pU_ HT_ 24 (some 42) 33554431 ?_
            refine pU_ HT_ 25 (some 43) 67108863 ?_
            refine pU_ HT_ 26 (some 44) 134217727 ?_
            refine pU_ HT_ 27 (some 45) 268435455 ?_
            refine pU_ HT_ 28 (some 46) 536870911 ?_
            refine pU_ HT_ 29 (some 47) 1073741823 ?_
            refine pU_ HT_ 30 (some 48) 2147483647 ?_
            refine pU_ HT_ 31 (some 49) 4294967295 ?_
            refine pU_ HT_ 32 (some 50) 8589934591 ?_
            refine pU_ HT_ 33 (some 51) 17179869183 ?_
            refine pU_ HT_ 34 (some 52) 34359738367 ?_
            refine pM_ HT_ 35 53 68719476735 ?_
            refine pM_ HT_ 36 54 137438953471 ?_
            refine dM_ HT_ ?_
            go_wp2
            go_roundg (gk - 1)
            case measure => have := HJ.out; have := HJL.out; omega
            case rel => exact ⟨j + 1, by rw [EW.out], ⟨by have := HJL.out; omega, by have := HJ.out; omega, .inr HRJ.out, HX.out⟩, HB⟩
          · obtain ⟨q, hq⟩ : ∃ q : Nat, q + 1 = j := ⟨j - 1, by omega⟩
            have h1 : decide (0 < (j : Int)) = true := decide_eq_true (by omega)
            have h2 : decide (0 < j) = true := decide_eq_true h0
            have hqj : wrap64 ((j : Int) - 1) = (q : Int) := by have := HL.out; have := HJL.out; rw [wrp_ (by omega) (by omega)]; omega
            have hql : q < l0.length := by have := HJL.out; omega
            have HQ : Aside0 (q + 1 = j) := ⟨hq⟩
            have HQR : Aside0 (ringB (rd_T79 l0 (q : Int)) = true) := ⟨by have h := HJ.out.2.2.1.resolve_left (by omega); rwa [show j - 1 = q by omega] at h⟩
            have gi0 : (0 : Int) ≤ (q : Int) := by omega
            have gi1 : (q : Int) < (l0.length : Int) := by omega
            obtain ⟨ad2, q_, x0_, x1_, x2_⟩ := at_T79 HR0.out (q : Int) gi0 gi1
            obtain rfl : ad = ad2 := Option.some.inj q_
            simp only [Int.toNat_natCast] at x0_ x1_ x2_
            have Y1 := Aside0.mk x1_
            have Y2 := Aside0.mk x2_
            clear x0_ x1_ x2_ q_ hq h0
            have HM : Aside0 (wrap64 ((rd_T79 l0 (j : Int)).f1 * (rd_T79 l0 (q : Int)).f2) = (rd_T79 l0 (j : Int)).f1 * (rd_T79 l0 (q : Int)).f2 ∧ wrap64 ((rd_T79 l0 (q : Int)).f1 * (rd_T79 l0 (j : Int)).f2) = (rd_T79 l0 (q : Int)).f1 * (rd_T79 l0 (j : Int)).f2) := ⟨by
              have r1 := ringB_iff.1 HRJ.out
              have r2 := ringB_iff.1 HQR.out
              have m1 := mul_b r1.2.2.1 r1.2.2.2.1 r2.2.2.2.2.1 r2.2.2.2.2.2
              have m2 := mul_b r2.2.2.1 r2.2.2.2.1 r1.2.2.2.2.1 r1.2.2.2.2.2
              exact ⟨wrp_ (by omega) (by omega), wrp_ (by omega) (by omega)⟩⟩
            have HTS : Aside0 (chainB (l0.drop (j - 1)) = (decide ((rd_T79 l0 (q : Int)).f1 * (rd_T79 l0 (j : Int)).f2 ≤ (rd_T79 l0 (j : Int)).f1 * (rd_T79 l0 (q : Int)).f2) && chainB (l0.drop j))) := ⟨by
              have h := test_step l0 j HJL.out (by have := HQ.out; omega) (by rw [show j - 1 = q by have := HQ.out; omega]; exact HQR.out)
              rw [HRJ.out, Bool.true_and, show j - 1 = q by have := HQ.out; omega] at h
              rw [show j - 1 = q by have := HQ.out; omega]; exact h⟩
            by_cases hc : (rd_T79 l0 (j : Int)).f1 * (rd_T79 l0 (q : Int)).f2 < (rd_T79 l0 (q : Int)).f1 * (rd_T79 l0 (j : Int)).f2
            · have hcd : decide (wrap64 ((rd_T79 l0 (j : Int)).f1 * (rd_T79 l0 (q : Int)).f2) < wrap64 ((rd_T79 l0 (q : Int)).f1 * (rd_T79 l0 (j : Int)).f2)) = true := by rw [HM.out.1, HM.out.2]; exact decide_eq_true hc
              have HX : Aside0 (chainB l0 = false) := ⟨by rw [HJ.out.2.2.2, HTS.out, decide_eq_false (by omega)]; rfl⟩
              clear hc
              go_wp2
              replace HB := bd_ HB
              refine sM_ [] (fun w' => w'.cell? (ad.add (j * 3)) = some (.int .i64 (rd_T79 l0 (j : Int)).f0) ∧ w'.cell? ⟨(ad.add (j * 3)).block, (ad.add (j * 3)).off + 1, none⟩ = some (.int .i64 (rd_T79 l0 (j : Int)).f1) ∧ w'.cell? ⟨(ad.add (j * 3)).block, (ad.add (j * 3)).off + 2, none⟩ = some (.int .i64 (rd_T79 l0 (j : Int)).f2) ∧ w'.cell? ⟨(ad.add (q * 3)).block, (ad.add (q * 3)).off + 1, none⟩ = some (.int .i64 (rd_T79 l0 (q : Int)).f1) ∧ w'.cell? ⟨(ad.add (q * 3)).block, (ad.add (q * 3)).off + 2, none⟩ = some (.int .i64 (rd_T79 l0 (q : Int)).f2)) ref_Check.tab6 ref_Check.bits6 ⟨pw_cell_below HB.out X0.out, pw_cell_below HB.out X1.out, pw_cell_below HB.out X2.out, pw_cell_below HB.out Y1.out, pw_cell_below HB.out Y2.out⟩ (fun hHeld HT_ HW_ => ?_)
              generalize wr.drew = w3 at HB hHeld ⊢
              refine pM_ HT_ 0 18 1 ?_
              refine pM_ HT_ 1 19 3 ?_
              refine pM_ HT_ 2 20 7 ?_
              refine tM_ HT_ HW_ hHeld 3 21 15 ?_
              refine oM_ HT_ 4 (some 22) 31 (fun K hK => ?_)
              refine gM_ Try.func119 (C1.out _) ?_
              rintro e w4 ⟨rfl, hb⟩
              refine ⟨.bool _, rfl, ?_⟩
              replace hb := nb_ HB hb
              replace HB := bs_ HB hb
              (try clear hb)
              refine hK.out _ _ ⟨pw_cell_below HB.out X0.out, pw_cell_below HB.out X1.out, pw_cell_below HB.out X2.out, pw_cell_below HB.out Y1.out, pw_cell_below HB.out Y2.out⟩ (fun hHeld => ?_)
              clear hK K
              refine nM_ ?_
              refine pM_ HT_ 5 23 63 ?_
              refine pM_ HT_ 6 24 127 ?_
              refine pM_ HT_ 7 25 255 ?_
              refine pM_ HT_ 8 26 511 ?_
              refine pM_ HT_ 9 27 1023 ?_
              refine pM_ HT_ 10 28 2047 ?_
              refine pM_ HT_ 11 29 4095 ?_
              refine pM_ HT_ 12 30 8191 ?_
              refine pM_ HT_ 13 31 16383 ?_
              refine pM_ HT_ 15 33 49151 ?_
              refine pM_ HT_ 16 34 114687 ?_
              refine pM_ HT_ 17 35 245759 ?_
              refine pM_ HT_ 18 36 507903 ?_
              refine pM_ HT_ 19 37 1032191 ?_
              refine pM_ HT_ 22 40 5226495 ?_
              refine pM_ HT_ 23 41 13615103 ?_
              refine pM_ HT_ 24 42 30392319 ?_
              refine pM_ HT_ 25 43 63946751 ?_
              refine pM_ HT_ 26 44 131055615 ?_
              refine pM_ HT_ 28 46 399491071 ?_
              refine pM_ HT_ 29 47 936361983 ?_
              refine pM_ HT_ 30 48 2010103807 ?_
              refine pM_ HT_ 31 49 4157587455 ?_
              refine tM_ HT_ HW_ hHeld 14 32 4157603839 ?_
              refine tM_ HT_ HW_ hHeld 20 38 4158652415 ?_
              refine pM_ HT_ 21 39 4160749567 ?_
              refine tM_ HT_ HW_ hHeld 27 45 4294967295 ?_
              refine tM_ HT_ HW_ hHeld 32 50 8589934591 ?_
              refine pM_ HT_ 33 51 17179869183 ?_
              refine pM_ HT_ 34 52 34359738367 ?_
              refine pM_ HT_ 35 53 68719476735 ?_
              refine pM_ HT_ 36 54 137438953471 ?_
              refine dM_ HT_ ?_
              go_wp2
              go_ret
              exact ⟨by rw [HE.out, HX.out]; rfl, HB.out⟩
            · have hcd : decide (wrap64 ((rd_T79 l0 (j : Int)).f1 * (rd_T79 l0 (q : Int)).f2) < wrap64 ((rd_T79 l0 (q : Int)).f1 * (rd_T79 l0 (j : Int)).f2)) = false := by rw [HM.out.1, HM.out.2]; exact decide_eq_false hc
              have HX : Aside0 (chainB l0 = chainB (l0.drop (j + 1 - 1))) := ⟨by rw [HJ.out.2.2.2, HTS.out, decide_eq_true (by omega)]; rfl⟩
              clear hc
              go_wp2
              replace HB := bd_ HB
              refine sM_ [] (fun w' => w'.cell? (ad.add (j * 3)) = some (.int .i64 (rd_T79 l0 (j : Int)).f0) ∧ w'.cell? ⟨(ad.add (j * 3)).block, (ad.add (j * 3)).off + 1, none⟩ = some (.int .i64 (rd_T79 l0 (j : Int)).f1) ∧ w'.cell? ⟨(ad.add (j * 3)).block, (ad.add (j * 3)).off + 2, none⟩ = some (.int .i64 (rd_T79 l0 (j : Int)).f2) ∧ w'.cell? ⟨(ad.add (q * 3)).block, (ad.add (q * 3)).off + 1, none⟩ = some (.int .i64 (rd_T79 l0 (q : Int)).f1) ∧ w'.cell? ⟨(ad.add (q * 3)).block, (ad.add (q * 3)).off + 2, none⟩ = some (.int .i64 (rd_T79 l0 (q : Int)).f2)) ref_Check.tab6 ref_Check.bits6 ⟨pw_cell_below HB.out X0.out, pw_cell_below HB.out X1.out, pw_cell_below HB.out X2.out, pw_cell_below HB.out Y1.out, pw_cell_below HB.out Y2.out⟩ (fun hHeld HT_ HW_ => ?_)
              generalize wr.drew = w3 at HB hHeld ⊢
              refine pM_ HT_ 0 18 1 ?_
              refine pM_ HT_ 1 19 3 ?_
              refine pM_ HT_ 2 20 7 ?_
              refine tM_ HT_ HW_ hHeld 3 21 15 ?_
              refine oM_ HT_ 4 (some 22) 31 (fun K hK => ?_)
              refine gM_ Try.func119 (C1.out _) ?_
              rintro e w4 ⟨rfl, hb⟩
              refine ⟨.bool _, rfl, ?_⟩
              replace hb := nb_ HB hb
              replace HB := bs_ HB hb
              (try clear hb)
              refine hK.out _ _ ⟨pw_cell_below HB.out X0.out, pw_cell_below HB.out X1.out, pw_cell_below HB.out X2.out, pw_cell_below HB.out Y1.out, pw_cell_below HB.out Y2.out⟩ (fun hHeld => ?_)
              clear hK K
              refine nM_ ?_
              refine pM_ HT_ 5 23 63 ?_
              refine pM_ HT_ 6 24 127 ?_
              refine pM_ HT_ 7 25 255 ?_
              refine pM_ HT_ 8 26 511 ?_
              refine pM_ HT_ 9 27 1023 ?_
              refine pM_ HT_ 10 28 2047 ?_
              refine pM_ HT_ 11 29 4095 ?_
              refine pM_ HT_ 12 30 8191 ?_
              refine pM_ HT_ 13 31 16383 ?_
              refine pM_ HT_ 15 33 49151 ?_
              refine pM_ HT_ 16 34 114687 ?_
              refine pM_ HT_ 17 35 245759 ?_
              refine pM_ HT_ 18 36 507903 ?_
              refine pM_ HT_ 19 37 1032191 ?_
              refine pM_ HT_ 22 40 5226495 ?_
              refine pM_ HT_ 23 41 13615103 ?_
              refine pM_ HT_ 24 42 30392319 ?_
              refine pM_ HT_ 25 43 63946751 ?_
              refine pM_ HT_ 26 44 131055615 ?_
              refine pM_ HT_ 28 46 399491071 ?_
              refine pM_ HT_ 29 47 936361983 ?_
              refine pM_ HT_ 30 48 2010103807 ?_
              refine pM_ HT_ 31 49 4157587455 ?_
              refine tM_ HT_ HW_ hHeld 14 32 4157603839 ?_
              refine tM_ HT_ HW_ hHeld 20 38 4158652415 ?_
              refine pM_ HT_ 21 39 4160749567 ?_
              refine tM_ HT_ HW_ hHeld 27 45 4294967295 ?_
              refine tM_ HT_ HW_ hHeld 32 50 8589934591 ?_
              refine pM_ HT_ 33 51 17179869183 ?_
              refine pM_ HT_ 34 52 34359738367 ?_
              refine pM_ HT_ 35 53 68719476735 ?_
              refine pM_ HT_ 36 54 137438953471 ?_
              refine dM_ HT_ ?_
              go_wp2
              go_roundg (gk - 1)
              case measure => have := HJ.out; have := HJL.out; omega
              case rel => exact ⟨j + 1, by rw [EW.out], ⟨by have := HJL.out; omega, by have := HJ.out; omega, .inr HRJ.out, HX.out⟩, HB⟩
      · have hd : decide ((j : Int) < (l0.length : Int)) = false := decide_eq_false (by omega)
        have hd2 : decide (j < l0.length) = false := decide_eq_false hj
        have HX : Aside0 (chainB l0 = true) := ⟨by have h := HJ.out; have := HL.out; rw [h.2.2.2, chain_last l0 (j - 1) (by omega)]; exact h.2.2.1.resolve_left (by omega)⟩
        clear hj
        go_wp2
        go_ret
        exact ⟨by rw [HE.out, HX.out]; rfl, HB.out⟩
  · have HE : Aside0 (checkF l0 = 20) := ⟨by unfold checkF validB; rw [decide_eq_false hL]; rfl⟩
    have hc : l0.length = 0 ∨ 0 < l0.length ∧ 24 < l0.length := by omega
    clear hL
    rcases hc with hc | ⟨hc1, hc2⟩
    · rw [HE.out]
      clear HE
      rw [hc]
      clear hc HR0
      go_enter Try.func53, Try.ntmps53
      go_wp2
      go_ret
      exact ⟨rfl, HB.out⟩
    · have q1 : decide ((l0.length : Int) < 1) = false := decide_eq_false (by omega)
      have q2 : decide (24 < (l0.length : Int)) = true := decide_eq_true (by omega)
      have q3 : decide (24 < l0.length) = true := decide_eq_true hc2
      have q4 : decide (l0.length = 0) = false := decide_eq_false (by omega)
      have q5 : ¬ l0.length = 0 := by omega
      rw [HE.out]
      clear HE hc1
      go_enter Try.func53, Try.ntmps53
      go_wp2
      go_ret
      exact ⟨rfl, HB.out⟩
end Go.Proofs.Ytlhfclpbodfmcaa.Pr
namespace Go.Proofs.Ytlhfclpbodfmcaa.Pr
open Go.RowKit Go.Proofs.YtlhfclpbodfmcaaW.PrintWords Go.Proofs.YtlhfclpbodfmcaaW.PrintLast Go.Proofs.YtlhfclpbodfmcaaW.PrintMore
open Go.Proofs.Ytlhfclpbodfmcaa.Vm
set_option linter.unusedVariables false
set_option linter.unusedSimpArgs false
attribute [local go_sem] fld79_0 fld79_1 fld79_2
/-- A place, and how far it lies. -/
def PlaceP (w : World) (xs : List Int) (x : Rat) (M : Int) (e : Ending) (w' : World) : Prop := ∃ p : Pl, e = .returned (.agg #[.int .i64 (p.r : Int), .int .i64 p.n, .int .i64 p.d]) ∧ p.ok xs.length ∧ pv xs p = x ∧ p.d ≤ M ∧ Below w.heap.size w w'
/-- A ring in which a number lies, in lowest terms. -/
theorem low_place {xs : List Int} {B : Int} (h : GoodR xs B) {j : Nat} (hj : j < xs.length) {n d : Int} (hd : 1 ≤ d) (h0 : 0 ≤ n - sm (xs.take j) * d) (h1 : n - sm (xs.take j) * d ≤ gt xs j * d) :
    Pl.ok ⟨j, (n - sm (xs.take j) * d) / (Int.gcd (n - sm (xs.take j) * d) (gt xs j * d) : Int), gt xs j * d / (Int.gcd (n - sm (xs.take j) * d) (gt xs j * d) : Int)⟩ xs.length ∧
    pv xs ⟨j, (n - sm (xs.take j) * d) / (Int.gcd (n - sm (xs.take j) * d) (gt xs j * d) : Int), gt xs j * d / (Int.gcd (n - sm (xs.take j) * d) (gt xs j * d) : Int)⟩ = (n : Rat) / (d : Rat) ∧ gt xs j * d / (Int.gcd (n - sm (xs.take j) * d) (gt xs j * d) : Int) ≤ gt xs j * d := by
  have g1 := h.pos.gt hj
  have D1 : 1 ≤ gt xs j * d := by have := Int.mul_le_mul g1 hd (by omega) (by omega); omega
  have hg := gcd_pos' (a := n - sm (xs.take j) * d) D1
  obtain ⟨u, hu⟩ := Int.gcd_dvd_left (a := n - sm (xs.take j) * d) (b := gt xs j * d)
  obtain ⟨t, ht⟩ := Int.gcd_dvd_right (a := n - sm (xs.take j) * d) (b := gt xs j * d)
  have hn : (n : Rat) = (sm (xs.take j) : Rat) * (d : Rat) + ((n - sm (xs.take j) * d : Int) : Rat) := by rw [Rat.intCast_sub, Rat.intCast_mul]; grind
  have hD : ((gt xs j * d : Int) : Rat) = (gt xs j : Rat) * (d : Rat) := Rat.intCast_mul _ _
  generalize hG : (Int.gcd (n - sm (xs.take j) * d) (gt xs j * d) : Int) = g at *
  generalize hN : n - sm (xs.take j) * d = N at *
  generalize hDD : gt xs j * d = D at *
  have e1 : N / g = u := by rw [hu]; exact Int.mul_ediv_cancel_left u (by omega)
  have e2 : D / g = t := by
    have : g * t / g = t := Int.mul_ediv_cancel_left t (by omega)
    rwa [← ht] at this
  have t1 : 1 ≤ t := by
    apply Classical.byContradiction; intro hn
    have := Int.mul_le_mul_of_nonneg_left (show t ≤ 0 by omega) (show 0 ≤ g by omega)
    omega
  have u0 : 0 ≤ u := by
    apply Classical.byContradiction; intro hn
    have := Int.mul_le_mul_of_nonneg_left (show u ≤ -1 by omega) (show 0 ≤ g by omega)
    omega
  have ut : u ≤ t := by
    apply Classical.byContradiction; intro hn
    have := Int.mul_le_mul_of_nonneg_left (show t + 1 ≤ u by omega) (show 0 ≤ g by omega)
    rw [Int.mul_add] at this
    omega
  rw [e1, e2]
  refine ⟨⟨hj, u0, ut, t1⟩, ?_, ?_⟩
  · show (sm (xs.take j) : Rat) + (u : Rat) / (t : Rat) * (gt xs j : Rat) = (n : Rat) / (d : Rat)
    have gr := one_le hg
    have tr := one_le t1
    have dr := one_le hd
    have gj := one_le g1
    have a1 : (N : Rat) = (g : Rat) * (u : Rat) := by rw [← Rat.intCast_mul, ← hu]
    have a2 : (gt xs j : Rat) * (d : Rat) = (g : Rat) * (t : Rat) := by
      have e : gt xs j * d = g * t := by rw [hDD]; exact ht
      rw [← Rat.intCast_mul, ← Rat.intCast_mul, e]
    rw [hn, a1]
    have a3 : (u : Rat) / (t : Rat) * (gt xs j : Rat) = (g : Rat) * (u : Rat) / (d : Rat) := by grind
    rw [a3]
    grind
  · have := Int.mul_le_mul_of_nonneg_right hg (show 0 ≤ t by omega)
    omega
def ref_AtTime.T5 : Bool × List (List Nat × List Nat) := (true, [([], []), ([], []), ([1], [1]), ([], []), ([], []), ([3, 4], [3, 4]), ([5], [5]), ([6], [6]), ([2, 7], [2, 7]), ([], []), ([8, 9], [8, 9]), ([0, 10], [0, 10])])
def ref_AtTime.B5 : List Nat := [0, 0, 2, 0, 0, 24, 56, 120, 254, 0, 1022, 2047]
theorem ref_AtTime.tab5 : rtab .any (opsOf Try.f92 5) = ref_AtTime.T5 := by kernel_rfl
theorem ref_AtTime.bits5 : waitsOk ref_AtTime.T5.2 ref_AtTime.B5 = true := by kernel_rfl
def ref_AtTime.T6 : Bool × List (List Nat × List Nat) := (true, [([], []), ([], []), ([], []), ([2], [2]), ([], []), ([3, 4], [3, 4]), ([1, 5], [1, 5]), ([], []), ([], []), ([7, 8], [7, 8]), ([9], [9]), ([10], [10]), ([], []), ([11, 12], [11, 12]), ([0, 6, 13], [0, 6, 13]), ([14, 14, 0, 1, 2, 3, 4, 5, 6, 7, 8, 9, 10, 11, 12, 13, 14], [14])])
def ref_AtTime.B6 : List Nat := [0, 0, 0, 4, 0, 28, 62, 0, 0, 384, 896, 1920, 0, 8064, 16383, 32767]
theorem ref_AtTime.tab6 : rtab .any (opsOf Try.f92 6) = ref_AtTime.T6 := by kernel_rfl
theorem ref_AtTime.bits6 : waitsOk ref_AtTime.T6.2 ref_AtTime.B6 = true := by kernel_rfl
set_option maxHeartbeats 1600000 in
set_option maxRecDepth 100000 in
theorem ref_AtTime.calls (A0 : Option Addr) (c0 : Nat) (l0 : List S79) (n d : Int) (w : World) (hr0 : Kd.C k79 w A0 l0.length l0) (hG : GV (hsO l0) (vsO l0) (dsO l0)) (n0 : 0 ≤ n) (d0 : 1 ≤ d) (d1 : d ≤ 1000000000) (n1 : n ≤ sm (dsO l0) * d) :
    Calls Try.prog 92 #[.slice A0 l0.length c0, .int .i64 n, .int .i64 d] w (PlaceP w (dsO l0) ((n : Rat) / (((d : Int)) : Rat)) (20000 * d)) := by
  have hu96 := Try.underlying96
  have hu79 := Try.underlying79
  have HR0 := Aside0.mk hr0
  have HG := Aside0.mk hG
  clear hr0 hG
  have HB := Aside0.mk (Below.refl w.heap.size w)
  have HN := Aside0.mk n0
  have HN1 := Aside0.mk n1
  have HD := Aside0.mk (And.intro d0 d1)
  have hln : l0.length ≤ 24 := by have := HG.out.h.ln; simpa using this
  have HL := Aside0.mk hln
  clear n0 n1 d0 d1 hln
  go_enter Try.func92, Try.ntmps92
  go_wp2_with (first | ((with_reducible refine gate_dst (N := 6) rfl ?_); refine bx_ 6 #[.int .i64 0, .int .i64 0, .int .i64 0] 96 ?_; intro gr hg w1 hbox hb; have GEgr := ge_ hg HB; replace hb := nb_ HB hb; replace HB := bs_ HB hb; have BKgr := Aside0.mk hbox; clear hb hbox hg))
  go_loopg [7] l0.length (fun kq v7 w' => ∃ j : Nat, v7 = .int .i64 (j : Int) ∧ Aside0 (j ≤ l0.length ∧ l0.length - j ≤ kq ∧ (j = 0 ∨ sm ((dsO l0).take j) * d < n)) ∧ Aside0 (w'.heap[gr]? = some (.cells #[.int .i64 0, .int .i64 0, .int .i64 0] 96 (0, 0))) ∧ Aside0 (Below w.heap.size w w'))
  case atStart => exact ⟨0, rfl, ⟨Nat.zero_le _, by omega, .inl rfl⟩, BKgr, HB⟩
  case round =>
    clear BKgr HB
    obtain ⟨j, rfl, HJ, BKgr, HB⟩ := hrel
    have hjl : j < l0.length := by
      have hq := HJ.out
      apply Classical.byContradiction; intro hn
      rcases hq.2.2 with h | h
      · have := HG.out.h.ne; rw [List.length_map] at this; omega
      · rw [List.take_of_length_le (by simp; omega)] at h; have := HN1.out; omega
    have hd : decide ((j : Int) < (l0.length : Int)) = true := decide_eq_true (by omega)
    have hd2 : decide (j < l0.length) = true := decide_eq_true hjl
    have hi0 : (0 : Int) ≤ (j : Int) := by omega
    have hi1 : (j : Int) < (l0.length : Int) := by omega
    obtain ⟨ad, q_, x0_, x1_, x2_⟩ := at_T79 HR0.out (j : Int) hi0 hi1
    subst q_
    simp only [Int.toNat_natCast] at x0_ x1_ x2_
    have X2 := Aside0.mk x2_
    clear x0_ x1_ x2_
    have HF : Aside0 (gt (dsO l0) j = (rd_T79 l0 (j : Int)).f2) := ⟨(rd79_gt l0 j hjl).2.2⟩
    have HT : Aside0 (sm ((dsO l0).take (j + 1)) = sm ((dsO l0).take j) + gt (dsO l0) j) := ⟨sm_take_succ _ _ (by simpa using hjl)⟩
    have HGT := Aside0.mk (HG.out.d.gt (r := j) (by simpa using hjl))
    have HB1 := Aside0.mk (take_b HG.out.d.pos j)
    have HB2 := Aside0.mk (take_b HG.out.d.pos (j + 1))
    have HJL := Aside0.mk hjl
    have C1 : Aside0 (∀ W, Below w.heap.size w W → Calls Try.prog 91 #[.slice (some ad) l0.length c0, .int .i64 (j : Int)] W fun e w' => e = .returned (.agg #[.int .i64 (sm ((hsO l0).take j)), .int .i64 (sm ((vsO l0).take j)), .int .i64 (sm ((dsO l0).take j))]) ∧ Below W.heap.size W w') := ⟨fun W hB => ref_Sums.calls (some ad) c0 l0 j W (Kd.C_below HR0.out hB) HG.out (Nat.le_of_lt HJL.out)⟩
    go_wp2_with fail
    refine (C1.out _ HB.out).mono ?_
    rintro e w3 ⟨rfl, hb⟩
    replace hb := nb_ HB hb
    replace BKgr := kb_ BKgr hb
    replace HB := bs_ HB hb
    clear hb C1
    go_upto_region 5 with (fail)
    have BKgs := Aside0.mk (blk_new w3 (.cells #[.int .i64 (sm ((hsO l0).take j)), .int .i64 (sm ((vsO l0).take j)), .int .i64 (sm ((dsO l0).take j))] 79 (0, 0)))
    have hb := below_alloc (Below.refl _ w3) (.cells #[.int .i64 (sm ((hsO l0).take j)), .int .i64 (sm ((vsO l0).take j)), .int .i64 (sm ((dsO l0).take j))] 79 (0, 0))
    replace BKgr := kb_ BKgr hb
    have GEgs : Aside0 (w.heap.size ≤ w3.heap.size) := ge_ rfl HB
    replace HB := bs_ HB hb
    clear hb
    generalize w3.alloc (.cells #[.int .i64 (sm ((hsO l0).take j)), .int .i64 (sm ((vsO l0).take j)), .int .i64 (sm ((dsO l0).take j))] 79 (0, 0)) = w4 at BKgs BKgr HB ⊢
    generalize w3.heap.size = gs at BKgs GEgs ⊢
    have HS : Aside0 (wrap64 (wrap64 (sm ((dsO l0).take j) + (rd_T79 l0 (j : Int)).f2) * d) = (sm ((dsO l0).take j) + gt (dsO l0) j) * d) := ⟨by
      have hS := HG.out.sums
      have b2 := HB2.out
      have dd := HD.out
      rw [HT.out] at b2
      have m0 := Int.mul_nonneg b2.1 (show 0 ≤ d by omega)
      have m1 := Int.mul_le_mul (show sm ((dsO l0).take j) + gt (dsO l0) j ≤ 2400000 by omega) dd.2 (by omega) (by omega)
      rw [← HF.out, wrp_ (n := sm ((dsO l0).take j) + gt (dsO l0) j) (by omega) (by omega), wrp_ (by omega) (by omega)]⟩
    by_cases hc : n ≤ (sm ((dsO l0).take j) + gt (dsO l0) j) * d
    · have hcw : decide (n ≤ wrap64 (wrap64 (sm ((dsO l0).take j) + (rd_T79 l0 (j : Int)).f2) * d)) = true := by rw [HS.out]; exact decide_eq_true hc
      have HX : Aside0 (wrap64 (n - wrap64 (sm ((dsO l0).take j) * d)) = n - sm ((dsO l0).take j) * d ∧ wrap64 ((rd_T79 l0 (j : Int)).f2 * d) = gt (dsO l0) j * d ∧ 0 ≤ n - sm ((dsO l0).take j) * d ∧ n - sm ((dsO l0).take j) * d ≤ gt (dsO l0) j * d ∧ 1 ≤ gt (dsO l0) j * d ∧ gt (dsO l0) j * d ≤ 20000 * d) := ⟨by
        have dd := HD.out
        have hS := HG.out.sums
        have b1 := HB1.out
        have g1 := HGT.out
        have m0 := Int.mul_nonneg b1.1 (show 0 ≤ d by omega)
        have m1 := Int.mul_le_mul (show sm ((dsO l0).take j) ≤ 2400000 by omega) dd.2 (by omega) (by omega)
        have m2 := Int.mul_le_mul g1.1 dd.1 (by omega) (by omega)
        have m3 := Int.mul_le_mul_of_nonneg_right g1.2 (show 0 ≤ d by omega)
        have hj := HJ.out.2.2
        have n0 := HN.out
        rw [Int.add_mul] at hc
        have h0 : 0 ≤ n - sm ((dsO l0).take j) * d := by
          rcases hj with h | h
          · subst h; simp [sm]; omega
          · omega
        have m4 := Int.mul_le_mul (show gt (dsO l0) j ≤ 100000 by omega) dd.2 (by omega) (by omega)
        rw [← HF.out]
        refine ⟨?_, ?_, h0, by omega, by omega, by omega⟩
        · rw [wrp_ (n := sm ((dsO l0).take j) * d) (by omega) (by omega), wrp_ (by omega) (by omega)]
        · rw [wrp_ (by omega) (by omega)]⟩
      have C2 : Aside0 (∀ W, Calls Try.prog 131 #[.int .i64 (j : Int), .int .i64 (wrap64 (n - wrap64 (sm ((dsO l0).take j) * d))), .int .i64 (wrap64 ((rd_T79 l0 (j : Int)).f2 * d))] W fun e w' => e = .returned (.agg #[.int .i64 (j : Int), .int .i64 (wrap64 (n - wrap64 (sm ((dsO l0).take j) * d)) / (Int.gcd (wrap64 (n - wrap64 (sm ((dsO l0).take j) * d))) (wrap64 ((rd_T79 l0 (j : Int)).f2 * d)) : Int)), .int .i64 (wrap64 ((rd_T79 l0 (j : Int)).f2 * d) / (Int.gcd (wrap64 (n - wrap64 (sm ((dsO l0).take j) * d))) (wrap64 ((rd_T79 l0 (j : Int)).f2 * d)) : Int))]) ∧ Below W.heap.size W w') := ⟨fun W => by
        have hx := HX.out
        have dd := HD.out
        rw [hx.1, hx.2.1]
        exact ref_lowest.calls _ _ _ W hx.2.2.1 (by omega) hx.2.2.2.2.1 (by omega)⟩
      clear hc
      replace BKgr := kd_ BKgr
      replace BKgs := kd_ BKgs
      replace HB := bd_ HB
      refine sM_ [] (fun w' => (w'.cell? ⟨gs, 0, none⟩ = some (.int .i64 (sm ((hsO l0).take j))) ∧ w'.cell? ⟨gs, 1, none⟩ = some (.int .i64 (sm ((vsO l0).take j))) ∧ w'.cell? ⟨gs, 2, none⟩ = some (.int .i64 (sm ((dsO l0).take j)))) ∧ w'.cell? ⟨(ad.add (j * 3)).block, (ad.add (j * 3)).off + 2, none⟩ = some (.int .i64 (rd_T79 l0 (j : Int)).f2)) ref_AtTime.tab5 ref_AtTime.bits5 ⟨c3_ BKgs, pw_cell_below HB.out X2.out⟩ (fun hHeld HT_ HW_ => ?_)
      generalize w4.drew = w5 at BKgr BKgs HB hHeld ⊢
      refine pM_ HT_ 0 18 1 ?_
      refine pM_ HT_ 1 19 3 ?_
      refine pM_ HT_ 3 21 11 ?_
      refine pM_ HT_ 4 22 27 ?_
      refine pM_ HT_ 5 23 59 ?_
      refine pM_ HT_ 6 24 123 ?_
      refine pM_ HT_ 9 27 635 ?_
      refine tM_ HT_ HW_ hHeld 2 20 639 ?_
      refine tM_ HT_ HW_ hHeld 7 25 767 ?_
      refine pM_ HT_ 8 26 1023 ?_
      refine pM_ HT_ 10 28 2047 ?_
      refine pM_ HT_ 11 29 4095 ?_
      refine dM_ HT_ ?_
      go_wp2
      replace BKgr := kd_ BKgr
      replace BKgs := kd_ BKgs
      replace HB := bd_ HB
      refine sM_ [15] (fun w' => (w'.cell? ⟨gs, 0, none⟩ = some (.int .i64 (sm ((hsO l0).take j))) ∧ w'.cell? ⟨gs, 1, none⟩ = some (.int .i64 (sm ((vsO l0).take j))) ∧ w'.cell? ⟨gs, 2, none⟩ = some (.int .i64 (sm ((dsO l0).take j)))) ∧ w'.cell? ⟨(ad.add (j * 3)).block, (ad.add (j * 3)).off + 2, none⟩ = some (.int .i64 (rd_T79 l0 (j : Int)).f2)) ref_AtTime.tab6 ref_AtTime.bits6 ⟨c3_ BKgs, pw_cell_below HB.out X2.out⟩ (fun hHeld HT_ HW_ => ?_)
      generalize w5.drew = w6 at BKgr BKgs HB hHeld ⊢
      refine pM_ HT_ 0 30 1 ?_
      refine pM_ HT_ 1 31 3 ?_
      refine pM_ HT_ 2 32 7 ?_
      refine pM_ HT_ 4 34 23 ?_
      refine pM_ HT_ 7 37 151 ?_
      refine pM_ HT_ 8 38 407 ?_
      refine pM_ HT_ 9 39 919 ?_
      refine pM_ HT_ 10 40 1943 ?_
      refine pM_ HT_ 12 42 6039 ?_
      refine tM_ HT_ HW_ hHeld 3 33 6047 ?_
      refine pM_ HT_ 5 35 6079 ?_
      refine pM_ HT_ 6 36 6143 ?_
      refine tM_ HT_ HW_ hHeld 11 41 8191 ?_
      refine pM_ HT_ 13 43 16383 ?_
      refine oM_ HT_ 14 (some 44) 32767 (fun K hK => ?_)
      refine gM_ Try.func131 (C2.out _) ?_
      rintro e w7 ⟨rfl, hb⟩
      refine ⟨.agg #[.int .i64 (j : Int), .int .i64 (wrap64 (n - wrap64 (sm ((dsO l0).take j) * d)) / (Int.gcd (wrap64 (n - wrap64 (sm ((dsO l0).take j) * d))) (wrap64 ((rd_T79 l0 (j : Int)).f2 * d)) : Int)), .int .i64 (wrap64 ((rd_T79 l0 (j : Int)).f2 * d) / (Int.gcd (wrap64 (n - wrap64 (sm ((dsO l0).take j) * d))) (wrap64 ((rd_T79 l0 (j : Int)).f2 * d)) : Int))], rfl, ?_⟩
      replace hb := nb_ HB hb
      replace BKgr := kb_ BKgr hb
      replace BKgs := kb_ BKgs hb
      replace HB := bs_ HB hb
      (try clear hb)
      refine hK.out _ _ ⟨c3_ BKgs, pw_cell_below HB.out X2.out⟩ (fun hHeld => ?_)
      clear hK K
      refine nM_ ?_
      refine lM_ HT_ 15 none 65535 (fun K hK => ?_)
      have hc_ := cf3_ BKgr
      refine sk3_ ?_
      intro ws_ hp_
      clear hc_
      refine hK.out _ _ ?_
      clear hK K
      refine dM_ HT_ ?_
      try go_wp2
      refine bodyPost_ret (results_cell_row rfl _ _ gr 96 #[.int .i64 (j : Int), .int .i64 ((wrap64 (n - wrap64 (sm ((dsO l0).take j) * d)) / (Int.gcd (wrap64 (n - wrap64 (sm ((dsO l0).take j) * d))) (wrap64 ((rd_T79 l0 (j : Int)).f2 * d)) : Int))), .int .i64 ((wrap64 ((rd_T79 l0 (j : Int)).f2 * d) / (Int.gcd (wrap64 (n - wrap64 (sm ((dsO l0).take j) * d))) (wrap64 ((rd_T79 l0 (j : Int)).f2 * d)) : Int)))] (0, 0) _ rfl (pp3_ BKgr hp_).out Try.underlying96 rfl (by kernel_rfl)) rfl ?_
      have hx := HX.out
      have lp := low_place HG.out.d (j := j) (by simpa using HJL.out) (n := n) (d := d) HD.out.1 hx.2.2.1 hx.2.2.2.1
      rw [hx.1, hx.2.1]
      exact ⟨⟨j, _, _⟩, rfl, lp.1, lp.2.1, Int.le_trans lp.2.2 hx.2.2.2.2.2, (pb3_ GEgr HB hp_).out⟩
    · have hcw : decide (n ≤ wrap64 (wrap64 (sm ((dsO l0).take j) + (rd_T79 l0 (j : Int)).f2) * d)) = false := by rw [HS.out]; exact decide_eq_false hc
      have HX : Aside0 (sm ((dsO l0).take (j + 1)) * d < n) := ⟨by rw [HT.out]; omega⟩
      have EW : Aside0 (wrap64 ((j : Int) + 1) = ((j + 1 : Nat) : Int)) := ⟨by have := HL.out; rw [wrp_ (by omega) (by omega)]; rfl⟩
      clear hc
      replace BKgr := kd_ BKgr
      replace BKgs := kd_ BKgs
      replace HB := bd_ HB
      refine sM_ [] (fun w' => (w'.cell? ⟨gs, 0, none⟩ = some (.int .i64 (sm ((hsO l0).take j))) ∧ w'.cell? ⟨gs, 1, none⟩ = some (.int .i64 (sm ((vsO l0).take j))) ∧ w'.cell? ⟨gs, 2, none⟩ = some (.int .i64 (sm ((dsO l0).take j)))) ∧ w'.cell? ⟨(ad.add (j * 3)).block, (ad.add (j * 3)).off + 2, none⟩ = some (.int .i64 (rd_T79 l0 (j : Int)).f2)) ref_AtTime.tab5 ref_AtTime.bits5 ⟨c3_ BKgs, pw_cell_below HB.out X2.out⟩ (fun hHeld HT_ HW_ => ?_)
      generalize w4.drew = w5 at BKgr BKgs HB hHeld ⊢
      refine pM_ HT_ 0 18 1 ?_
      refine pM_ HT_ 1 19 3 ?_
      refine pM_ HT_ 3 21 11 ?_
      refine pM_ HT_ 4 22 27 ?_
      refine pM_ HT_ 5 23 59 ?_
      refine pM_ HT_ 6 24 123 ?_
      refine pM_ HT_ 9 27 635 ?_
      refine tM_ HT_ HW_ hHeld 2 20 639 ?_
      refine tM_ HT_ HW_ hHeld 7 25 767 ?_
      refine pM_ HT_ 8 26 1023 ?_
      refine pM_ HT_ 10 28 2047 ?_
      refine pM_ HT_ 11 29 4095 ?_
      refine dM_ HT_ ?_
      go_wp2
      go_roundg (gk - 1)
      case measure => have := HJ.out; have := HJL.out; omega
      case rel => exact ⟨j + 1, by rw [EW.out], ⟨by have := HJL.out; omega, by have := HJ.out; omega, .inr HX.out⟩, BKgr, HB⟩
end Go.Proofs.Ytlhfclpbodfmcaa.Pr
namespace Go.Proofs.Ytlhfclpbodfmcaa.Pr
open Go.RowKit Go.Proofs.YtlhfclpbodfmcaaW.PrintWords Go.Proofs.YtlhfclpbodfmcaaW.PrintLast Go.Proofs.YtlhfclpbodfmcaaW.PrintMore
open Go.Proofs.Ytlhfclpbodfmcaa.Vm
set_option linter.unusedVariables false
set_option linter.unusedSimpArgs false
attribute [local go_sem] fld79_0 fld79_1 fld79_2
theorem okl {l : List S79} {f : S79 → Int} {p : Pl} (h : p.ok (l.map f).length) : p.ok l.length := by simpa using h
end Go.Proofs.Ytlhfclpbodfmcaa.Pr
namespace Go.Proofs.Ytlhfclpbodfmcaa.Pr
open Go.RowKit Go.Proofs.YtlhfclpbodfmcaaW.PrintWords Go.Proofs.YtlhfclpbodfmcaaW.PrintLast Go.Proofs.YtlhfclpbodfmcaaW.PrintMore
open Go.Proofs.Ytlhfclpbodfmcaa.Vm
set_option linter.unusedVariables false
set_option linter.unusedSimpArgs false
attribute [local go_sem] fld79_0 fld79_1 fld79_2 max2_int max_two
theorem spanD_v {n d : Int} (hd : 1 ≤ d) {x : Rat} (h : (n : Rat) / (d : Rat) = x) : spanD n d = (x.floor, x.ceil) := by
  unfold spanD
  rw [← h, floor_div n d hd, ceil_div n d hd]
/-- What belongs to a place, on another scale. -/
theorem time_conv {as_ bs : List Int} (hl : as_.length = bs.length) (ha : Pos as_) (hb : Pos bs) {p : Pl} (hp : p.ok as_.length) {x : Rat} (hx : pv as_ p = x) : (timeN bs p : Rat) / (p.d : Rat) = conv as_ bs x := by
  rw [timeN_v hp.2.2.2, ← conv_pv hl ha hb hp, hx]
end Go.Proofs.Ytlhfclpbodfmcaa.Pr
namespace Go.Proofs.Ytlhfclpbodfmcaa.Pr
open Go.RowKit Go.Proofs.YtlhfclpbodfmcaaW.PrintWords Go.Proofs.YtlhfclpbodfmcaaW.PrintLast Go.Proofs.YtlhfclpbodfmcaaW.PrintMore
set_option linter.unusedVariables false
theorem ba_ (W : World) (C : Obj) : Below W.heap.size W (W.alloc C) := below_alloc (Below.refl _ _) _
/-- A row of the caller's, later. -/
theorem kc_ {α : Type} {d : Kd α} {w W : World} {A : Option Addr} {l : List α} (h : Aside0 (Kd.C d w A l.length l)) (hb : Aside0 (Below w.heap.size w W)) : Kd.C d W A l.length l := Kd.C_below h.out hb.out
end Go.Proofs.Ytlhfclpbodfmcaa.Pr
namespace Go.Proofs.Ytlhfclpbodfmcaa.Pr
open Go.RowKit Go.Proofs.YtlhfclpbodfmcaaW.PrintWords Go.Proofs.YtlhfclpbodfmcaaW.PrintLast Go.Proofs.YtlhfclpbodfmcaaW.PrintMore
open Go.Proofs.Ytlhfclpbodfmcaa.Vm
set_option linter.unusedVariables false
set_option linter.unusedSimpArgs false
attribute [local go_sem] fld79_0 fld79_1 fld79_2 max2_int max_two
theorem mulBd_ {a b A B : Int} (a0 : 0 ≤ a) (a1 : a ≤ A) (b0 : 0 ≤ b) (b1 : b ≤ B) : 0 ≤ a * b ∧ a * b ≤ A * B := ⟨Int.mul_nonneg a0 b0, Int.mul_le_mul a1 b1 b0 (by omega)⟩
end Go.Proofs.Ytlhfclpbodfmcaa.Pr
namespace Go.Proofs.Ytlhfclpbodfmcaa.Pr
open Go.RowKit Go.Proofs.YtlhfclpbodfmcaaW.PrintWords Go.Proofs.YtlhfclpbodfmcaaW.PrintLast Go.Proofs.YtlhfclpbodfmcaaW.PrintMore
open Go.Proofs.Ytlhfclpbodfmcaa.Vm
set_option linter.unusedVariables false
set_option linter.unusedSimpArgs false
attribute [local go_sem] fld79_0 fld79_1 fld79_2 max2_int max_two
def ref_Marks.T12 : Bool × List (List Nat × List Nat) := (true, [([], []), ([], []), ([], []), ([1, 2], [1, 2]), ([], []), ([4], [4]), ([3, 5, 3], [3, 5]), ([6], [6]), ([0, 7, 6], [0, 7]), ([8, 8, 0, 1, 2, 3, 4, 5, 6, 7, 8], [0, 8])])
def ref_Marks.B12 : List Nat := [0, 0, 0, 6, 0, 16, 62, 126, 255, 511]
theorem ref_Marks.tab12 : rtab .any (opsOf Try.f56 12) = ref_Marks.T12 := by kernel_rfl
theorem ref_Marks.bits12 : waitsOk ref_Marks.T12.2 ref_Marks.B12 = true := by kernel_rfl
theorem inB_parts (a : Int) : inB a 1 60 = decide (1 ≤ a ∧ a ≤ 60) := by rw [Bool.eq_iff_iff, inB_iff]; simp
set_option maxHeartbeats 1600000 in
set_option maxRecDepth 100000 in
theorem ref_Marks.calls (A0 : Option Addr) (c0 : Nat) (l0 : List S79) (a1 : Int) (w : World) (hr0 : Kd.C k79 w A0 l0.length l0) :
    Calls Try.prog 56 #[.slice A0 l0.length c0, .int .i64 a1] w fun e w' => ∃ v0_ : Value, e = .returned (.tuple #[v0_, .int .i64 (MarksF l0 a1).2]) ∧ Kd.R k27 27 w' w.heap.size (fun _ => True) v0_ (MarksF l0 a1).1 ∧ Below w.heap.size w w' := by
  have hu79 := Try.underlying79
  have hu27 := Try.underlying27
  have hu96 := Try.underlying96
  have HR0 := Aside0.mk hr0
  clear hr0
  have HB := Aside0.mk (Below.refl w.heap.size w)
  have K0 : Aside0 (∀ W, Below w.heap.size w W → Calls Try.prog 53 #[.slice A0 l0.length c0] W fun e w' => e = .returned (.int .i64 (checkF l0)) ∧ Below W.heap.size W w') := ⟨fun W hB => ref_Check.calls A0 c0 l0 W (Kd.C_below HR0.out hB)⟩
  go_enter Try.func56, Try.ntmps56
  cases hv : validB l0
  · have HF : Aside0 (MarksF l0 a1 = ([], 20)) := ⟨by unfold MarksF; rw [hv]; rfl⟩
    have hc_ : checkF l0 = 20 := by unfold checkF; rw [hv]; rfl
    have h_ := K0.out
    rw [hc_] at h_
    have K0v := Aside0.mk h_
    clear h_ hc_ K0
    clear hv
    go_wp2_with fail
    refine (K0v.out _ HB.out).mono ?_
    rintro e w2 ⟨rfl, hb⟩
    replace hb := nb_ HB hb
    replace HB := bs_ HB hb
    clear hb
    go_wp2
    go_ret2
    rw [HF.out]
    exact ⟨_, rfl, Kd.R_nil _ _ _ _ _, HB.out⟩
  · have hc_ : checkF l0 = 0 := by unfold checkF; rw [hv]; rfl
    have h_ := K0.out
    rw [hc_] at h_
    have K0v := Aside0.mk h_
    clear h_ hc_ K0
    have HV := Aside0.mk hv
    have HG : Aside0 (GV (hsO l0) (vsO l0) (dsO l0)) := ⟨valid_GV hv⟩
    clear hv
    go_wp2_with fail
    refine (K0v.out _ HB.out).mono ?_
    rintro e w2 ⟨rfl, hb⟩
    replace hb := nb_ HB hb
    replace HB := bs_ HB hb
    clear hb
    by_cases hp : 1 ≤ a1 ∧ a1 ≤ 60
    · have HF : Aside0 (MarksF l0 a1 = (marksL l0 a1 (a1 - 1).toNat, 0)) := ⟨by unfold MarksF; rw [if_pos HV.out, if_pos hp]⟩
      have C1 : Aside0 (∀ W, Calls Try.prog 104 #[.int .i64 a1, .int .i64 1, .int .i64 60] W fun e w' => e = .returned (.bool true) ∧ Below W.heap.size W w') := ⟨fun W => by have h := ref_within.calls a1 1 60 W; rwa [inB_parts, decide_eq_true hp] at h⟩
      have C2 : Aside0 (∀ W, Below w.heap.size w W → Calls Try.prog 91 #[.slice A0 l0.length c0, .int .i64 (l0.length : Int)] W fun e w' => e = .returned (.agg #[.int .i64 (sm (hsO l0)), .int .i64 (sm (vsO l0)), .int .i64 (sm (dsO l0))]) ∧ Below W.heap.size W w') := ⟨fun W hB => by
        have h := ref_Sums.calls A0 c0 l0 l0.length W (Kd.C_below HR0.out hB) HG.out (Nat.le_refl _)
        rwa [List.take_of_length_le (l := hsO l0) (by simp), List.take_of_length_le (l := vsO l0) (by simp), List.take_of_length_le (l := dsO l0) (by simp)] at h⟩
      have HP1 := Aside0.mk hp
      clear hp
      go_wp2_with fail
      refine (C1.out _).mono ?_
      rintro e w3 ⟨rfl, hb⟩
      replace hb := nb_ HB hb
      replace HB := bs_ HB hb
      clear hb
      go_wp2_with fail
      refine (C2.out _ HB.out).mono ?_
      rintro e w4 ⟨rfl, hb⟩
      replace hb := nb_ HB hb
      replace HB := bs_ HB hb
      clear hb
      go_wp2
      have RO : Aside0 (Kd.R k27 27 w4 w.heap.size (fun _ => True) (.slice none 0 0) (marksL l0 a1 0)) := ⟨Kd.R_nil _ _ _ _ _⟩
      go_loopg [8, 9] (a1 - 1).toNat (fun kq v8 v9 w' => ∃ (i : Int) (n : Nat), v9 = .int .i64 i ∧ Aside0 (i = (n : Int) + 1 ∧ 1 ≤ i ∧ i ≤ a1 ∧ n + kq = (a1 - 1).toNat) ∧ Aside0 (Kd.R k27 27 w' w.heap.size (fun _ => True) v8 (marksL l0 a1 n)) ∧ Aside0 (Below w.heap.size w w'))
      case atStart => exact ⟨1, 0, rfl, ⟨by omega, by omega, by have := HP1.out; omega, by omega⟩, RO, HB⟩
      case round =>
        clear RO HB
        obtain ⟨i, n, rfl, HI, RO, HB⟩ := hrel
        by_cases hlt : i < a1
        · have hdl : decide (i < a1) = true := decide_eq_true hlt
          have HLT := Aside0.mk hlt
          have HM := Aside0.mk (mark_spec HG.out HP1.out (show 0 ≤ i ∧ i ≤ a1 by have := HI.out; omega))
          have e1 : wrap64 (a1 - i) = a1 - i := by have := HI.out; have := HP1.out; exact wrp_ (by omega) (by omega)
          have e2 : wrap64 (sm (dsO l0) * (a1 - i)) = sm (dsO l0) * (a1 - i) := by have := HM.out; exact wrp_ (by omega) (by omega)
          have EW : Aside0 (wrap64 (i + 1) = i + 1) := ⟨by have := HI.out; have := HP1.out; exact wrp_ (by omega) (by omega)⟩
          have HLN : Aside0 ((marksL l0 a1 n).length ≤ 1000) := ⟨by rw [marksL_length]; have := HI.out; have := HP1.out; omega⟩
          have C3 : Aside0 (∀ W, Below w.heap.size w W → Calls Try.prog 92 #[.slice A0 l0.length c0, .int .i64 (sm (dsO l0) * (a1 - i)), .int .i64 a1] W (PlaceP W (dsO l0) (((sm (dsO l0) * (a1 - i) : Int) : Rat) / (a1 : Rat)) (20000 * a1))) := ⟨fun W hB => ref_AtTime.calls A0 c0 l0 (sm (dsO l0) * (a1 - i)) a1 W (Kd.C_below HR0.out hB) HG.out HM.out.1 HP1.out.1 (by have := HP1.out; omega) (Int.mul_le_mul_of_nonneg_left (by have := HI.out; omega) HG.out.d.pos.sum)⟩
          clear hlt
          go_wp2_with fail
          refine (C3.out _ HB.out).mono ?_
          rintro e v2 ⟨p, rfl, hp_, hv_, hd_, hb⟩
          have HQ := Aside0.mk (And.intro hp_ (And.intro hv_ hd_))
          clear hp_ hv_ hd_
          replace hb := nb_ HB hb
          replace RO := Aside0.mk (Kd.R_below RO.out hb)
          replace HB := bs_ HB hb
          clear hb C3
          replace RO := RO
          go_upto_region 12 with (fail)
          have BKgp := Aside0.mk (blk_new v2 (.cells #[.int .i64 ((p.r : Int)), .int .i64 (p.n), .int .i64 (p.d)] 96 (0, 0)))
          have hb := below_alloc (Below.refl _ v2) (.cells #[.int .i64 ((p.r : Int)), .int .i64 (p.n), .int .i64 (p.d)] 96 (0, 0))
          have GEgp : Aside0 (w.heap.size ≤ v2.heap.size) := ge_ rfl HB
          replace RO := Aside0.mk (Kd.R_below RO.out hb)
          replace HB := bs_ HB hb
          clear hb
          generalize v2.alloc (.cells #[.int .i64 ((p.r : Int)), .int .i64 (p.n), .int .i64 (p.d)] 96 (0, 0)) = v3 at BKgp RO HB ⊢
          generalize v2.heap.size = gp at BKgp GEgp ⊢
          have TZ := Aside0.mk (timeN_bd HG.out.h (p := p) (by have h := okl HQ.out.1; simpa using h))
          have HZ : Aside0 (1 ≤ p.d ∧ p.d ≤ 1200000) := ⟨⟨HQ.out.1.2.2.2, Int.le_trans HQ.out.2.2 (by have := HP1.out; omega)⟩⟩
          have HSP : Aside0 (spanD (timeN (hsO l0) p) p.d = spanF (markF l0 a1 i)) := ⟨by
            have m := HM.out
            obtain ⟨f1, f2, f3, f4, f5, f6, f7⟩ := tell HG.out.d HG.out.h HG.out.hd.symm m.2.2.2.1 m.2.2.2.2.2.1 m.2.2.2.2.2.2 m.2.2.2.2.1
            have e : (markF l0 a1 i).v = conv (dsO l0) (hsO l0) (((sm (dsO l0) * (a1 - i) : Int) : Rat) / (a1 : Rat)) := by
              show (atF _ _).v = _
              rw [f3, m.2.2.1, Rat.intCast_mul, Rat.intCast_sub]
            rw [spanD_v HZ.out.1 (time_conv HG.out.hd.symm HG.out.d.pos HG.out.h.pos HQ.out.1 HQ.out.2.1), show spanF (markF l0 a1 i) = ((markF l0 a1 i).v.floor, (markF l0 a1 i).v.ceil) from spanF_eq f4, e]⟩
          have C8 : Aside0 (∀ W, Below w.heap.size w W → Calls Try.prog 86 #[.slice A0 l0.length c0, .agg #[.int .i64 ((p).r : Int), .int .i64 (p).n, .int .i64 (p).d]] W fun e w' => e = .returned (.int .i64 (timeN (hsO l0) p)) ∧ Below W.heap.size W w') := ⟨fun W hB => ref_Level.calls A0 c0 l0 p W (Kd.C_below HR0.out hB) HG.out (okl HQ.out.1) (Int.le_trans HQ.out.2.2 (by have := HP1.out; omega))⟩
          have C9 : Aside0 (∀ W, Calls Try.prog 85 #[.int .i64 (timeN (hsO l0) p), .int .i64 (p.d)] W fun e w' => e = .returned (.agg #[.int .i64 (spanF (markF l0 a1 i)).1, .int .i64 (spanF (markF l0 a1 i)).2]) ∧ Below W.heap.size W w') := ⟨fun W => by
            have hd := HZ.out
            have tz := TZ.out
            have b1 := mulBd_ (a := sm (hsO l0)) (by have := HG.out.h.pos.sum; omega) HG.out.sums.1 (show 0 ≤ p.d by omega) hd.2
            have h := ref_span.calls (timeN (hsO l0) p) p.d W tz.1 (by omega) hd.1 (by omega)
            rwa [HSP.out] at h⟩
          clear e1 e2
          replace BKgp := kd_ BKgp
          replace RO := Aside0.mk (Kd.R_drew RO.out)
          replace HB := bd_ HB
          refine sM_ [] (fun w' => (w'.cell? ⟨gp, 0, none⟩ = some (.int .i64 ((p.r : Int))) ∧ w'.cell? ⟨gp, 1, none⟩ = some (.int .i64 (p.n)) ∧ w'.cell? ⟨gp, 2, none⟩ = some (.int .i64 (p.d)))) ref_Marks.tab12 ref_Marks.bits12 (c3_ BKgp) (fun hHeld HT_ HW_ => ?_)
          generalize v3.drew = z1 at BKgp RO HB hHeld ⊢
          refine pM_ HT_ 0 37 1 ?_
          refine pM_ HT_ 1 38 3 ?_
          refine pM_ HT_ 4 41 19 ?_
          refine tM_ HT_ HW_ hHeld 2 39 23 ?_
          refine tM_ HT_ HW_ hHeld 5 42 55 ?_
          refine oM_ HT_ 3 (some 40) 63 (fun K hK => ?_)
          refine gM_ Try.func86 (C8.out _ HB.out) ?_
          rintro e z2 ⟨rfl, hb⟩
          refine ⟨.int .i64 _, rfl, ?_⟩
          replace hb := nb_ HB hb
          replace BKgp := kb_ BKgp hb
          replace RO := Aside0.mk (Kd.R_below RO.out hb)
          replace HB := bs_ HB hb
          (try clear hb)
          refine hK.out _ _ (c3_ BKgp) (fun hHeld => ?_)
          clear hK K
          refine nM_ ?_
          refine oM_ HT_ 6 (some 43) 127 (fun K hK => ?_)
          refine gM_ Try.func85 (C9.out _) ?_
          rintro e z3 ⟨rfl, hb⟩
          refine ⟨.agg _, rfl, ?_⟩
          replace hb := nb_ HB hb
          replace BKgp := kb_ BKgp hb
          replace RO := Aside0.mk (Kd.R_below RO.out hb)
          replace HB := bs_ HB hb
          (try clear hb)
          refine hK.out _ _ (c3_ BKgp) (fun hHeld => ?_)
          clear hK K
          refine nM_ ?_
          refine oM_ HT_ 7 (some 44) 255 (fun K hK => ?_)
          refine lit27_step (by rfl) (N := 44) rfl (cs := #[.int .i64 ((spanF (markF l0 a1 i)).1), .int .i64 ((spanF (markF l0 a1 i)).2)]) (E := 27) ?hr ?_
          (case hr => first | (go_simp; done) | (go_simp; rfl))
          intro ga hg w13 hbox hb
          replace hb := nb_ HB hb
          replace BKgp := kb_ BKgp hb
          replace RO := Aside0.mk (Kd.R_below RO.out hb)
          replace HB := bs_ HB hb
          have BKga := Aside0.mk hbox
          clear hb hbox hg
          refine hK.out _ _ (c3_ BKgp) (fun hHeld => ?_)
          clear hK K
          refine nM_ ?_
          refine oM_ HT_ 8 (some 45) 511 (fun K hK => ?_)
          refine app27_step (w := w) (by rfl) (.tmp 37) (.tmp 44) 62 27 rfl Try.underlying62 info27 u8 (marksL l0 a1 n) (markS l0 a1 i) ga rfl rfl RO.out BKga.out HB.out HLN.out ?_
          intro u9_ w14 ho hb hg hat
          have n1_ := Aside0.mk (blk_grown BKgp.out hg (Kd.R_ne RO.out BKgp.out (by decide)))
          have n3_ := Aside0.mk hb
          have n4_ := Aside0.mk ho
          clear BKgp HB RO BKga
          have BKgp := n1_
          have HB := n3_
          have RO := n4_
          clear n1_ n3_ n4_ ho hb hg hat
          refine hK.out _ _ (c3_ BKgp) (fun hHeld => ?_)
          clear hK K
          refine nM_ ?_
          refine pM_ HT_ 9 8 1023 ?_
          refine dM_ HT_ ?_
          go_wp2
          have hmk : marksL l0 a1 n ++ [markS l0 a1 i] = marksL l0 a1 (n + 1) := by rw [HI.out.1]; rfl
          rw [hmk] at RO
          clear hmk
          go_roundg (gk - 1)
          case measure => have := HI.out; have := HLT.out; omega
          case rel => exact ⟨i + 1, n + 1, by rw [EW.out], ⟨by have := HI.out; omega, by have := HI.out; omega, by have := HLT.out; omega, by have := HI.out; have := HLT.out; omega⟩, RO, HB⟩
        · have hdl : decide (i < a1) = false := decide_eq_false hlt
          have HN9 : Aside0 ((a1 - 1).toNat = n) := ⟨by have := HI.out; omega⟩
          clear hlt
          go_wp2
          go_ret2
          rw [HF.out]
          exact ⟨_, rfl, by rw [HN9.out]; exact RO.out, HB.out⟩
    · have HF : Aside0 (MarksF l0 a1 = ([], 1)) := ⟨by unfold MarksF; rw [if_pos HV.out, if_neg hp]⟩
      have C1 : Aside0 (∀ W, Calls Try.prog 104 #[.int .i64 a1, .int .i64 1, .int .i64 60] W fun e w' => e = .returned (.bool false) ∧ Below W.heap.size W w') := ⟨fun W => by have h := ref_within.calls a1 1 60 W; rwa [inB_parts, decide_eq_false hp] at h⟩
      clear hp
      go_wp2_with fail
      refine (C1.out _).mono ?_
      rintro e w3 ⟨rfl, hb⟩
      replace hb := nb_ HB hb
      replace HB := bs_ HB hb
      clear hb
      go_wp2
      go_ret2
      rw [HF.out]
      exact ⟨_, rfl, Kd.R_nil _ _ _ _ _, HB.out⟩
end Go.Proofs.Ytlhfclpbodfmcaa.Pr
namespace Go.Proofs.Ytlhfclpbodfmcaa.Pr
open Go.RowKit Go.Proofs.YtlhfclpbodfmcaaW.PrintWords Go.Proofs.YtlhfclpbodfmcaaW.PrintLast Go.Proofs.YtlhfclpbodfmcaaW.PrintMore
open Go.Proofs.Ytlhfclpbodfmcaa.Vm
set_option linter.unusedVariables false
/-- The ring over a level. -/
def overF : List S79 → Int → S79
  | [], _ => z79
  | r :: t, x => if x < r.f0 then r else overF t (x - r.f0)
theorem over_at : ∀ {l : List S79} {i : Nat} {x : Int}, Pos (hsO l) → i < l.length → sm ((hsO l).take i) ≤ x → x < sm ((hsO l).take (i + 1)) → overF l x = rd_T79 l (i : Int)
  | r :: t, 0, x, hp, hi, h0, h1 => by
    simp [hsO, sm] at h1
    simp only [overF]
    rw [if_pos h1]
    simp [rd_T79]
  | r :: t, i + 1, x, hp, hi, h0, h1 => by
    have hp' : Pos (r.f0 :: hsO t) := hp
    have e0 : sm ((hsO (r :: t)).take (i + 1)) = r.f0 + sm ((hsO t).take i) := by simp [hsO, sm]
    have e1 : sm ((hsO (r :: t)).take (i + 1 + 1)) = r.f0 + sm ((hsO t).take (i + 1)) := by simp [hsO, sm]
    have n := (hp'.tail.take i).sum
    simp only [overF]
    rw [if_neg (by omega), over_at (i := i) hp'.tail (by simpa using hi) (by omega) (by omega)]
    simp [rd_T79]
/-- A ring takes at least as long as another one. -/
def pairB (a b : S79) : Bool := decide (a.f2 * b.f0 ≤ b.f2 * a.f0)
def slowB (v u : List S79) : Bool := (List.range (min (sm (hsO v)) (sm (hsO u))).toNat).all fun x => pairB (overF v (x : Int)) (overF u (x : Int))
/-- All levels below one are as they should be. -/
def UpTo (v u : List S79) (n : Int) : Prop := ∀ x : Int, 0 ≤ x → x < n → pairB (overF v x) (overF u x) = true
theorem slowB_iff {v u : List S79} : slowB v u = true ↔ UpTo v u (min (sm (hsO v)) (sm (hsO u))) := by
  unfold slowB UpTo
  rw [List.all_eq_true]
  constructor
  · intro h x h0 h1
    have := h x.toNat (List.mem_range.2 (by omega))
    rwa [Int.toNat_of_nonneg h0] at this
  · intro h x hx
    exact h x (by omega) (by have := List.mem_range.1 hx; omega)
theorem slow_true {v u : List S79} {n : Int} (h : UpTo v u n) (hn : min (sm (hsO v)) (sm (hsO u)) ≤ n) : slowB v u = true := slowB_iff.2 fun x h0 h1 => h x h0 (by omega)
theorem slow_false {v u : List S79} {x : Int} (h0 : 0 ≤ x) (h1 : x < sm (hsO v)) (h2 : x < sm (hsO u)) (h : pairB (overF v x) (overF u x) = false) : slowB v u = false := by
  cases hb : slowB v u with
  | false => rfl
  | true =>
    have := slowB_iff.1 hb x h0 (by omega)
    rw [h] at this
    cases this
def SlowerF (v u : List S79) : Bool × Int := if validB v then (if validB u then (slowB v u, 0) else (false, 20)) else (false, 20)
/-- Where two rings lie over one another all levels are as one of them is. -/
theorem upto_step {v u : List S79} {i k : Nat} {L n : Int} (hv : Pos (hsO v)) (hu : Pos (hsO u)) (hi : i < v.length) (hk : k < u.length) (h : UpTo v u L) (l0 : sm ((hsO v).take i) ≤ L) (l1 : sm ((hsO u).take k) ≤ L) (n0 : n ≤ sm ((hsO v).take (i + 1))) (n1 : n ≤ sm ((hsO u).take (k + 1)))
    (hp : pairB (rd_T79 v (i : Int)) (rd_T79 u (k : Int)) = true) : UpTo v u n := by
  intro x h0 h1
  by_cases hx : x < L
  · exact h x h0 hx
  · rw [over_at hv hi (by omega) (by omega), over_at hu hk (by omega) (by omega)]
    exact hp
end Go.Proofs.Ytlhfclpbodfmcaa.Pr
namespace Go.Proofs.Ytlhfclpbodfmcaa.Pr
open Go.RowKit Go.Proofs.YtlhfclpbodfmcaaW.PrintWords Go.Proofs.YtlhfclpbodfmcaaW.PrintLast Go.Proofs.YtlhfclpbodfmcaaW.PrintMore
open Go.Proofs.Ytlhfclpbodfmcaa.Vm
set_option linter.unusedVariables false
set_option linter.unusedSimpArgs false
attribute [local go_sem] fld79_0 fld79_1 fld79_2 max2_int max_two
def ref_over.T5 : Bool × List (List Nat × List Nat) := (true, [([], []), ([], []), ([1], [1]), ([], []), ([], []), ([3, 4], [3, 4]), ([5], [5]), ([6], [6]), ([2, 7], [2, 7]), ([0, 8], [0, 8])])
def ref_over.B5 : List Nat := [0, 0, 2, 0, 0, 24, 56, 120, 254, 511]
theorem ref_over.tab5 : rtab .any (opsOf Try.f121 5) = ref_over.T5 := by kernel_rfl
theorem ref_over.bits5 : waitsOk ref_over.T5.2 ref_over.B5 = true := by kernel_rfl
set_option maxHeartbeats 1600000 in
set_option maxRecDepth 100000 in
theorem ref_over.calls (A0 : Option Addr) (c0 : Nat) (l0 : List S79) (x : Int) (w : World) (hr0 : Kd.C k79 w A0 l0.length l0) (hG : GV (hsO l0) (vsO l0) (dsO l0)) (h0 : 0 ≤ x) (h1 : x < sm (hsO l0)) : Calls Try.prog 121 #[.slice A0 l0.length c0, .int .i64 x] w fun e w' => e = .returned (.agg #[.int .i64 ((overF l0 x).f0), .int .i64 ((overF l0 x).f1), .int .i64 ((overF l0 x).f2)]) ∧ Below w.heap.size w w' := by
  have hu79 := Try.underlying79
  have HR0 := Aside0.mk hr0
  have HG := Aside0.mk hG
  clear hr0 hG
  have HB := Aside0.mk (Below.refl w.heap.size w)
  have HX := Aside0.mk (And.intro h0 h1)
  have HL : Aside0 (l0.length ≤ 24) := ⟨by have := HG.out.h.ln; simpa using this⟩
  clear h0 h1
  go_enter Try.func121, Try.ntmps121
  go_wp2_with (first | ((with_reducible refine gate_dst (N := 4) rfl ?_); refine bx_ 4 #[.int .i64 0, .int .i64 0, .int .i64 0] 79 ?_; intro gr hg w1 hbox hb; have GEgr := ge_ hg HB; replace hb := nb_ HB hb; replace HB := bs_ HB hb; have BKgr := Aside0.mk hbox; clear hb hbox hg))
  go_loopg [5] l0.length (fun kq v5 w' => ∃ j : Nat, v5 = .int .i64 (j : Int) ∧ Aside0 (j ≤ l0.length ∧ l0.length - j ≤ kq ∧ sm ((hsO l0).take j) ≤ x) ∧ Aside0 (w'.heap[gr]? = some (.cells #[.int .i64 0, .int .i64 0, .int .i64 0] 79 (0, 0))) ∧ Aside0 (Below w.heap.size w w'))
  case atStart => exact ⟨0, rfl, ⟨Nat.zero_le _, by omega, by simp [sm]; exact HX.out.1⟩, BKgr, HB⟩
  case round =>
    clear BKgr HB
    obtain ⟨j, rfl, HJ, BKgr, HB⟩ := hrel
    have hjl : j < l0.length := by
      have hq := HJ.out
      apply Classical.byContradiction; intro hn
      have h := hq.2.2
      rw [List.take_of_length_le (by simp; omega)] at h
      have := HX.out; omega
    have hd : decide ((j : Int) < (l0.length : Int)) = true := decide_eq_true (by omega)
    have hd2 : decide (j < l0.length) = true := decide_eq_true hjl
    have hi0 : (0 : Int) ≤ (j : Int) := by omega
    have hi1 : (j : Int) < (l0.length : Int) := by omega
    obtain ⟨ad, q_, x0_, x1_, x2_⟩ := at_T79 HR0.out (j : Int) hi0 hi1
    subst q_
    simp only [Int.toNat_natCast] at x0_ x1_ x2_
    have X0 := Aside0.mk x0_
    have X1 := Aside0.mk x1_
    have X2 := Aside0.mk x2_
    clear x0_ x1_ x2_
    have HT : Aside0 (sm ((hsO l0).take (j + 1)) = sm ((hsO l0).take j) + (rd_T79 l0 (j : Int)).f0) := ⟨by rw [sm_take_succ _ _ (by simpa using hjl), (rd79_gt l0 j hjl).1]⟩
    have HB2 := Aside0.mk (take_b HG.out.h.pos (j + 1))
    have HJL := Aside0.mk hjl
    have C1 : Aside0 (∀ W, Below w.heap.size w W → Calls Try.prog 91 #[.slice (some ad) l0.length c0, .int .i64 (j : Int)] W fun e w' => e = .returned (.agg #[.int .i64 (sm ((hsO l0).take j)), .int .i64 (sm ((vsO l0).take j)), .int .i64 (sm ((dsO l0).take j))]) ∧ Below W.heap.size W w') := ⟨fun W hB => ref_Sums.calls (some ad) c0 l0 j W (Kd.C_below HR0.out hB) HG.out (Nat.le_of_lt HJL.out)⟩
    go_wp2_with fail
    refine (C1.out _ HB.out).mono ?_
    rintro e w3 ⟨rfl, hb⟩
    replace hb := nb_ HB hb
    replace BKgr := kb_ BKgr hb
    replace HB := bs_ HB hb
    clear hb
    clear C1
    go_upto_region 5 with (fail)
    have BKgs := Aside0.mk (blk_new w3 (.cells #[.int .i64 (sm ((hsO l0).take j)), .int .i64 (sm ((vsO l0).take j)), .int .i64 (sm ((dsO l0).take j))] 79 (0, 0)))
    have hb := below_alloc (Below.refl _ w3) (.cells #[.int .i64 (sm ((hsO l0).take j)), .int .i64 (sm ((vsO l0).take j)), .int .i64 (sm ((dsO l0).take j))] 79 (0, 0))
    replace BKgr := kb_ BKgr hb
    replace HB := bs_ HB hb
    clear hb
    generalize w3.alloc (.cells #[.int .i64 (sm ((hsO l0).take j)), .int .i64 (sm ((vsO l0).take j)), .int .i64 (sm ((dsO l0).take j))] 79 (0, 0)) = w4 at BKgs BKgr HB ⊢
    generalize w3.heap.size = gs at BKgs ⊢
    have HS : Aside0 (wrap64 (sm ((hsO l0).take j) + (rd_T79 l0 (j : Int)).f0) = sm ((hsO l0).take (j + 1))) := ⟨by have hS := HG.out.sums; have b2 := HB2.out; rw [HT.out] at b2 ⊢; exact wrp_ (by omega) (by omega)⟩
    by_cases hc : x < sm ((hsO l0).take (j + 1))
    · have hcw : decide (x < wrap64 (sm ((hsO l0).take j) + (rd_T79 l0 (j : Int)).f0)) = true := by rw [HS.out]; exact decide_eq_true hc
      have HV : Aside0 (overF l0 x = rd_T79 l0 (j : Int)) := ⟨over_at HG.out.h.pos HJL.out HJ.out.2.2 hc⟩
      clear hc
      replace BKgr := kd_ BKgr
      replace BKgs := kd_ BKgs
      replace HB := bd_ HB
      refine sM_ [] (fun w' => (w'.cell? ⟨gs, 0, none⟩ = some (.int .i64 (sm ((hsO l0).take j))) ∧ w'.cell? ⟨gs, 1, none⟩ = some (.int .i64 (sm ((vsO l0).take j))) ∧ w'.cell? ⟨gs, 2, none⟩ = some (.int .i64 (sm ((dsO l0).take j)))) ∧ w'.cell? (ad.add (j * 3)) = some (.int .i64 (rd_T79 l0 (j : Int)).f0)) ref_over.tab5 ref_over.bits5 ⟨c3_ BKgs, pw_cell_below HB.out X0.out⟩ (fun hHeld HT_ HW_ => ?_)
      generalize w4.drew = w5 at BKgr BKgs HB hHeld ⊢
      refine pM_ HT_ 0 16 1 ?_
      refine pM_ HT_ 1 17 3 ?_
      refine pM_ HT_ 3 19 11 ?_
      refine pM_ HT_ 4 20 27 ?_
      refine pM_ HT_ 5 21 59 ?_
      refine pM_ HT_ 6 22 123 ?_
      refine tM_ HT_ HW_ hHeld 2 18 127 ?_
      refine tM_ HT_ HW_ hHeld 7 23 255 ?_
      refine pM_ HT_ 8 24 511 ?_
      refine pM_ HT_ 9 25 1023 ?_
      refine dM_ HT_ ?_
      have hx0 := pw_cell_below HB.out X0.out
      have hx1 := pw_cell_below HB.out X1.out
      have hx2 := pw_cell_below HB.out X2.out
      go_wp2_with (first | ((with_reducible refine gate_store (t := 79) (p := 4) rfl ?_); have hc_ := cf3_ BKgr; refine st3_ ?_; intro w6 hp_; clear hc_; replace BKgr := pp3_ BKgr hp_; replace HB := pb3_ GEgr HB hp_; clear hp_))
      try go_wp2
      refine bodyPost_ret (results_cell_row rfl _ _ gr 79 #[.int .i64 (rd_T79 l0 (j : Int)).f0, .int .i64 (rd_T79 l0 (j : Int)).f1, .int .i64 (rd_T79 l0 (j : Int)).f2] (0, 0) _ rfl BKgr.out Try.underlying79 rfl (by kernel_rfl)) rfl ?_
      exact ⟨by rw [HV.out], HB.out⟩
    · have hcw : decide (x < wrap64 (sm ((hsO l0).take j) + (rd_T79 l0 (j : Int)).f0)) = false := by rw [HS.out]; exact decide_eq_false hc
      have HX2 : Aside0 (sm ((hsO l0).take (j + 1)) ≤ x) := ⟨by omega⟩
      have EW : Aside0 (wrap64 ((j : Int) + 1) = ((j + 1 : Nat) : Int)) := ⟨by have := HL.out; rw [wrp_ (by omega) (by omega)]; rfl⟩
      clear hc
      replace BKgr := kd_ BKgr
      replace BKgs := kd_ BKgs
      replace HB := bd_ HB
      refine sM_ [] (fun w' => (w'.cell? ⟨gs, 0, none⟩ = some (.int .i64 (sm ((hsO l0).take j))) ∧ w'.cell? ⟨gs, 1, none⟩ = some (.int .i64 (sm ((vsO l0).take j))) ∧ w'.cell? ⟨gs, 2, none⟩ = some (.int .i64 (sm ((dsO l0).take j)))) ∧ w'.cell? (ad.add (j * 3)) = some (.int .i64 (rd_T79 l0 (j : Int)).f0)) ref_over.tab5 ref_over.bits5 ⟨c3_ BKgs, pw_cell_below HB.out X0.out⟩ (fun hHeld HT_ HW_ => ?_)
      generalize w4.drew = w5 at BKgr BKgs HB hHeld ⊢
      refine pM_ HT_ 0 16 1 ?_
      refine pM_ HT_ 1 17 3 ?_
      refine pM_ HT_ 3 19 11 ?_
      refine pM_ HT_ 4 20 27 ?_
      refine pM_ HT_ 5 21 59 ?_
      refine pM_ HT_ 6 22 123 ?_
      refine tM_ HT_ HW_ hHeld 2 18 127 ?_
      refine tM_ HT_ HW_ hHeld 7 23 255 ?_
      refine pM_ HT_ 8 24 511 ?_
      refine pM_ HT_ 9 25 1023 ?_
      refine dM_ HT_ ?_
      go_wp2
      go_roundg (gk - 1)
      case measure => have := HJ.out; have := HJL.out; omega
      case rel => exact ⟨j + 1, by rw [EW.out], ⟨by have := HJL.out; omega, by have := HJ.out; omega, HX2.out⟩, BKgr, HB⟩
theorem over_bd {l : List S79} (g : GV (hsO l) (vsO l) (dsO l)) {x : Int} (h0 : 0 ≤ x) (h1 : x < sm (hsO l)) : 1 ≤ (overF l x).f0 ∧ (overF l x).f0 ≤ 1000 ∧ 1 ≤ (overF l x).f2 ∧ (overF l x).f2 ≤ 20000 := by
  obtain ⟨i, hi, a, b⟩ : ∃ i, i < l.length ∧ sm ((hsO l).take i) ≤ x ∧ x < sm ((hsO l).take (i + 1)) := by
    have key : ∀ n : Nat, n ≤ l.length → x < sm ((hsO l).take n) → ∃ i, i < n ∧ sm ((hsO l).take i) ≤ x ∧ x < sm ((hsO l).take (i + 1)) := by
      intro n
      induction n with
      | zero => intro _ h; simp [sm] at h; omega
      | succ n ih =>
        intro hn h
        by_cases hx : x < sm ((hsO l).take n)
        · obtain ⟨i, h1, h2⟩ := ih (by omega) hx
          exact ⟨i, by omega, h2⟩
        · exact ⟨n, by omega, by omega, h⟩
    exact key l.length (Nat.le_refl _) (by rw [List.take_of_length_le (by simp)]; exact h1)
  rw [over_at g.h.pos hi a b]
  obtain ⟨e0, e1, e2⟩ := rd79_gt l i hi
  have a0 := g.h.gt (r := i) (by simpa using hi)
  have a2 := g.d.gt (r := i) (by simpa using hi)
  omega
set_option maxHeartbeats 1600000 in
set_option maxRecDepth 100000 in
theorem ref_Slower.calls (A0 : Option Addr) (c0 : Nat) (l0 : List S79) (A1 : Option Addr) (c1 : Nat) (l1 : List S79) (w : World) (hr0 : Kd.C k79 w A0 l0.length l0) (hr1 : Kd.C k79 w A1 l1.length l1) : Calls Try.prog 58 #[.slice A0 l0.length c0, .slice A1 l1.length c1] w fun e w' => e = .returned (.tuple #[.bool (SlowerF l0 l1).1, .int .i64 (SlowerF l0 l1).2]) ∧ Below w.heap.size w w' := by
  have hu79 := Try.underlying79
  have HR0 := Aside0.mk hr0
  have HR1 := Aside0.mk hr1
  clear hr0 hr1
  have HB := Aside0.mk (Below.refl w.heap.size w)
  have K0 : Aside0 (∀ W, Below w.heap.size w W → Calls Try.prog 53 #[.slice A0 l0.length c0] W fun e w' => e = .returned (.int .i64 (checkF l0)) ∧ Below W.heap.size W w') := ⟨fun W hB => ref_Check.calls A0 c0 l0 W (Kd.C_below HR0.out hB)⟩
  have K1 : Aside0 (∀ W, Below w.heap.size w W → Calls Try.prog 53 #[.slice A1 l1.length c1] W fun e w' => e = .returned (.int .i64 (checkF l1)) ∧ Below W.heap.size W w') := ⟨fun W hB => ref_Check.calls A1 c1 l1 W (Kd.C_below HR1.out hB)⟩
  go_enter Try.func58, Try.ntmps58
  cases hv : validB l0
  · have HF : Aside0 (SlowerF l0 l1 = (false, 20)) := ⟨by unfold SlowerF; rw [hv]; rfl⟩
    have hc_ : checkF l0 = 20 := by unfold checkF; rw [hv]; rfl
    have h_ := K0.out
    rw [hc_] at h_
    have K0v := Aside0.mk h_
    clear h_ hc_ K0
    clear hv
    go_wp2_with fail
    refine (K0v.out _ HB.out).mono ?_
    rintro e w2 ⟨rfl, hb⟩
    replace hb := nb_ HB hb
    replace HB := bs_ HB hb
    clear hb
    go_wp2
    go_ret2
    exact ⟨by first | (rw [HF.out]; done) | (rw [HF.out]; rfl), HB.out⟩
  · have hc_ : checkF l0 = 0 := by unfold checkF; rw [hv]; rfl
    have h_ := K0.out
    rw [hc_] at h_
    have K0v := Aside0.mk h_
    clear h_ hc_ K0
    have HV := Aside0.mk hv
    have HG : Aside0 (GV (hsO l0) (vsO l0) (dsO l0)) := ⟨valid_GV hv⟩
    clear hv
    go_wp2_with fail
    refine (K0v.out _ HB.out).mono ?_
    rintro e w2 ⟨rfl, hb⟩
    replace hb := nb_ HB hb
    replace HB := bs_ HB hb
    clear hb
    cases hu : validB l1
    · have HF : Aside0 (SlowerF l0 l1 = (false, 20)) := ⟨by unfold SlowerF; rw [HV.out, hu]; rfl⟩
      have hc_ : checkF l1 = 20 := by unfold checkF; rw [hu]; rfl
      have h_ := K1.out
      rw [hc_] at h_
      have K1v := Aside0.mk h_
      clear h_ hc_ K1
      clear hu
      go_wp2_with fail
      refine (K1v.out _ HB.out).mono ?_
      rintro e w3 ⟨rfl, hb⟩
      replace hb := nb_ HB hb
      replace HB := bs_ HB hb
      clear hb
      go_wp2
      go_ret2
      exact ⟨by first | (rw [HF.out]; done) | (rw [HF.out]; rfl), HB.out⟩
    · have HF : Aside0 (SlowerF l0 l1 = (slowB l0 l1, 0)) := ⟨by unfold SlowerF; rw [HV.out, hu]; rfl⟩
      have hc_ : checkF l1 = 0 := by unfold checkF; rw [hu]; rfl
      have h_ := K1.out
      rw [hc_] at h_
      have K1v := Aside0.mk h_
      clear h_ hc_ K1
      have HG1 : Aside0 (GV (hsO l1) (vsO l1) (dsO l1)) := ⟨valid_GV hu⟩
      clear hu
      go_wp2_with fail
      refine (K1v.out _ HB.out).mono ?_
      rintro e w3 ⟨rfl, hb⟩
      replace hb := nb_ HB hb
      replace HB := bs_ HB hb
      clear hb
      have C1 : Aside0 (∀ W, Below w.heap.size w W → Calls Try.prog 103 #[.slice A0 l0.length c0] W fun e w' => e = .returned (.int .i64 (sm (hsO l0))) ∧ Below W.heap.size W w') := ⟨fun W hB => ref_high.calls A0 c0 l0 W (Kd.C_below HR0.out hB) HG.out⟩
      have C2 : Aside0 (∀ W, Below w.heap.size w W → Calls Try.prog 103 #[.slice A1 l1.length c1] W fun e w' => e = .returned (.int .i64 (sm (hsO l1))) ∧ Below W.heap.size W w') := ⟨fun W hB => ref_high.calls A1 c1 l1 W (Kd.C_below HR1.out hB) HG1.out⟩
      have HS := Aside0.mk (And.intro HG.out.h.pos.sum (And.intro HG.out.sums.1 (And.intro HG1.out.h.pos.sum HG1.out.sums.1)))
      have HB9 := HB
      clear HB9
      go_wp2_with fail
      go_loopg [8] (sm (hsO l0)).toNat (fun kq v8 w' => ∃ x : Int, v8 = .int .i64 x ∧ Aside0 (0 ≤ x ∧ x ≤ sm (hsO l0) ∧ (sm (hsO l0) - x).toNat ≤ kq ∧ UpTo l0 l1 x) ∧ Aside0 (Below w.heap.size w w'))
      case atStart => exact ⟨0, rfl, ⟨by omega, HS.out.1, by omega, fun x h0 h1 => by omega⟩, HB⟩
      case round =>
        clear HB
        obtain ⟨x, rfl, HI, HB⟩ := hrel
        go_wp2_with fail
        refine (C1.out _ HB.out).mono ?_
        rintro e v1 ⟨rfl, hb⟩
        replace hb := nb_ HB hb
        replace HB := bs_ HB hb
        clear hb
        by_cases h1 : x < sm (hsO l0)
        · have d1 : decide (x < sm (hsO l0)) = true := decide_eq_true h1
          go_wp2_with fail
          refine (C2.out _ HB.out).mono ?_
          rintro e v2 ⟨rfl, hb⟩
          replace hb := nb_ HB hb
          replace HB := bs_ HB hb
          clear hb
          by_cases h2 : x < sm (hsO l1)
          · have d2 : decide (x < sm (hsO l1)) = true := decide_eq_true h2
            have HLT0 := Aside0.mk h1
            have HLT1 := Aside0.mk h2
            have C3 : Aside0 (∀ W, Below w.heap.size w W → Calls Try.prog 121 #[.slice A0 l0.length c0, .int .i64 x] W fun e w' => e = .returned (.agg #[.int .i64 ((overF l0 x).f0), .int .i64 ((overF l0 x).f1), .int .i64 ((overF l0 x).f2)]) ∧ Below W.heap.size W w') := ⟨fun W hB => ref_over.calls A0 c0 l0 x W (Kd.C_below HR0.out hB) HG.out HI.out.1 HLT0.out⟩
            have C4 : Aside0 (∀ W, Below w.heap.size w W → Calls Try.prog 121 #[.slice A1 l1.length c1, .int .i64 x] W fun e w' => e = .returned (.agg #[.int .i64 ((overF l1 x).f0), .int .i64 ((overF l1 x).f1), .int .i64 ((overF l1 x).f2)]) ∧ Below W.heap.size W w') := ⟨fun W hB => ref_over.calls A1 c1 l1 x W (Kd.C_below HR1.out hB) HG1.out HI.out.1 HLT1.out⟩
            clear h1 h2
            go_wp2_with fail
            refine (C3.out _ HB.out).mono ?_
            rintro e v3 ⟨rfl, hb⟩
            replace hb := nb_ HB hb
            replace HB := bs_ HB hb
            clear hb
            go_wp2_with fail
            refine (C4.out _ HB.out).mono ?_
            rintro e v4 ⟨rfl, hb⟩
            replace hb := nb_ HB hb
            replace HB := bs_ HB hb
            clear hb
            clear C3 C4
            have HM : Aside0 (wrap64 ((overF l1 x).f2 * (overF l0 x).f0) = (overF l1 x).f2 * (overF l0 x).f0 ∧ wrap64 ((overF l0 x).f2 * (overF l1 x).f0) = (overF l0 x).f2 * (overF l1 x).f0) := ⟨by
              have r0 := over_bd HG.out HI.out.1 HLT0.out
              have r1 := over_bd HG1.out HI.out.1 HLT1.out
              have m1 := mul_b r1.2.2.1 r1.2.2.2 r0.1 r0.2.1
              have m2 := mul_b r0.2.2.1 r0.2.2.2 r1.1 r1.2.1
              exact ⟨wrp_ (by omega) (by omega), wrp_ (by omega) (by omega)⟩⟩
            have EW : wrap64 (x + 1) = x + 1 := by have := HI.out; have := HS.out; exact wrp_ (by omega) (by omega)
            go_upto_region 11 with (first | ((with_reducible refine gate_dst (N := 9) rfl ?_); refine bx_ 9 #[.int .i64 0, .int .i64 0, .int .i64 0] 79 ?_; intro ga hg v5 hbox hb; have GEga := ge_ hg HB; replace hb := nb_ HB hb; replace HB := bs_ HB hb; have BKga := Aside0.mk hbox; obtain ⟨Oga_0, Oga_1, Oga_2⟩ := c3_ BKga; clear hb hbox hg) | ((with_reducible refine gate_dst (N := 10) rfl ?_); refine bx_ 10 #[.int .i64 0, .int .i64 0, .int .i64 0] 79 ?_; intro gb2 hg v6 hbox hb; have GEgb2 := ge_ hg HB; have NEga_gb2 := ne_ hg BKga; replace hb := nb_ HB hb; replace BKga := kb_ BKga hb; replace HB := bs_ HB hb; clear Oga_0 Oga_1 Oga_2; obtain ⟨Oga_0, Oga_1, Oga_2⟩ := c3_ BKga; have BKgb2 := Aside0.mk hbox; clear Oga_0 Oga_1 Oga_2; obtain ⟨Oga_0, Oga_1, Oga_2⟩ := c3_ BKga; obtain ⟨Ogb2_0, Ogb2_1, Ogb2_2⟩ := c3_ BKgb2; clear hb hbox hg) | ((with_reducible refine gate_store (t := 79) (p := 9) rfl ?_); have hc_ := cf3_ BKga; refine st3_ ?_; intro v7 hp_; clear hc_; clear Oga_0 Oga_1 Oga_2 Ogb2_0 Ogb2_1 Ogb2_2; replace BKga := pp3_ BKga hp_; replace BKgb2 := pf3r_ NEga_gb2 BKgb2 hp_; replace HB := pb3_ GEga HB hp_; clear hp_; obtain ⟨Oga_0, Oga_1, Oga_2⟩ := c3_ BKga; obtain ⟨Ogb2_0, Ogb2_1, Ogb2_2⟩ := c3_ BKgb2) | ((with_reducible refine gate_store (t := 79) (p := 10) rfl ?_); have hc_ := cf3_ BKgb2; refine st3_ ?_; intro v8 hp_; clear hc_; clear Oga_0 Oga_1 Oga_2 Ogb2_0 Ogb2_1 Ogb2_2; replace BKga := pf3_ NEga_gb2 BKga hp_; replace BKgb2 := pp3_ BKgb2 hp_; replace HB := pb3_ GEgb2 HB hp_; clear hp_; obtain ⟨Oga_0, Oga_1, Oga_2⟩ := c3_ BKga; obtain ⟨Ogb2_0, Ogb2_1, Ogb2_2⟩ := c3_ BKgb2))
            by_cases hc : (overF l1 x).f2 * (overF l0 x).f0 < (overF l0 x).f2 * (overF l1 x).f0
            · have hcd : decide (wrap64 ((overF l1 x).f2 * (overF l0 x).f0) < wrap64 ((overF l0 x).f2 * (overF l1 x).f0)) = true := by rw [HM.out.1, HM.out.2]; exact decide_eq_true hc
              have m1 := HM.out.1
              have m2 := HM.out.2
              have hcd2 : decide ((overF l1 x).f2 * (overF l0 x).f0 < (overF l0 x).f2 * (overF l1 x).f0) = true := decide_eq_true hc
              have HT : Aside0 (slowB l0 l1 = false) := ⟨slow_false HI.out.1 HLT0.out HLT1.out (decide_eq_false (by omega))⟩
              clear hc
              go_wp2
              go_ret2
              exact ⟨by first | (rw [HF.out, HT.out]; done) | (rw [HF.out, HT.out]; rfl), HB.out⟩
            · have hcd : decide (wrap64 ((overF l1 x).f2 * (overF l0 x).f0) < wrap64 ((overF l0 x).f2 * (overF l1 x).f0)) = false := by rw [HM.out.1, HM.out.2]; exact decide_eq_false hc
              have m1 := HM.out.1
              have m2 := HM.out.2
              have hcd2 : decide ((overF l1 x).f2 * (overF l0 x).f0 < (overF l0 x).f2 * (overF l1 x).f0) = false := decide_eq_false hc
              have HP : Aside0 (UpTo l0 l1 (x + 1)) := ⟨fun y h0 h1 => by
                by_cases hy : y < x
                · exact HI.out.2.2.2 y h0 hy
                · obtain rfl : y = x := by omega
                  exact decide_eq_true (by omega)⟩
              clear hc
              go_wp2
              go_roundg (gk - 1)
              case measure => have := HI.out; have := HLT0.out; omega
              case rel => exact ⟨x + 1, by first | rfl | (simp only [*]; done), ⟨by have := HI.out; omega, by have := HLT0.out; omega, by have := HI.out; have := HLT0.out; omega, HP.out⟩, HB⟩
          · have d2 : decide (x < sm (hsO l1)) = false := decide_eq_false h2
            have HT : Aside0 (slowB l0 l1 = true) := ⟨slow_true HI.out.2.2.2 (by omega)⟩
            clear h1 h2
            go_wp2
            go_ret2
            exact ⟨by first | (rw [HF.out, HT.out]; done) | (rw [HF.out, HT.out]; rfl), HB.out⟩
        · have d1 : decide (x < sm (hsO l0)) = false := decide_eq_false h1
          have HT : Aside0 (slowB l0 l1 = true) := ⟨slow_true HI.out.2.2.2 (by omega)⟩
          clear h1
          go_wp2
          go_ret2
          exact ⟨by first | (rw [HF.out, HT.out]; done) | (rw [HF.out, HT.out]; rfl), HB.out⟩
end Go.Proofs.Ytlhfclpbodfmcaa.Pr
namespace Go.Proofs.Ytlhfclpbodfmcaa.Pr
open Go.RowKit Go.Proofs.YtlhfclpbodfmcaaW.PrintWords Go.Proofs.YtlhfclpbodfmcaaW.PrintLast Go.Proofs.YtlhfclpbodfmcaaW.PrintMore
open Go.Proofs.Ytlhfclpbodfmcaa.Vm
set_option linter.unusedVariables false
set_option linter.unusedSimpArgs false
attribute [local go_sem] fld79_0 fld79_1 fld79_2 max2_int max_two
def vessel_Slower.T5 : Bool × List (List Nat × List Nat) := (true, [([], []), ([0], [0]), ([1], [1]), ([2], [2]), ([], []), ([4], [4]), ([5], [5]), ([6], [6]), ([3, 0, 1, 2, 3], [3]), ([7, 8, 0, 1, 2, 3, 4, 5, 6, 7, 8], [7])])
def vessel_Slower.B5 : List Nat := [0, 1, 3, 7, 0, 16, 48, 112, 15, 511]
theorem vessel_Slower.tab5 : rtab .any (opsOf Try.f57 5) = vessel_Slower.T5 := by kernel_rfl
theorem vessel_Slower.bits5 : waitsOk vessel_Slower.T5.2 vessel_Slower.B5 = true := by kernel_rfl
def vessel_Slower.T6 : Bool × List (List Nat × List Nat) := (true, [([], []), ([], []), ([0, 1], [0, 1]), ([2], [2]), ([3], [3]), ([], []), ([], []), ([5, 6], [5, 6]), ([7], [7]), ([8], [8]), ([4, 9], [4, 9]), ([], []), ([], []), ([11, 12], [11, 12]), ([13], [13]), ([14], [14]), ([], []), ([], []), ([16, 17], [16, 17]), ([18], [18]), ([19], [19]), ([15, 20], [15, 20]), ([10, 21], [10, 21])])
def vessel_Slower.B6 : List Nat := [0, 0, 3, 7, 15, 0, 0, 96, 224, 480, 1023, 0, 0, 6144, 14336, 30720, 0, 0, 196608, 458752, 983040, 2095104, 4194303]
theorem vessel_Slower.tab6 : rtab .any (opsOf Try.f57 6) = vessel_Slower.T6 := by kernel_rfl
theorem vessel_Slower.bits6 : waitsOk vessel_Slower.T6.2 vessel_Slower.B6 = true := by kernel_rfl
def vessel_Slower.f (l0 l1 : List S79) : Option (Bool × Int) := some (SlowerF l0 l1)
set_option maxHeartbeats 1600000 in
set_option maxRecDepth 100000 in
theorem vessel_Slower.run (A0 : Option Addr) (c0 : Nat) (l0 : List S79) (A1 : Option Addr) (c1 : Nat) (l1 : List S79) (w : World) (hr0 : Kd.C k79 w A0 l0.length l0) (hc0 : l0.length ≤ c0) (hr1 : Kd.C k79 w A1 l1.length l1) (hc1 : l1.length ≤ c1) : Calls Try.prog 57 #[.slice A0 l0.length c0, .slice A1 l1.length c1] w fun e w' => e = .returned (.tuple #[.bool (SlowerF l0 l1).1, .int .i64 (SlowerF l0 l1).2]) ∧ Below w.heap.size w w' := by
  have hu79 := Try.underlying79
  have HR0 := Aside0.mk hr0
  have HR1 := Aside0.mk hr1
  have HC0 := Aside0.mk hc0
  have HC1 := Aside0.mk hc1
  clear hr0 hr1 hc0 hc1
  have HB := Aside0.mk (Below.refl w.heap.size w)
  by_cases hv : validB l0 = true
  · by_cases hu : validB l1 = true
    · have HF : Aside0 (SlowerF l0 l1 = (slowB l0 l1, 0)) := ⟨by unfold SlowerF; rw [if_pos hv, if_pos hu]⟩
      have HK : Aside0 (vessel_checked.f 40 [l0, l1] = some 0) := ⟨checked_good hv hu⟩
      have HG : Aside0 (GV (hsO l0) (vsO l0) (dsO l0)) := ⟨valid_GV hv⟩
      have HG1 : Aside0 (GV (hsO l1) (vsO l1) (dsO l1)) := ⟨valid_GV hu⟩
      have hn0 : 0 < l0.length := by have := HG.out.h.ne; rw [List.length_map] at this; omega
      have hn1 : 0 < l1.length := by have := HG1.out.h.ne; rw [List.length_map] at this; omega
      have HLN : Aside0 (l0.length ≤ 24 ∧ l1.length ≤ 24) := ⟨by have h0 := HG.out.h.ln; have h1 := HG1.out.h.ln; rw [List.length_map] at h0 h1; exact ⟨h0, h1⟩⟩
      clear hv hu
      have hz0 : (0 : Int) < (l0.length : Int) := by omega
      have hz1 : (0 : Int) < (l1.length : Int) := by omega
      obtain ⟨ad, q_, x0_, x1_, x2_⟩ := at_T79 HR0.out 0 (Int.le_refl _) hz0
      subst q_
      obtain ⟨ad2, q_, y0_, y1_, y2_⟩ := at_T79 HR1.out 0 (Int.le_refl _) hz1
      subst q_
      have Z0 : Aside0 (w.cell? ad = some (.int .i64 (rd_T79 l0 ((0 : Nat) : Int)).f0)) := ⟨x0_⟩
      have Z1 : Aside0 (w.cell? ad2 = some (.int .i64 (rd_T79 l1 ((0 : Nat) : Int)).f0)) := ⟨y0_⟩
      clear x0_ x1_ x2_ y0_ y1_ y2_
      have HT0 : Aside0 ((rd_T79 l0 ((0 : Nat) : Int)).f0 = sm ((hsO l0).take (0 + 1))) := ⟨by rw [sm_take_succ _ _ (by simpa using hn0), (rd79_gt l0 0 hn0).1]; simp [sm]⟩
      have HT1 : Aside0 ((rd_T79 l1 ((0 : Nat) : Int)).f0 = sm ((hsO l1).take (0 + 1))) := ⟨by rw [sm_take_succ _ _ (by simpa using hn1), (rd79_gt l1 0 hn1).1]; simp [sm]⟩
      have HN := Aside0.mk (And.intro hn0 hn1)
      go_enter Try.func57, Try.ntmps57
      go_wp2
      go_step3
      go_wp2_with fail
      refine (vessel_checked.calls 40 _ 2 [l0, l1] 0 _ (pair_row (Kd.C_below (kc_ HR0 HB) (ba_ _ _)) HC0.out (Kd.C_below (kc_ HR1 HB) (ba_ _ _)) HC1.out (blk_new _ _)) (by simp) HK.out).mono ?_
      rintro e w1 ⟨rfl, hb⟩
      replace hb := below_step (ba_ _ _) hb
      replace HB := bs_ HB hb
      clear hb
      go_wp2
      replace HB := bd_ HB
      refine sM_ [] (fun w' => w'.cell? ad = some (.int .i64 (rd_T79 l0 ((0 : Nat) : Int)).f0) ∧ w'.cell? ad2 = some (.int .i64 (rd_T79 l1 ((0 : Nat) : Int)).f0)) vessel_Slower.tab5 vessel_Slower.bits5 ⟨pw_cell_below HB.out Z0.out, pw_cell_below HB.out Z1.out⟩ (fun hHeld HT_ HW_ => ?_)
      generalize w1.drew = w2 at HB hHeld ⊢
      refine pM_ HT_ 0 20 1 ?_
      refine pM_ HT_ 1 21 3 ?_
      refine pM_ HT_ 2 22 7 ?_
      refine pM_ HT_ 4 24 23 ?_
      refine pM_ HT_ 5 25 55 ?_
      refine pM_ HT_ 6 26 119 ?_
      refine tM_ HT_ HW_ hHeld 3 23 127 ?_
      refine pM_ HT_ 8 9 383 ?_
      refine tM_ HT_ HW_ hHeld 7 27 511 ?_
      refine pM_ HT_ 9 10 1023 ?_
      refine dM_ HT_ ?_
      clear hn0 hn1 hz0 hz1
      go_wp2
      go_step3
      go_wp2
      go_loopg [7, 8, 9, 10] (l0.length + l1.length) (fun kq v7 v8 v9 v10 w' => ∃ i k : Nat, v7 = .int .i64 (i : Int) ∧ v8 = .int .i64 (k : Int) ∧ v9 = .int .i64 (sm ((hsO l0).take (i + 1))) ∧ v10 = .int .i64 (sm ((hsO l1).take (k + 1))) ∧ Aside0 (i < l0.length ∧ k < l1.length ∧ (l0.length - i) + (l1.length - k) ≤ kq ∧ UpTo l0 l1 (max (sm ((hsO l0).take (i))) (sm ((hsO l1).take (k)))) ∧ sm ((hsO l0).take (i)) < sm ((hsO l1).take (k + 1)) ∧ sm ((hsO l1).take (k)) < sm ((hsO l0).take (i + 1))) ∧ Aside0 (Below w.heap.size w w'))
      case atStart => exact ⟨0, 0, rfl, rfl, congrArg (Value.int .i64) HT0.out, congrArg (Value.int .i64) HT1.out, ⟨HN.out.1, HN.out.2, by omega, fun x h0 h1 => by simp [sm] at h1; omega, by have s := sm_take_succ (hsO l1) 0 (by simpa using HN.out.2); have p := HG1.out.h.pos.gt (r := 0) (by simpa using HN.out.2); simp [sm] at s ⊢; omega, by have s := sm_take_succ (hsO l0) 0 (by simpa using HN.out.1); have p := HG.out.h.pos.gt (r := 0) (by simpa using HN.out.1); simp [sm] at s ⊢; omega⟩, HB⟩
      case round =>
        clear HB
        obtain ⟨i, k, rfl, rfl, rfl, rfl, HI, HB⟩ := hrel
        have hil : i < l0.length := HI.out.1
        have hkl : k < l1.length := HI.out.2.1
        have hi0 : (0 : Int) ≤ (i : Int) := by omega
        have hi1 : (i : Int) < (l0.length : Int) := by omega
        have hk0 : (0 : Int) ≤ (k : Int) := by omega
        have hk1 : (k : Int) < (l1.length : Int) := by omega
        obtain ⟨ad_, q_, x0_, x1_, x2_⟩ := at_T79 HR0.out (i : Int) hi0 hi1
        obtain rfl : ad = ad_ := Option.some.inj q_
        clear q_
        obtain ⟨ad_, q_, y0_, y1_, y2_⟩ := at_T79 HR1.out (k : Int) hk0 hk1
        obtain rfl : ad2 = ad_ := Option.some.inj q_
        clear q_
        simp only [Int.toNat_natCast] at x0_ x1_ x2_ y0_ y1_ y2_
        have X0 := Aside0.mk x0_
        have X2 := Aside0.mk x2_
        have Y0 := Aside0.mk y0_
        have Y2 := Aside0.mk y2_
        clear x0_ x1_ x2_ y0_ y1_ y2_
        have HQ : Aside0 (1 ≤ (rd_T79 l0 (i : Int)).f0 ∧ (rd_T79 l0 (i : Int)).f0 ≤ 1000 ∧ 1 ≤ (rd_T79 l0 (i : Int)).f2 ∧ (rd_T79 l0 (i : Int)).f2 ≤ 20000 ∧ 1 ≤ (rd_T79 l1 (k : Int)).f0 ∧ (rd_T79 l1 (k : Int)).f0 ≤ 1000 ∧ 1 ≤ (rd_T79 l1 (k : Int)).f2 ∧ (rd_T79 l1 (k : Int)).f2 ≤ 20000 ∧ sm ((hsO l0).take (i + 1)) = sm ((hsO l0).take (i)) + (rd_T79 l0 (i : Int)).f0 ∧ sm ((hsO l1).take (k + 1)) = sm ((hsO l1).take (k)) + (rd_T79 l1 (k : Int)).f0 ∧ 0 ≤ sm ((hsO l0).take (i)) ∧ 0 ≤ sm ((hsO l1).take (k)) ∧ sm ((hsO l0).take (i + 1)) ≤ sm (hsO l0) ∧ sm ((hsO l1).take (k + 1)) ≤ sm (hsO l1)) := ⟨by
          obtain ⟨e0, e1, e2⟩ := rd79_gt l0 i hil
          obtain ⟨f0, f1, f2⟩ := rd79_gt l1 k hkl
          have a0 := HG.out.h.gt (r := i) (by simpa using hil)
          have a2 := HG.out.d.gt (r := i) (by simpa using hil)
          have b0 := HG1.out.h.gt (r := k) (by simpa using hkl)
          have b2 := HG1.out.d.gt (r := k) (by simpa using hkl)
          have s0 := sm_take_succ (hsO l0) i (by simpa using hil)
          have s1 := sm_take_succ (hsO l1) k (by simpa using hkl)
          have t0 := take_b HG.out.h.pos i
          have t1 := take_b HG1.out.h.pos k
          have t2 := take_b HG.out.h.pos (i + 1)
          have t3 := take_b HG1.out.h.pos (k + 1)
          rw [e0] at a0 s0
          rw [e2] at a2
          rw [f0] at b0 s1
          rw [f2] at b2
          exact ⟨a0.1, a0.2, a2.1, a2.2, b0.1, b0.2, b2.1, b2.2, s0, s1, t0.1, t1.1, t2.2, t3.2⟩⟩
        have HM : Aside0 (wrap64 ((rd_T79 l1 (k : Int)).f2 * (rd_T79 l0 (i : Int)).f0) = (rd_T79 l1 (k : Int)).f2 * (rd_T79 l0 (i : Int)).f0 ∧ wrap64 ((rd_T79 l0 (i : Int)).f2 * (rd_T79 l1 (k : Int)).f0) = (rd_T79 l0 (i : Int)).f2 * (rd_T79 l1 (k : Int)).f0) := ⟨by
          have q := HQ.out
          have m1 := mul_b q.2.2.2.2.2.2.1 q.2.2.2.2.2.2.2.1 q.1 q.2.1
          have m2 := mul_b q.2.2.1 q.2.2.2.1 q.2.2.2.2.1 q.2.2.2.2.2.1
          exact ⟨wrp_ (by omega) (by omega), wrp_ (by omega) (by omega)⟩⟩
        have hpf := HG.out.h.pos
        have HPF := Aside0.mk (And.intro hpf HG1.out.h.pos)
        clear hpf
        by_cases hc : (rd_T79 l1 (k : Int)).f2 * (rd_T79 l0 (i : Int)).f0 < (rd_T79 l0 (i : Int)).f2 * (rd_T79 l1 (k : Int)).f0
        · have hcd : decide (wrap64 ((rd_T79 l1 (k : Int)).f2 * (rd_T79 l0 (i : Int)).f0) < wrap64 ((rd_T79 l0 (i : Int)).f2 * (rd_T79 l1 (k : Int)).f0)) = true := by rw [HM.out.1, HM.out.2]; exact decide_eq_true hc
          have HT : Aside0 (slowB l0 l1 = false) := ⟨by
            have hh := HI.out
            have q := HQ.out
            have o0 := over_at (x := max (sm ((hsO l0).take (i))) (sm ((hsO l1).take (k)))) HPF.out.1 hil (by omega) (by omega)
            have o1 := over_at (x := max (sm ((hsO l0).take (i))) (sm ((hsO l1).take (k)))) HPF.out.2 hkl (by omega) (by omega)
            exact slow_false (x := max (sm ((hsO l0).take (i))) (sm ((hsO l1).take (k)))) (by omega) (by omega) (by omega) (by rw [o0, o1]; exact decide_eq_false (by omega))⟩
          clear hc
          go_wp2
          replace HB := bd_ HB
          refine sM_ [] (fun w' => w'.cell? (ad.add (i * 3)) = some (.int .i64 (rd_T79 l0 (i : Int)).f0) ∧ w'.cell? ⟨(ad.add (i * 3)).block, (ad.add (i * 3)).off + 2, none⟩ = some (.int .i64 (rd_T79 l0 (i : Int)).f2) ∧ w'.cell? (ad2.add (k * 3)) = some (.int .i64 (rd_T79 l1 (k : Int)).f0) ∧ w'.cell? ⟨(ad2.add (k * 3)).block, (ad2.add (k * 3)).off + 2, none⟩ = some (.int .i64 (rd_T79 l1 (k : Int)).f2)) vessel_Slower.tab6 vessel_Slower.bits6 ⟨pw_cell_below HB.out X0.out, pw_cell_below HB.out X2.out, pw_cell_below HB.out Y0.out, pw_cell_below HB.out Y2.out⟩ (fun hHeld HT_ HW_ => ?_)
          generalize wr.drew = v1 at HB hHeld ⊢
          refine pM_ HT_ 0 28 1 ?_
          refine pM_ HT_ 1 29 3 ?_
          refine pM_ HT_ 2 30 7 ?_
          refine pM_ HT_ 3 31 15 ?_
          refine pM_ HT_ 5 33 47 ?_
          refine pM_ HT_ 6 34 111 ?_
          refine pM_ HT_ 7 35 239 ?_
          refine pM_ HT_ 8 36 495 ?_
          refine pM_ HT_ 11 39 2543 ?_
          refine pM_ HT_ 12 40 6639 ?_
          refine pM_ HT_ 13 41 14831 ?_
          refine pM_ HT_ 14 42 31215 ?_
          refine pM_ HT_ 16 44 96751 ?_
          refine pM_ HT_ 17 45 227823 ?_
          refine pM_ HT_ 18 46 489967 ?_
          refine pM_ HT_ 19 47 1014255 ?_
          refine tM_ HT_ HW_ hHeld 4 32 1014271 ?_
          refine tM_ HT_ HW_ hHeld 9 37 1014783 ?_
          refine pM_ HT_ 10 38 1015807 ?_
          refine tM_ HT_ HW_ hHeld 15 43 1048575 ?_
          refine tM_ HT_ HW_ hHeld 20 48 2097151 ?_
          refine pM_ HT_ 21 49 4194303 ?_
          refine pM_ HT_ 22 50 8388607 ?_
          refine dM_ HT_ ?_
          go_wp2
          try rw [Exit.noGoto_ret]
          go_ret2
          exact ⟨by first | (rw [HF.out, HT.out]; done) | (rw [HF.out, HT.out]; rfl), HB.out⟩
        · have hcd : decide (wrap64 ((rd_T79 l1 (k : Int)).f2 * (rd_T79 l0 (i : Int)).f0) < wrap64 ((rd_T79 l0 (i : Int)).f2 * (rd_T79 l1 (k : Int)).f0)) = false := by rw [HM.out.1, HM.out.2]; exact decide_eq_false hc
          have HPB : Aside0 (pairB (rd_T79 l0 (i : Int)) (rd_T79 l1 (k : Int)) = true) := ⟨decide_eq_true (by omega)⟩
          clear hc
          have HUP : ∀ n, n ≤ sm ((hsO l0).take (i + 1)) → n ≤ sm ((hsO l1).take (k + 1)) → UpTo l0 l1 n := fun n a b => upto_step HPF.out.1 HPF.out.2 hil hkl HI.out.2.2.2.1 (by omega) (by omega) a b HPB.out
          have HUPA := Aside0.mk HUP
          clear HUP
          go_wp2
          replace HB := bd_ HB
          refine sM_ [] (fun w' => w'.cell? (ad.add (i * 3)) = some (.int .i64 (rd_T79 l0 (i : Int)).f0) ∧ w'.cell? ⟨(ad.add (i * 3)).block, (ad.add (i * 3)).off + 2, none⟩ = some (.int .i64 (rd_T79 l0 (i : Int)).f2) ∧ w'.cell? (ad2.add (k * 3)) = some (.int .i64 (rd_T79 l1 (k : Int)).f0) ∧ w'.cell? ⟨(ad2.add (k * 3)).block, (ad2.add (k * 3)).off + 2, none⟩ = some (.int .i64 (rd_T79 l1 (k : Int)).f2)) vessel_Slower.tab6 vessel_Slower.bits6 ⟨pw_cell_below HB.out X0.out, pw_cell_below HB.out X2.out, pw_cell_below HB.out Y0.out, pw_cell_below HB.out Y2.out⟩ (fun hHeld HT_ HW_ => ?_)
          generalize wr.drew = v1 at HB hHeld ⊢
          refine pM_ HT_ 0 28 1 ?_
          refine pM_ HT_ 1 29 3 ?_
          refine pM_ HT_ 2 30 7 ?_
          refine pM_ HT_ 3 31 15 ?_
          refine pM_ HT_ 5 33 47 ?_
          refine pM_ HT_ 6 34 111 ?_
          refine pM_ HT_ 7 35 239 ?_
          refine pM_ HT_ 8 36 495 ?_
          refine pM_ HT_ 11 39 2543 ?_
          refine pM_ HT_ 12 40 6639 ?_
          refine pM_ HT_ 13 41 14831 ?_
          refine pM_ HT_ 14 42 31215 ?_
          refine pM_ HT_ 16 44 96751 ?_
          refine pM_ HT_ 17 45 227823 ?_
          refine pM_ HT_ 18 46 489967 ?_
          refine pM_ HT_ 19 47 1014255 ?_
          refine tM_ HT_ HW_ hHeld 4 32 1014271 ?_
          refine tM_ HT_ HW_ hHeld 9 37 1014783 ?_
          refine pM_ HT_ 10 38 1015807 ?_
          refine tM_ HT_ HW_ hHeld 15 43 1048575 ?_
          refine tM_ HT_ HW_ hHeld 20 48 2097151 ?_
          refine pM_ HT_ 21 49 4194303 ?_
          refine pM_ HT_ 22 50 8388607 ?_
          refine dM_ HT_ ?_
          have EW0 : wrap64 ((i : Int) + 1) = ((i + 1 : Nat) : Int) := by have := HLN.out; rw [wrp_ (by omega) (by omega)]; rfl
          have EW1 : wrap64 ((k : Int) + 1) = ((k + 1 : Nat) : Int) := by have := HLN.out; rw [wrp_ (by omega) (by omega)]; rfl
          have HE0 : Aside0 (i + 1 = l0.length → sm ((hsO l0).take (i + 1)) = sm (hsO l0)) := ⟨fun h => by rw [List.take_of_length_le (by simp; omega)]⟩
          have HE1 : Aside0 (k + 1 = l1.length → sm ((hsO l1).take (k + 1)) = sm (hsO l1)) := ⟨fun h => by rw [List.take_of_length_le (by simp; omega)]⟩
          have hcase : (sm ((hsO l0).take (i + 1)) ≤ sm ((hsO l1).take (k + 1)) ∧ ¬ sm ((hsO l1).take (k + 1)) ≤ sm ((hsO l0).take (i + 1))) ∨ (sm ((hsO l0).take (i + 1)) ≤ sm ((hsO l1).take (k + 1)) ∧ sm ((hsO l1).take (k + 1)) ≤ sm ((hsO l0).take (i + 1))) ∨ (¬ sm ((hsO l0).take (i + 1)) ≤ sm ((hsO l1).take (k + 1)) ∧ sm ((hsO l1).take (k + 1)) ≤ sm ((hsO l0).take (i + 1))) := by omega
          rcases hcase with ⟨t1, t2⟩ | ⟨t1, t2⟩ | ⟨t1, t2⟩
          · have u1 : decide (sm ((hsO l0).take (i + 1)) ≤ sm ((hsO l1).take (k + 1))) = true := decide_eq_true t1
            have u2 : decide (sm ((hsO l1).take (k + 1)) ≤ sm ((hsO l0).take (i + 1))) = false := decide_eq_false t2
            by_cases hi_ : i + 1 = l0.length
            · have fa : (((i + 1 : Nat) : Int) == (l0.length : Int)) = true := beq_iff_eq.2 (by omega)
              have fb : (i + 1 == l0.length) = true := beq_iff_eq.2 (by omega)
              have fc : ((i : Int) + 1 == (l0.length : Int)) = true := beq_iff_eq.2 (by omega)
              have H_ := Aside0.mk hi_
              clear hi_
              have HT : Aside0 (slowB l0 l1 = true) := ⟨slow_true (HUPA.out _ (Int.le_refl _) t1) (by have := HE0.out H_.out; omega)⟩
              go_wp2
              try rw [Exit.noGoto_ret]
              go_ret2
              exact ⟨by first | (rw [HF.out, HT.out]; done) | (rw [HF.out, HT.out]; rfl), HB.out⟩
            · have fa : (((i + 1 : Nat) : Int) == (l0.length : Int)) = false := beq_eq_false_iff_ne.2 (by omega)
              have fb : (i + 1 == l0.length) = false := beq_eq_false_iff_ne.2 (by omega)
              have fc : ((i : Int) + 1 == (l0.length : Int)) = false := beq_eq_false_iff_ne.2 (by omega)
              have hI2 : i + 1 < l0.length := by omega
              have sI : sm ((hsO l0).take (i + 1)) < sm ((hsO l0).take (i + 1 + 1)) := by have s := sm_take_succ (hsO l0) (i + 1) (by simpa using hI2); have p := HPF.out.1.gt (r := i + 1) (by simpa using hI2); omega
              have n0 : (0 : Int) ≤ ((i + 1 : Nat) : Int) := by omega
              have n1 : ((i + 1 : Nat) : Int) < (l0.length : Int) := by omega
              obtain ⟨ad_, q_, z0_, z1_, z2_⟩ := at_T79 HR0.out ((i + 1 : Nat) : Int) n0 n1
              obtain rfl : ad = ad_ := Option.some.inj q_
              simp only [Int.toNat_natCast] at z0_
              have nx := pw_cell_below HB.out z0_
              clear z0_ z1_ z2_ q_
              have ne : wrap64 (sm ((hsO l0).take (i + 1)) + (rd_T79 l0 ((i + 1 : Nat) : Int)).f0) = sm ((hsO l0).take (i + 1 + 1)) := by have s := sm_take_succ (hsO l0) (i + 1) (by simpa using hI2); rw [(rd79_gt l0 (i + 1) hI2).1] at s; have b := take_b HG.out.h.pos (i + 1 + 1); have S := HG.out.sums; rw [← s]; exact wrp_ (by omega) (by omega)
              have n2 : (0 : Int) ≤ (i : Int) + 1 := by omega
              have n3 : (i : Int) + 1 < (l0.length : Int) := by omega
              have n5 : ((i : Int) + 1).toNat = i + 1 := by omega
              go_wp2
              go_roundg (gk - 1)
              case measure => have := HI.out; omega
              case rel => exact ⟨i + 1, k, by first | rfl | exact congrArg (Value.int .i64) EW0 | (simp only [*]; done), by first | rfl | exact congrArg (Value.int .i64) EW1 | (simp only [*]; done), by first | rfl | exact congrArg (Value.int .i64) ne | (simp only [*]; done) | skip, by first | rfl | exact congrArg (Value.int .i64) me | (simp only [*]; done) | skip, ⟨by omega, by omega, by have := HI.out; omega, by rw [show max (sm ((hsO l0).take (i + 1))) (sm ((hsO l1).take (k))) = sm ((hsO l0).take (i + 1)) by have := HQ.out; have := HI.out; omega]; exact HUPA.out _ (Int.le_refl _) t1, by omega, by have := HI.out; omega⟩, HB⟩
          · have u1 : decide (sm ((hsO l0).take (i + 1)) ≤ sm ((hsO l1).take (k + 1))) = true := decide_eq_true t1
            have u2 : decide (sm ((hsO l1).take (k + 1)) ≤ sm ((hsO l0).take (i + 1))) = true := decide_eq_true t2
            by_cases hi_ : i + 1 = l0.length
            · have fa : (((i + 1 : Nat) : Int) == (l0.length : Int)) = true := beq_iff_eq.2 (by omega)
              have fb : (i + 1 == l0.length) = true := beq_iff_eq.2 (by omega)
              have fc : ((i : Int) + 1 == (l0.length : Int)) = true := beq_iff_eq.2 (by omega)
              have H_ := Aside0.mk hi_
              clear hi_
              have HT : Aside0 (slowB l0 l1 = true) := ⟨slow_true (HUPA.out _ (Int.le_refl _) t1) (by have := HE0.out H_.out; omega)⟩
              go_wp2
              try rw [Exit.noGoto_ret]
              go_ret2
              exact ⟨by first | (rw [HF.out, HT.out]; done) | (rw [HF.out, HT.out]; rfl), HB.out⟩
            · have fa : (((i + 1 : Nat) : Int) == (l0.length : Int)) = false := beq_eq_false_iff_ne.2 (by omega)
              have fb : (i + 1 == l0.length) = false := beq_eq_false_iff_ne.2 (by omega)
              have fc : ((i : Int) + 1 == (l0.length : Int)) = false := beq_eq_false_iff_ne.2 (by omega)
              have hI2 : i + 1 < l0.length := by omega
              have sI : sm ((hsO l0).take (i + 1)) < sm ((hsO l0).take (i + 1 + 1)) := by have s := sm_take_succ (hsO l0) (i + 1) (by simpa using hI2); have p := HPF.out.1.gt (r := i + 1) (by simpa using hI2); omega
              have n0 : (0 : Int) ≤ ((i + 1 : Nat) : Int) := by omega
              have n1 : ((i + 1 : Nat) : Int) < (l0.length : Int) := by omega
              obtain ⟨ad_, q_, z0_, z1_, z2_⟩ := at_T79 HR0.out ((i + 1 : Nat) : Int) n0 n1
              obtain rfl : ad = ad_ := Option.some.inj q_
              simp only [Int.toNat_natCast] at z0_
              have nx := pw_cell_below HB.out z0_
              clear z0_ z1_ z2_ q_
              have ne : wrap64 (sm ((hsO l0).take (i + 1)) + (rd_T79 l0 ((i + 1 : Nat) : Int)).f0) = sm ((hsO l0).take (i + 1 + 1)) := by have s := sm_take_succ (hsO l0) (i + 1) (by simpa using hI2); rw [(rd79_gt l0 (i + 1) hI2).1] at s; have b := take_b HG.out.h.pos (i + 1 + 1); have S := HG.out.sums; rw [← s]; exact wrp_ (by omega) (by omega)
              have n2 : (0 : Int) ≤ (i : Int) + 1 := by omega
              have n3 : (i : Int) + 1 < (l0.length : Int) := by omega
              have n5 : ((i : Int) + 1).toNat = i + 1 := by omega
              by_cases hk_ : k + 1 = l1.length
              · have ga : (((k + 1 : Nat) : Int) == (l1.length : Int)) = true := beq_iff_eq.2 (by omega)
                have gb : (k + 1 == l1.length) = true := beq_iff_eq.2 (by omega)
                have gc : ((k : Int) + 1 == (l1.length : Int)) = true := beq_iff_eq.2 (by omega)
                have H_ := Aside0.mk hk_
                clear hk_
                have HT : Aside0 (slowB l0 l1 = true) := ⟨slow_true (HUPA.out _ (Int.le_refl _) t1) (by have := HE1.out H_.out; omega)⟩
                go_wp2
                try rw [Exit.noGoto_ret]
                go_ret2
                exact ⟨by first | (rw [HF.out, HT.out]; done) | (rw [HF.out, HT.out]; rfl), HB.out⟩
              · have ga : (((k + 1 : Nat) : Int) == (l1.length : Int)) = false := beq_eq_false_iff_ne.2 (by omega)
                have gb : (k + 1 == l1.length) = false := beq_eq_false_iff_ne.2 (by omega)
                have gc : ((k : Int) + 1 == (l1.length : Int)) = false := beq_eq_false_iff_ne.2 (by omega)
                have hK2 : k + 1 < l1.length := by omega
                have sK : sm ((hsO l1).take (k + 1)) < sm ((hsO l1).take (k + 1 + 1)) := by have s := sm_take_succ (hsO l1) (k + 1) (by simpa using hK2); have p := HPF.out.2.gt (r := k + 1) (by simpa using hK2); omega
                have m0 : (0 : Int) ≤ ((k + 1 : Nat) : Int) := by omega
                have m1 : ((k + 1 : Nat) : Int) < (l1.length : Int) := by omega
                obtain ⟨ad_, q_, z0_, z1_, z2_⟩ := at_T79 HR1.out ((k + 1 : Nat) : Int) m0 m1
                obtain rfl : ad2 = ad_ := Option.some.inj q_
                simp only [Int.toNat_natCast] at z0_
                have mx := pw_cell_below HB.out z0_
                clear z0_ z1_ z2_ q_
                have me : wrap64 (sm ((hsO l1).take (k + 1)) + (rd_T79 l1 ((k + 1 : Nat) : Int)).f0) = sm ((hsO l1).take (k + 1 + 1)) := by have s := sm_take_succ (hsO l1) (k + 1) (by simpa using hK2); rw [(rd79_gt l1 (k + 1) hK2).1] at s; have b := take_b HG1.out.h.pos (k + 1 + 1); have S := HG1.out.sums; rw [← s]; exact wrp_ (by omega) (by omega)
                have m2 : (0 : Int) ≤ (k : Int) + 1 := by omega
                have m3 : (k : Int) + 1 < (l1.length : Int) := by omega
                have m5 : ((k : Int) + 1).toNat = k + 1 := by omega
                go_wp2
                go_roundg (gk - 1)
                case measure => have := HI.out; omega
                case rel => exact ⟨i + 1, k + 1, by first | rfl | exact congrArg (Value.int .i64) EW0 | (simp only [*]; done), by first | rfl | exact congrArg (Value.int .i64) EW1 | (simp only [*]; done), by first | rfl | exact congrArg (Value.int .i64) ne | (simp only [*]; done) | skip, by first | rfl | exact congrArg (Value.int .i64) me | (simp only [*]; done) | skip, ⟨by omega, by omega, by have := HI.out; omega, by rw [show max (sm ((hsO l0).take (i + 1))) (sm ((hsO l1).take (k + 1))) = sm ((hsO l0).take (i + 1)) by omega]; exact HUPA.out _ (Int.le_refl _) t1, by omega, by omega⟩, HB⟩
          · have u1 : decide (sm ((hsO l0).take (i + 1)) ≤ sm ((hsO l1).take (k + 1))) = false := decide_eq_false t1
            have u2 : decide (sm ((hsO l1).take (k + 1)) ≤ sm ((hsO l0).take (i + 1))) = true := decide_eq_true t2
            by_cases hk_ : k + 1 = l1.length
            · have ga : (((k + 1 : Nat) : Int) == (l1.length : Int)) = true := beq_iff_eq.2 (by omega)
              have gb : (k + 1 == l1.length) = true := beq_iff_eq.2 (by omega)
              have gc : ((k : Int) + 1 == (l1.length : Int)) = true := beq_iff_eq.2 (by omega)
              have H_ := Aside0.mk hk_
              clear hk_
              have HT : Aside0 (slowB l0 l1 = true) := ⟨slow_true (HUPA.out _ t2 (Int.le_refl _)) (by have := HE1.out H_.out; omega)⟩
              go_wp2
              try rw [Exit.noGoto_ret]
              go_ret2
              exact ⟨by first | (rw [HF.out, HT.out]; done) | (rw [HF.out, HT.out]; rfl), HB.out⟩
            · have ga : (((k + 1 : Nat) : Int) == (l1.length : Int)) = false := beq_eq_false_iff_ne.2 (by omega)
              have gb : (k + 1 == l1.length) = false := beq_eq_false_iff_ne.2 (by omega)
              have gc : ((k : Int) + 1 == (l1.length : Int)) = false := beq_eq_false_iff_ne.2 (by omega)
              have hK2 : k + 1 < l1.length := by omega
              have sK : sm ((hsO l1).take (k + 1)) < sm ((hsO l1).take (k + 1 + 1)) := by have s := sm_take_succ (hsO l1) (k + 1) (by simpa using hK2); have p := HPF.out.2.gt (r := k + 1) (by simpa using hK2); omega
              have m0 : (0 : Int) ≤ ((k + 1 : Nat) : Int) := by omega
              have m1 : ((k + 1 : Nat) : Int) < (l1.length : Int) := by omega
              obtain ⟨ad_, q_, z0_, z1_, z2_⟩ := at_T79 HR1.out ((k + 1 : Nat) : Int) m0 m1
              obtain rfl : ad2 = ad_ := Option.some.inj q_
              simp only [Int.toNat_natCast] at z0_
              have mx := pw_cell_below HB.out z0_
              clear z0_ z1_ z2_ q_
              have me : wrap64 (sm ((hsO l1).take (k + 1)) + (rd_T79 l1 ((k + 1 : Nat) : Int)).f0) = sm ((hsO l1).take (k + 1 + 1)) := by have s := sm_take_succ (hsO l1) (k + 1) (by simpa using hK2); rw [(rd79_gt l1 (k + 1) hK2).1] at s; have b := take_b HG1.out.h.pos (k + 1 + 1); have S := HG1.out.sums; rw [← s]; exact wrp_ (by omega) (by omega)
              have m2 : (0 : Int) ≤ (k : Int) + 1 := by omega
              have m3 : (k : Int) + 1 < (l1.length : Int) := by omega
              have m5 : ((k : Int) + 1).toNat = k + 1 := by omega
              go_wp2
              go_roundg (gk - 1)
              case measure => have := HI.out; omega
              case rel => exact ⟨i, k + 1, by first | rfl | exact congrArg (Value.int .i64) EW0 | (simp only [*]; done), by first | rfl | exact congrArg (Value.int .i64) EW1 | (simp only [*]; done), by first | rfl | exact congrArg (Value.int .i64) ne | (simp only [*]; done) | skip, by first | rfl | exact congrArg (Value.int .i64) me | (simp only [*]; done) | skip, ⟨by omega, by omega, by have := HI.out; omega, by rw [show max (sm ((hsO l0).take (i))) (sm ((hsO l1).take (k + 1))) = sm ((hsO l1).take (k + 1)) by have := HQ.out; have := HI.out; omega]; exact HUPA.out _ t2 (Int.le_refl _), by have := HI.out; omega, by omega⟩, HB⟩
    · have HF : Aside0 (SlowerF l0 l1 = (false, 20)) := ⟨by unfold SlowerF; rw [if_pos hv, if_neg hu]⟩
      have HK : Aside0 (vessel_checked.f 40 [l0, l1] = some 20) := ⟨checked_bad2 hv hu⟩
      clear hv hu
      go_enter Try.func57, Try.ntmps57
      go_wp2
      go_step3
      go_wp2_with fail
      refine (vessel_checked.calls 40 _ 2 [l0, l1] 20 _ (pair_row (Kd.C_below (kc_ HR0 HB) (ba_ _ _)) HC0.out (Kd.C_below (kc_ HR1 HB) (ba_ _ _)) HC1.out (blk_new _ _)) (by simp) HK.out).mono ?_
      rintro e w1 ⟨rfl, hb⟩
      replace hb := below_step (ba_ _ _) hb
      replace HB := bs_ HB hb
      clear hb
      go_wp2
      try rw [Exit.noGoto_ret]
      go_ret2
      exact ⟨by first | (rw [HF.out]; done) | (rw [HF.out]; rfl), HB.out⟩
  · have HF : Aside0 (SlowerF l0 l1 = (false, 20)) := ⟨by unfold SlowerF; rw [if_neg hv]⟩
    have HK : Aside0 (vessel_checked.f 40 [l0, l1] = some 20) := ⟨checked_bad1 hv⟩
    clear hv
    go_enter Try.func57, Try.ntmps57
    go_wp2
    go_step3
    go_wp2_with fail
    refine (vessel_checked.calls 40 _ 2 [l0, l1] 20 _ (pair_row (Kd.C_below (kc_ HR0 HB) (ba_ _ _)) HC0.out (Kd.C_below (kc_ HR1 HB) (ba_ _ _)) HC1.out (blk_new _ _)) (by simp) HK.out).mono ?_
    rintro e w1 ⟨rfl, hb⟩
    replace hb := below_step (ba_ _ _) hb
    replace HB := bs_ HB hb
    clear hb
    go_wp2
    try rw [Exit.noGoto_ret]
    go_ret2
    exact ⟨by first | (rw [HF.out]; done) | (rw [HF.out]; rfl), HB.out⟩
theorem vessel_Slower.calls (A0 : Option Addr) (c0 : Nat) (l0 : List S79) (A1 : Option Addr) (c1 : Nat) (l1 : List S79) (r1 : Bool) (r2 : Int) (w : World) (hr0 : Kd.C k79 w A0 l0.length l0) (hc0 : l0.length ≤ c0) (hr1 : Kd.C k79 w A1 l1.length l1) (hc1 : l1.length ≤ c1) (h : vessel_Slower.f l0 l1 = some (r1, r2)) :
    Calls Try.prog 57 #[.slice A0 l0.length c0, .slice A1 l1.length c1] w fun e w' => e = .returned (.tuple #[.bool r1, .int .i64 r2]) ∧ Below w.heap.size w w' := by
  have e : SlowerF l0 l1 = (r1, r2) := Option.some.inj h
  have := vessel_Slower.run A0 c0 l0 A1 c1 l1 w hr0 hc0 hr1 hc1
  rwa [e] at this
end Go.Proofs.Ytlhfclpbodfmcaa.Pr
namespace Go.Proofs.Ytlhfclpbodfmcaa.Pr
open Go.RowKit Go.Proofs.YtlhfclpbodfmcaaW.PrintWords Go.Proofs.YtlhfclpbodfmcaaW.PrintLast Go.Proofs.YtlhfclpbodfmcaaW.PrintMore
theorem eq27_self (l : List S27) (hl : l.length ≤ 200) : api_Span_59.f 300 l l = some true := by
  have key : ∀ (n i k : Nat), n + i = l.length → n < k → api_Span_59.l0 k l l (l.length : Int) (i : Int) = some true := by
    intro n
    induction n with
    | zero =>
      intro i k h hk
      obtain ⟨k, rfl⟩ : ∃ m, k = m + 1 := ⟨k - 1, by omega⟩
      simp only [api_Span_59.l0]
      rw [if_neg (by omega)]
    | succ n ih =>
      intro i k h hk
      obtain ⟨k, rfl⟩ : ∃ m, k = m + 1 := ⟨k - 1, by omega⟩
      simp only [api_Span_59.l0]
      rw [if_pos (by omega), if_pos (by omega), if_pos (by omega), if_pos (by omega), if_neg (by simp), wr (by omega) (by omega)]
      exact ih (i + 1) k (by omega) (by omega)
  unfold api_Span_59.f
  rw [if_pos rfl]
  exact key l.length 0 300 (by omega) (by omega)
end Go.Proofs.Ytlhfclpbodfmcaa.Pr
