/- A part of the proof: Kq, Ra, Tp, Rb, Rc, Re, Rd, Lb, Lc, Rf, Rg, Rl, Kl, Rh, Rm, Rn. -/
import Derived.Test.YtlhfclpbodfmcaaXLb
import Derived.Test.YtlhfclpbodfmcaaYWVm
namespace Go.Proofs.Ytlhfclpbodfmcaa.Pr
open Go.RowKit Go.Proofs.YtlhfclpbodfmcaaW.PrintWords Go.Proofs.YtlhfclpbodfmcaaW.PrintLast Go.Proofs.YtlhfclpbodfmcaaW.PrintMore
set_option linter.unusedVariables false
section
variable {P : Program} {ops : Array Oper} {Q : Exit → Act → World → Prop} {md : Region.Mode} {S : World → Prop} {ds : List Nat}
end
theorem fb_ {n : Nat} {w W X : World} (HB : Aside0 (Below n w W)) (h : Below W.heap.size W X := by repeat (first | exact Below.refl _ _ | apply below_alloc | apply pw_below_drewN | apply below_drew1)) (hn : n ≤ W.heap.size := by first | exact HB.out.size | exact Nat.le_refl _) : Below n w X := HB.out.trans (h.mono hn)
section
variable {P : Program} {ops : Array Oper} {Q : Exit → Act → World → Prop}
end
end Go.Proofs.Ytlhfclpbodfmcaa.Pr
namespace Go.Proofs.Ytlhfclpbodfmcaa.Pr
open Go.RowKit Go.Proofs.YtlhfclpbodfmcaaW.PrintWords Go.Proofs.YtlhfclpbodfmcaaW.PrintLast Go.Proofs.YtlhfclpbodfmcaaW.PrintMore
open Go.Proofs.Ytlhfclpbodfmcaa.Vm
set_option linter.unusedVariables false
set_option linter.unusedSimpArgs false
def inB (n lo hi : Int) : Bool := decide (lo ≤ n) && decide (n ≤ hi)
theorem inB_iff {n lo hi : Int} : inB n lo hi = true ↔ lo ≤ n ∧ n ≤ hi := by unfold inB; simp
set_option maxHeartbeats 1600000 in
set_option maxRecDepth 100000 in
theorem ref_within.calls (n lo hi : Int) (w : World) : Calls Try.prog 104 #[.int .i64 n, .int .i64 lo, .int .i64 hi] w fun e w' => e = .returned (.bool (inB n lo hi)) ∧ Below w.heap.size w w' := by
  have HB := Aside0.mk (Below.refl w.heap.size w)
  unfold inB
  cases hd : decide (lo ≤ n)
  all_goals go_enter Try.func104, Try.ntmps104
  all_goals go_wp2
  all_goals go_ret
  all_goals exact ⟨by simp, HB.out⟩
set_option maxHeartbeats 1600000 in
set_option maxRecDepth 100000 in
theorem ref_isRing.calls (r : S79) (w : World) : Calls Try.prog 119 #[.agg #[.int .i64 r.f0, .int .i64 r.f1, .int .i64 r.f2]] w fun e w' => e = .returned (.bool (ringB r)) ∧ Below w.heap.size w w' := by
  have hu79 := Try.underlying79
  have HB := Aside0.mk (Below.refl w.heap.size w)
  have key : ringB r = (inB r.f0 1 1000 && (inB r.f1 1 100000 && inB r.f2 1 20000)) := by
    rw [Bool.eq_iff_iff, ringB_iff, Bool.and_eq_true, Bool.and_eq_true, inB_iff, inB_iff, inB_iff]; constructor <;> (intro h; omega)
  rw [key]
  clear key
  obtain ⟨b0, h0⟩ : ∃ b, inB r.f0 1 1000 = b := ⟨_, rfl⟩
  obtain ⟨b1, h1⟩ : ∃ b, inB r.f1 1 100000 = b := ⟨_, rfl⟩
  obtain ⟨b2, h2⟩ : ∃ b, inB r.f2 1 20000 = b := ⟨_, rfl⟩
  have C0 : Aside0 (∀ W, Calls Try.prog 104 #[.int .i64 r.f0, .int .i64 1, .int .i64 1000] W fun e w' => e = .returned (.bool b0) ∧ Below W.heap.size W w') := ⟨fun W => h0 ▸ ref_within.calls r.f0 1 1000 W⟩
  have C1 : Aside0 (∀ W, Calls Try.prog 104 #[.int .i64 r.f1, .int .i64 1, .int .i64 100000] W fun e w' => e = .returned (.bool b1) ∧ Below W.heap.size W w') := ⟨fun W => h1 ▸ ref_within.calls r.f1 1 100000 W⟩
  have C2 : Aside0 (∀ W, Calls Try.prog 104 #[.int .i64 r.f2, .int .i64 1, .int .i64 20000] W fun e w' => e = .returned (.bool b2) ∧ Below W.heap.size W w') := ⟨fun W => h2 ▸ ref_within.calls r.f2 1 20000 W⟩
  rw [h0, h1, h2]
  clear h0 h1 h2
  go_enter Try.func119, Try.ntmps119
  go_wp2_with (first | ((with_reducible refine gate_dst (N := 1) rfl ?_); refine bx_ 1 #[.int .i64 (r.f0), .int .i64 (r.f1), .int .i64 (r.f2)] 79 ?_; intro gx hg w1 hbox hb; have GEgx := ge_ hg HB; replace hb := nb_ HB hb; replace HB := bs_ HB hb; have BKgx := Aside0.mk hbox; obtain ⟨Ogx_0, Ogx_1, Ogx_2⟩ := c3_ BKgx; clear hb hbox hg))
  go_wp2_with fail
  refine (C0.out _).mono ?_
  rintro e w2 ⟨rfl, hb⟩
  replace hb := nb_ HB hb
  replace BKgx := kb_ BKgx hb
  replace HB := bs_ HB hb
  clear Ogx_0 Ogx_1 Ogx_2
  obtain ⟨Ogx_0, Ogx_1, Ogx_2⟩ := c3_ BKgx
  clear hb
  cases b0
  · go_wp2
    go_ret
    exact ⟨rfl, HB.out⟩
  go_wp2_with fail
  refine (C1.out _).mono ?_
  rintro e w3 ⟨rfl, hb⟩
  replace hb := nb_ HB hb
  replace BKgx := kb_ BKgx hb
  replace HB := bs_ HB hb
  clear Ogx_0 Ogx_1 Ogx_2
  obtain ⟨Ogx_0, Ogx_1, Ogx_2⟩ := c3_ BKgx
  clear hb
  cases b1
  · go_wp2
    go_ret
    exact ⟨rfl, HB.out⟩
  go_wp2_with fail
  refine (C2.out _).mono ?_
  rintro e w4 ⟨rfl, hb⟩
  replace hb := nb_ HB hb
  replace BKgx := kb_ BKgx hb
  replace HB := bs_ HB hb
  clear Ogx_0 Ogx_1 Ogx_2
  obtain ⟨Ogx_0, Ogx_1, Ogx_2⟩ := c3_ BKgx
  clear hb
  go_wp2
  go_ret
  exact ⟨rfl, HB.out⟩
def ref_span.T1 : Bool × List (List Nat × List Nat) := (true, [([], []), ([], []), ([0, 1], [0, 1]), ([], []), ([], []), ([3, 4], [3, 4]), ([5], [5]), ([], []), ([6, 7], [6, 7]), ([2, 8], [2, 8]), ([9, 0, 1, 2, 3, 4, 5, 6, 7, 8, 9], [9])])
def ref_span.B1 : List Nat := [0, 0, 3, 0, 0, 24, 56, 0, 248, 511, 1023]
theorem ref_span.tab1 : rtab .any (opsOf Try.f85 1) = ref_span.T1 := by kernel_rfl
theorem ref_span.bits1 : waitsOk ref_span.T1.2 ref_span.B1 = true := by kernel_rfl
def spanD (n d : Int) : Int × Int := (n / d, (n + d - 1) / d)
set_option maxHeartbeats 1600000 in
set_option maxRecDepth 100000 in
theorem ref_span.calls (n d : Int) (w : World) (n0 : 0 ≤ n) (n1 : n ≤ 1000000000000000000) (d0 : 1 ≤ d) (d1 : d ≤ 1000000000000000000) : Calls Try.prog 85 #[.int .i64 n, .int .i64 d] w fun e w' => e = .returned (.agg #[.int .i64 (spanD n d).1, .int .i64 (spanD n d).2]) ∧ Below w.heap.size w w' := by
  have hu27 := Try.underlying27
  have HB := Aside0.mk (Below.refl w.heap.size w)
  have HE : Aside0 (wrap64 (n.tdiv d) = (spanD n d).1 ∧ wrap64 ((wrap64 (wrap64 (n + d) - 1)).tdiv d) = (spanD n d).2) := ⟨by
    have q0 := Int.ediv_nonneg n0 (show 0 ≤ d by omega)
    have q1 := Int.ediv_le_self d n0
    have q2 := Int.ediv_nonneg (show 0 ≤ n + d - 1 by omega) (show 0 ≤ d by omega)
    have q3 := Int.ediv_le_self d (show 0 ≤ n + d - 1 by omega)
    unfold spanD
    rw [Int.tdiv_eq_ediv_of_nonneg n0, wr (n := n + d) (by omega) (by omega), wr (n := n + d - 1) (by omega) (by omega), Int.tdiv_eq_ediv_of_nonneg (by omega : 0 ≤ n + d - 1), wr (by omega) (by omega), wr (by omega) (by omega)]
    exact ⟨rfl, rfl⟩⟩
  have hz : (d == 0) = false := beq_eq_false_iff_ne.2 (by omega)
  have hz2 : ¬ d = 0 := by omega
  clear n0 n1 d0 d1
  go_enter Try.func85, Try.ntmps85
  go_wp2_with (first | ((with_reducible refine gate_dst (N := 4) rfl ?_); refine bx_ 4 #[.int .i64 0, .int .i64 0] 27 ?_; intro gb hg w1 hbox hb; have GEgb := ge_ hg HB; replace hb := nb_ HB hb; replace HB := bs_ HB hb; have BKgb := Aside0.mk hbox; clear hb hbox hg))
  replace BKgb := kd_ BKgb
  replace HB := bd_ HB
  refine sM_ [10] (fun w' => True) ref_span.tab1 ref_span.bits1 trivial (fun hHeld HT_ HW_ => ?_)
  generalize w1.drew = w2 at BKgb HB hHeld ⊢
  refine pM_ HT_ 0 5 1 ?_
  refine pM_ HT_ 1 6 3 ?_
  refine pM_ HT_ 2 7 7 ?_
  refine pM_ HT_ 3 8 15 ?_
  refine pM_ HT_ 4 9 31 ?_
  refine pM_ HT_ 5 10 63 ?_
  refine pM_ HT_ 6 11 127 ?_
  refine pM_ HT_ 7 12 255 ?_
  refine pM_ HT_ 8 13 511 ?_
  refine pM_ HT_ 9 14 1023 ?_
  refine lM_ HT_ 10 none 2047 (fun K hK => ?_)
  have hc_ := cf2_ BKgb
  refine sk2_ ?_
  intro ws_ hp_
  clear hc_
  refine hK.out _ _ ?_
  clear hK K
  refine dM_ HT_ ?_
  try go_wp2
  refine bodyPost_ret (results_cell_row rfl _ _ gb 27 #[.int .i64 (wrap64 (n.tdiv d)), .int .i64 (wrap64 ((wrap64 (wrap64 (n + d) - 1)).tdiv d))] (0, 0) _ rfl (pp2_ BKgb hp_).out Try.underlying27 rfl (by kernel_rfl)) rfl ?_
  exact ⟨by rw [HE.out.1, HE.out.2], (pb2_ GEgb HB hp_).out⟩
def ref_lowest.T6 : Bool × List (List Nat × List Nat) := (true, [([], []), ([], []), ([], []), ([1, 2], [1, 2]), ([], []), ([], []), ([4, 5], [4, 5]), ([0, 3, 6], [0, 3, 6]), ([7, 0, 1, 2, 3, 4, 5, 6, 7], [7])])
def ref_lowest.B6 : List Nat := [0, 0, 0, 6, 0, 0, 48, 127, 255]
theorem ref_lowest.tab6 : rtab .any (opsOf Try.f131 6) = ref_lowest.T6 := by kernel_rfl
theorem ref_lowest.bits6 : waitsOk ref_lowest.T6.2 ref_lowest.B6 = true := by kernel_rfl
theorem gcd_step {a b : Int} (h : 0 ≤ a) (h2 : 0 ≤ b) : Int.gcd b (a % b) = Int.gcd a b := by
  obtain ⟨m, rfl⟩ := Int.eq_ofNat_of_zero_le h
  obtain ⟨n, rfl⟩ := Int.eq_ofNat_of_zero_le h2
  show Int.gcd (n : Int) ((m % n : Nat) : Int) = _
  rw [Int.gcd_natCast_natCast, Int.gcd_natCast_natCast, Nat.gcd_comm n, ← Nat.gcd_rec, Nat.gcd_comm]
theorem wrp_ {n : Int} (h0 : -9223372036854775808 ≤ n) (h1 : n ≤ 9223372036854775807) : wrap64 n = n := wr h0 h1
set_option maxHeartbeats 1600000 in
set_option maxRecDepth 100000 in
theorem ref_lowest.calls (r n d : Int) (w : World) (n0 : 0 ≤ n) (n1 : n ≤ 1000000000000000000) (d0 : 1 ≤ d) (d1 : d ≤ 1000000000000000000) : Calls Try.prog 131 #[.int .i64 r, .int .i64 n, .int .i64 d] w fun e w' => e = .returned (.agg #[.int .i64 r, .int .i64 (n / (Int.gcd n d : Int)), .int .i64 (d / (Int.gcd n d : Int))]) ∧ Below w.heap.size w w' := by
  have hu96 := Try.underlying96
  have HB := Aside0.mk (Below.refl w.heap.size w)
  have HN := Aside0.mk n0
  have HN1 := Aside0.mk n1
  have HD := Aside0.mk d0
  have HD1 := Aside0.mk d1
  clear n0 n1 d0 d1
  go_enter Try.func131, Try.ntmps131
  go_wp2_with (first | ((with_reducible refine gate_dst (N := 6) rfl ?_); refine bx_ 6 #[.int .i64 0, .int .i64 0, .int .i64 0] 96 ?_; intro gb hg w1 hbox hb; have GEgb := ge_ hg HB; replace hb := nb_ HB hb; replace HB := bs_ HB hb; have BKgb := Aside0.mk hbox; clear hb hbox hg))
  go_loopg [7, 8] d.toNat (fun kq v7 v8 w' => ∃ a b : Int, v7 = .int .i64 a ∧ v8 = .int .i64 b ∧ Aside0 (0 ≤ a ∧ 0 ≤ b ∧ a ≤ 1000000000000000000 ∧ b ≤ 1000000000000000000 ∧ 1 ≤ a + b ∧ Int.gcd a b = Int.gcd n d ∧ b.toNat ≤ kq) ∧ Aside0 (w'.heap[gb]? = some (.cells #[.int .i64 0, .int .i64 0, .int .i64 0] 96 (0, 0))) ∧ Aside0 (Below w.heap.size w w'))
  case atStart => exact ⟨n, d, rfl, rfl, ⟨HN.out, by have := HD.out; omega, HN1.out, HD1.out, by have := HN.out; have := HD.out; omega, rfl, Nat.le_refl _⟩, BKgb, HB⟩
  case round =>
    clear BKgb HB
    obtain ⟨a, b, rfl, rfl, HI, BKgb, HB⟩ := hrel
    obtain ⟨h1, h2, h3, h4, h5, h6, h7⟩ := HI.out
    by_cases hb0 : b = 0
    · have hz : (b == 0) = true := beq_iff_eq.2 hb0
      have hz2 : (b != 0) = false := bne_eq_false_iff_eq.2 hb0
      have hga : a = (Int.gcd n d : Int) := by rw [← h6, hb0, Int.gcd_zero_right]; omega
      have HE : Aside0 (wrap64 (n.tdiv a) = n / (Int.gcd n d : Int) ∧ wrap64 (d.tdiv a) = d / (Int.gcd n d : Int)) := ⟨by
        have n0 := HN.out
        have n1 := HN1.out
        have d0 := HD.out
        have d1 := HD1.out
        have q0 := Int.ediv_nonneg n0 h1
        have q1 := Int.ediv_le_self a n0
        have q2 := Int.ediv_nonneg (show 0 ≤ d by omega) h1
        have q3 := Int.ediv_le_self a (show 0 ≤ d by omega)
        rw [Int.tdiv_eq_ediv_of_nonneg n0, Int.tdiv_eq_ediv_of_nonneg (by omega : 0 ≤ d), wrp_ (by omega) (by omega), wrp_ (by omega) (by omega), ← hga]
        exact ⟨rfl, rfl⟩⟩
      have ha : (a == 0) = false := beq_eq_false_iff_ne.2 (by omega)
      have ha2 : ¬ a = 0 := by omega
      clear hga hb0 h1 h2 h3 h4 h5 h6 h7 HI
      try go_wp2
      replace BKgb := kd_ BKgb
      replace HB := bd_ HB
      refine sM_ [8] (fun w' => True) ref_lowest.tab6 ref_lowest.bits6 trivial (fun hHeld HT_ HW_ => ?_)
      generalize wr.drew = w2 at BKgb HB hHeld ⊢
      refine pM_ HT_ 0 19 1 ?_
      refine pM_ HT_ 1 20 3 ?_
      refine pM_ HT_ 2 21 7 ?_
      refine pM_ HT_ 3 22 15 ?_
      refine pM_ HT_ 4 23 31 ?_
      refine pM_ HT_ 5 24 63 ?_
      refine pM_ HT_ 6 25 127 ?_
      refine pM_ HT_ 7 26 255 ?_
      refine lM_ HT_ 8 none 511 (fun K hK => ?_)
      have hc_ := cf3_ BKgb
      refine sk3_ ?_
      intro ws_ hp_
      clear hc_
      refine hK.out _ _ ?_
      clear hK K
      refine dM_ HT_ ?_
      try go_wp2
      refine bodyPost_ret (results_cell_row rfl _ _ gb 96 #[.int .i64 r, .int .i64 (wrap64 (n.tdiv a)), .int .i64 (wrap64 (d.tdiv a))] (0, 0) _ rfl (pp3_ BKgb hp_).out Try.underlying96 rfl (by kernel_rfl)) rfl ?_
      exact ⟨by rw [HE.out.1, HE.out.2], (pb3_ GEgb HB hp_).out⟩
    · have hz : (b == 0) = false := beq_eq_false_iff_ne.2 hb0
      have hz2 : (b != 0) = true := bne_iff_ne.2 hb0
      have m0 := Int.emod_nonneg a hb0
      have m1 := Int.emod_lt_of_pos a (show 0 < b by omega)
      have et : a.tmod b = a % b := Int.tmod_eq_emod_of_nonneg h1
      have ew : wrap64 (a % b) = a % b := wrp_ (by omega) (by omega)
      have hg := gcd_step h1 h2
      have HX : Aside0 (0 ≤ b ∧ 0 ≤ a % b ∧ b ≤ 1000000000000000000 ∧ a % b ≤ 1000000000000000000 ∧ 1 ≤ b + a % b ∧ Int.gcd b (a % b) = Int.gcd n d ∧ (a % b).toNat ≤ gk - 1 ∧ gk - 1 < gk) := ⟨h2, m0, h4, by omega, by omega, hg.trans h6, by omega, by omega⟩
      clear h1 h2 h3 h4 h5 h6 h7 m0 m1 hg HI
      go_wp2
      go_roundg (gk - 1)
      case measure => have := HX.out; omega
      case rel => exact ⟨b, a % b, rfl, by first | rfl | (simp only [*]; done), ⟨HX.out.1, HX.out.2.1, HX.out.2.2.1, HX.out.2.2.2.1, HX.out.2.2.2.2.1, HX.out.2.2.2.2.2.1, HX.out.2.2.2.2.2.2.1⟩, BKgb, HB⟩
end Go.Proofs.Ytlhfclpbodfmcaa.Pr
namespace Go.Proofs.Ytlhfclpbodfmcaa.Pr
open Go.RowKit Go.Proofs.YtlhfclpbodfmcaaW.PrintWords Go.Proofs.YtlhfclpbodfmcaaW.PrintLast Go.Proofs.YtlhfclpbodfmcaaW.PrintMore
open Go.Proofs.Ytlhfclpbodfmcaa.Vm
theorem above_lt {a : Ex} (ha : a.ok) {n : Int} (h : aboveF a n = true) : (n : Rat) < a.v := by
  unfold aboveF at h
  rw [decide_eq_true_iff] at h
  have d1 : (1 : Int) ≤ a.d := by have := ha.1; have := ha.2; omega
  have hw := w_le_v ha
  rcases h with h | ⟨h, h2⟩
  · have h3 := castLt h
    grind
  · unfold Ex.v
    rw [h]
    have := Rat.mul_pos (castLt h2) (inv_nn (one_le d1))
    rw [Rat.div_def]
    grind
end Go.Proofs.Ytlhfclpbodfmcaa.Pr
namespace Go.Proofs.Ytlhfclpbodfmcaa.Pr
open Go.RowKit Go.Proofs.YtlhfclpbodfmcaaW.PrintWords Go.Proofs.YtlhfclpbodfmcaaW.PrintLast Go.Proofs.YtlhfclpbodfmcaaW.PrintMore
open Go.Proofs.Ytlhfclpbodfmcaa.Vm
set_option linter.unusedVariables false
set_option linter.unusedSimpArgs false
attribute [local go_sem] fld79_0 fld79_1 fld79_2
/-- One cell of a block is set. -/
structure Set1 (W W' : World) (g j : Nat) (u : Value) : Prop where
  e : W.setCell ⟨g, j, none⟩ u = W'
theorem sj_ {P : Program} {ops : Array Oper} {oi : Oper} {a : Act} {Q : Exit → Act → World → Prop} {K : Act → World → Prop} {W : World} {g j : Nat} {u : Value} (h : ∀ W', Set1 W W' g j u → K a W') (hw : Region.wanted oi (yielded ops a.tmps) = true := by rfl) (hN : oi.dst = none := by rfl) (hrun : (execOp a.eval oi).run P W = .ok .skip (W.setCell ⟨g, j, none⟩ u) := by first | (go_simp; done) | (go_simp; rfl)) : if Region.wanted oi (yielded ops a.tmps) = true then Oper.wp P oi a W K Q else K (a.put none undef) W := skip_ hw hN hrun (h _ ⟨rfl⟩)
theorem sp0_ {W W' : World} {g t : Nat} {a b c x : Value} (h : Aside0 (W.heap[g]? = some (.cells #[a, b, c] t (0, 0)))) (p : Set1 W W' g 0 x) : Aside0 (W'.heap[g]? = some (.cells #[x, b, c] t (0, 0))) := ⟨by rw [← p.e]; exact blk_put h.out 0 x rfl⟩
theorem sp1_ {W W' : World} {g t : Nat} {a b c x : Value} (h : Aside0 (W.heap[g]? = some (.cells #[a, b, c] t (0, 0)))) (p : Set1 W W' g 1 x) : Aside0 (W'.heap[g]? = some (.cells #[a, x, c] t (0, 0))) := ⟨by rw [← p.e]; exact blk_put h.out 1 x rfl⟩
theorem sp2_ {W W' : World} {g t : Nat} {a b c x : Value} (h : Aside0 (W.heap[g]? = some (.cells #[a, b, c] t (0, 0)))) (p : Set1 W W' g 2 x) : Aside0 (W'.heap[g]? = some (.cells #[a, b, x] t (0, 0))) := ⟨by rw [← p.e]; exact blk_put h.out 2 x rfl⟩
theorem sf_ {W W' : World} {g k j t : Nat} {cs : Array Value} {x : Value} (n : Aside0 (k ≠ g)) (h : Aside0 (W.heap[k]? = some (.cells cs t (0, 0)))) (p : Set1 W W' g j x) : Aside0 (W'.heap[k]? = some (.cells cs t (0, 0))) := ⟨by rw [← p.e]; exact blk_far (p := ⟨g, j, none⟩) h.out n.out x⟩
theorem sb_ {w W W' : World} {g j : Nat} {x : Value} (n : Aside0 (w.heap.size ≤ g)) (h : Aside0 (Below w.heap.size w W)) (p : Set1 W W' g j x) : Aside0 (Below w.heap.size w W') := ⟨by rw [← p.e]; exact below_set h.out n.out⟩
theorem rd79_gt (l : List S79) (i : Nat) (h : i < l.length) : gt (hsO l) i = (rd_T79 l (i : Int)).f0 ∧ gt (vsO l) i = (rd_T79 l (i : Int)).f1 ∧ gt (dsO l) i = (rd_T79 l (i : Int)).f2 := by
  simp [gt, rd_T79, List.getD_eq_getElem?_getD, List.getElem?_eq_getElem h]
theorem take_b {xs : List Int} (h : Pos xs) (i : Nat) : 0 ≤ sm (xs.take i) ∧ sm (xs.take i) ≤ sm xs := ⟨(h.take i).sum, sm_take_le_all h i⟩
def ref_Sums.T5 : Bool × List (List Nat × List Nat) := (true, [([], []), ([0], [0]), ([], []), ([], []), ([2, 3], [2, 3]), ([4], [4]), ([5], [5]), ([1, 6], [1, 6]), ([0, 1, 2, 3, 4, 5, 6, 7], []), ([8, 7, 0, 1, 2, 3, 4, 5, 6, 7], [7, 8])])
def ref_Sums.B5 : List Nat := [0, 1, 0, 0, 12, 28, 60, 127, 255, 511]
theorem ref_Sums.tab5 : rtab .any (opsOf Try.f91 5) = ref_Sums.T5 := by kernel_rfl
theorem ref_Sums.bits5 : waitsOk ref_Sums.T5.2 ref_Sums.B5 = true := by kernel_rfl
def ref_Sums.T6 : Bool × List (List Nat × List Nat) := (true, [([], []), ([0], [0]), ([], []), ([], []), ([2, 3], [2, 3]), ([4], [4]), ([5], [5]), ([1, 6], [1, 6]), ([0, 1, 2, 3, 4, 5, 6, 7], []), ([8, 7, 0, 1, 2, 3, 4, 5, 6, 7], [7, 8])])
def ref_Sums.B6 : List Nat := [0, 1, 0, 0, 12, 28, 60, 127, 255, 511]
theorem ref_Sums.tab6 : rtab .any (opsOf Try.f91 6) = ref_Sums.T6 := by kernel_rfl
theorem ref_Sums.bits6 : waitsOk ref_Sums.T6.2 ref_Sums.B6 = true := by kernel_rfl
def ref_Sums.T7 : Bool × List (List Nat × List Nat) := (true, [([], []), ([0], [0]), ([], []), ([], []), ([2, 3], [2, 3]), ([4], [4]), ([5], [5]), ([1, 6], [1, 6]), ([0, 1, 2, 3, 4, 5, 6, 7], []), ([8, 7, 0, 1, 2, 3, 4, 5, 6, 7], [7, 8])])
def ref_Sums.B7 : List Nat := [0, 1, 0, 0, 12, 28, 60, 127, 255, 511]
theorem ref_Sums.tab7 : rtab .any (opsOf Try.f91 7) = ref_Sums.T7 := by kernel_rfl
theorem ref_Sums.bits7 : waitsOk ref_Sums.T7.2 ref_Sums.B7 = true := by kernel_rfl
set_option maxHeartbeats 1600000 in
set_option maxRecDepth 100000 in
theorem ref_Sums.calls (A0 : Option Addr) (c0 : Nat) (l0 : List S79) (i : Nat) (w : World) (hr0 : Kd.C k79 w A0 l0.length l0) (hG : GV (hsO l0) (vsO l0) (dsO l0)) (hi : i ≤ l0.length) : Calls Try.prog 91 #[.slice A0 l0.length c0, .int .i64 (i : Int)] w fun e w' => e = .returned (.agg #[.int .i64 (sm ((hsO l0).take i)), .int .i64 (sm ((vsO l0).take i)), .int .i64 (sm ((dsO l0).take i))]) ∧ Below w.heap.size w w' := by
  have hu79 := Try.underlying79
  have HB := Aside0.mk (Below.refl w.heap.size w)
  have HR0 := Aside0.mk hr0
  have HG := Aside0.mk hG
  have HI0 := Aside0.mk hi
  clear hr0 hG hi
  go_enter Try.func91, Try.ntmps91
  go_wp2_with (first | ((with_reducible refine gate_dst (N := 4) rfl ?_); refine bx_ 4 #[.int .i64 0, .int .i64 0, .int .i64 0] 79 ?_; intro gr hg w1 hbox hb; have GEgr := ge_ hg HB; replace hb := nb_ HB hb; replace HB := bs_ HB hb; have BKgr := Aside0.mk hbox; clear hb hbox hg) | ((with_reducible refine gate_dst (N := 5) rfl ?_); refine bx_ 5 #[.int .i64 0, .int .i64 0, .int .i64 0] 79 ?_; intro gs hg w2 hbox hb; have GEgs := ge_ hg HB; have NEgr_gs := ne_ hg BKgr; replace hb := nb_ HB hb; replace BKgr := kb_ BKgr hb; replace HB := bs_ HB hb; have BKgs := Aside0.mk hbox; clear hb hbox hg))
  go_loopg [6] i (fun kq v6 w' => ∃ j : Nat, v6 = .int .i64 (j : Int) ∧ Aside0 (j ≤ i ∧ i - j ≤ kq) ∧ Aside0 (w'.heap[gr]? = some (.cells #[.int .i64 0, .int .i64 0, .int .i64 0] 79 (0, 0))) ∧ Aside0 (w'.heap[gs]? = some (.cells #[.int .i64 (sm ((hsO l0).take j)), .int .i64 (sm ((vsO l0).take j)), .int .i64 (sm ((dsO l0).take j))] 79 (0, 0))) ∧ Aside0 (Below w.heap.size w w'))
  case atStart => exact ⟨0, rfl, ⟨Nat.zero_le _, by omega⟩, BKgr, BKgs, HB⟩
  case round =>
    clear BKgr BKgs HB
    obtain ⟨j, rfl, HJ, BKgr, BKgs, HB⟩ := hrel
    by_cases hj : j < i
    · have hd : decide ((j : Int) < (i : Int)) = true := decide_eq_true (by omega)
      have hd2 : decide (j < i) = true := decide_eq_true hj
      have hjl : j < l0.length := by have := HI0.out; omega
      have hi0 : (0 : Int) ≤ (j : Int) := by omega
      have hi1 : (j : Int) < (l0.length : Int) := by omega
      obtain ⟨ad, q_, x0_, x1_, x2_⟩ := at_T79 HR0.out (j : Int) hi0 hi1
      subst q_
      simp only [Int.toNat_natCast] at x0_ x1_ x2_
      have X0 := Aside0.mk x0_
      have X1 := Aside0.mk x1_
      have X2 := Aside0.mk x2_
      clear x0_ x1_ x2_
      obtain ⟨e0, e1, e2⟩ := rd79_gt l0 j hjl
      have hS := HG.out.sums
      have hln : l0.length ≤ 24 := by have := HG.out.h.ln; simpa using this
      have E0 : Aside0 (wrap64 (sm ((hsO l0).take j) + (rd_T79 l0 (j : Int)).f0) = sm ((hsO l0).take (j + 1))) := ⟨by
        have s1 := sm_take_succ (hsO l0) j (by simpa using hjl)
        have b1 := take_b HG.out.h.pos (j + 1)
        rw [e0] at s1
        rw [← s1, wrp_ (by omega) (by omega)]⟩
      have E1 : Aside0 (wrap64 (sm ((vsO l0).take j) + (rd_T79 l0 (j : Int)).f1) = sm ((vsO l0).take (j + 1))) := ⟨by
        have s1 := sm_take_succ (vsO l0) j (by simpa using hjl)
        have b1 := take_b HG.out.v.pos (j + 1)
        rw [e1] at s1
        rw [← s1, wrp_ (by omega) (by omega)]⟩
      have E2 : Aside0 (wrap64 (sm ((dsO l0).take j) + (rd_T79 l0 (j : Int)).f2) = sm ((dsO l0).take (j + 1))) := ⟨by
        have s1 := sm_take_succ (dsO l0) j (by simpa using hjl)
        have b1 := take_b HG.out.d.pos (j + 1)
        rw [e2] at s1
        rw [← s1, wrp_ (by omega) (by omega)]⟩
      have EW : Aside0 (wrap64 ((j : Int) + 1) = ((j + 1 : Nat) : Int)) := ⟨by rw [wrp_ (by omega) (by omega)]; rfl⟩
      clear e0 e1 e2 hS hln
      go_wp2
      replace BKgr := kd_ BKgr
      replace BKgs := kd_ BKgs
      replace HB := bd_ HB
      refine sM_ [9] (fun w' => (w'.cell? ⟨gs, 0, none⟩ = some (.int .i64 (sm ((hsO l0).take j))) ∧ w'.cell? ⟨gs, 1, none⟩ = some (.int .i64 (sm ((vsO l0).take j))) ∧ w'.cell? ⟨gs, 2, none⟩ = some (.int .i64 (sm ((dsO l0).take j)))) ∧ w'.cell? (ad.add (j * 3)) = some (.int .i64 (rd_T79 l0 (j : Int)).f0)) ref_Sums.tab5 ref_Sums.bits5 ⟨c3_ BKgs, pw_cell_below HB.out X0.out⟩ (fun hHeld HT_ HW_ => ?_)
      generalize wr.drew = x0 at BKgr BKgs HB hHeld ⊢
      refine pM_ HT_ 0 12 1 ?_
      refine pM_ HT_ 2 14 5 ?_
      refine pM_ HT_ 3 15 13 ?_
      refine pM_ HT_ 4 16 29 ?_
      refine pM_ HT_ 5 17 61 ?_
      refine tM_ HT_ HW_ hHeld 1 13 63 ?_
      refine tM_ HT_ HW_ hHeld 6 18 127 ?_
      refine pM_ HT_ 7 19 255 ?_
      refine pM_ HT_ 8 20 511 ?_
      refine lM_ HT_ 9 none 1023 (fun K hK => ?_)
      have hc_ := cf3_ BKgs
      refine sj_ (g := gs) (j := 0) ?_
      intro y0 hp_
      clear hc_
      refine hK.out _ _ ?_
      clear hK K
      refine dM_ HT_ ?_
      replace BKgr := sf_ NEgr_gs BKgr hp_
      replace BKgs := sp0_ BKgs hp_
      replace HB := sb_ GEgs HB hp_
      clear hp_
      rw [E0.out] at BKgs
      go_wp2
      replace BKgr := kd_ BKgr
      replace BKgs := kd_ BKgs
      replace HB := bd_ HB
      refine sM_ [9] (fun w' => (w'.cell? ⟨gs, 0, none⟩ = some (.int .i64 (sm ((hsO l0).take (j + 1)))) ∧ w'.cell? ⟨gs, 1, none⟩ = some (.int .i64 (sm ((vsO l0).take j))) ∧ w'.cell? ⟨gs, 2, none⟩ = some (.int .i64 (sm ((dsO l0).take j)))) ∧ w'.cell? ⟨(ad.add (j * 3)).block, (ad.add (j * 3)).off + 1, none⟩ = some (.int .i64 (rd_T79 l0 (j : Int)).f1)) ref_Sums.tab6 ref_Sums.bits6 ⟨c3_ BKgs, pw_cell_below HB.out X1.out⟩ (fun hHeld HT_ HW_ => ?_)
      generalize y0.drew = x1 at BKgr BKgs HB hHeld ⊢
      refine pM_ HT_ 0 21 1 ?_
      refine pM_ HT_ 2 23 5 ?_
      refine pM_ HT_ 3 24 13 ?_
      refine pM_ HT_ 4 25 29 ?_
      refine pM_ HT_ 5 26 61 ?_
      refine tM_ HT_ HW_ hHeld 1 22 63 ?_
      refine tM_ HT_ HW_ hHeld 6 27 127 ?_
      refine pM_ HT_ 7 28 255 ?_
      refine pM_ HT_ 8 29 511 ?_
      refine lM_ HT_ 9 none 1023 (fun K hK => ?_)
      have hc_ := cf3_ BKgs
      refine sj_ (g := gs) (j := 1) ?_
      intro y1 hp_
      clear hc_
      refine hK.out _ _ ?_
      clear hK K
      refine dM_ HT_ ?_
      replace BKgr := sf_ NEgr_gs BKgr hp_
      replace BKgs := sp1_ BKgs hp_
      replace HB := sb_ GEgs HB hp_
      clear hp_
      rw [E1.out] at BKgs
      go_wp2
      replace BKgr := kd_ BKgr
      replace BKgs := kd_ BKgs
      replace HB := bd_ HB
      refine sM_ [9] (fun w' => (w'.cell? ⟨gs, 0, none⟩ = some (.int .i64 (sm ((hsO l0).take (j + 1)))) ∧ w'.cell? ⟨gs, 1, none⟩ = some (.int .i64 (sm ((vsO l0).take (j + 1)))) ∧ w'.cell? ⟨gs, 2, none⟩ = some (.int .i64 (sm ((dsO l0).take j)))) ∧ w'.cell? ⟨(ad.add (j * 3)).block, (ad.add (j * 3)).off + 2, none⟩ = some (.int .i64 (rd_T79 l0 (j : Int)).f2)) ref_Sums.tab7 ref_Sums.bits7 ⟨c3_ BKgs, pw_cell_below HB.out X2.out⟩ (fun hHeld HT_ HW_ => ?_)
      generalize y1.drew = x2 at BKgr BKgs HB hHeld ⊢
      refine pM_ HT_ 0 30 1 ?_
      refine pM_ HT_ 2 32 5 ?_
      refine pM_ HT_ 3 33 13 ?_
      refine pM_ HT_ 4 34 29 ?_
      refine pM_ HT_ 5 35 61 ?_
      refine tM_ HT_ HW_ hHeld 1 31 63 ?_
      refine tM_ HT_ HW_ hHeld 6 36 127 ?_
      refine pM_ HT_ 7 37 255 ?_
      refine pM_ HT_ 8 38 511 ?_
      refine lM_ HT_ 9 none 1023 (fun K hK => ?_)
      have hc_ := cf3_ BKgs
      refine sj_ (g := gs) (j := 2) ?_
      intro y2 hp_
      clear hc_
      refine hK.out _ _ ?_
      clear hK K
      refine dM_ HT_ ?_
      replace BKgr := sf_ NEgr_gs BKgr hp_
      replace BKgs := sp2_ BKgs hp_
      replace HB := sb_ GEgs HB hp_
      clear hp_
      rw [E2.out] at BKgs
      go_wp2
      go_roundg (gk - 1)
      case measure => have := HJ.out; omega
      case rel => exact ⟨j + 1, by rw [EW.out], ⟨by omega, by have := HJ.out; omega⟩, BKgr, BKgs, HB⟩
    · have hd : decide ((j : Int) < (i : Int)) = false := decide_eq_false (by omega)
      have hd2 : decide (j < i) = false := decide_eq_false hj
      have HJI : Aside0 (j = i) := ⟨by have := HJ.out; omega⟩
      obtain ⟨Ogs_0, Ogs_1, Ogs_2⟩ := c3_ BKgs
      go_wp2_with (first | ((with_reducible refine gate_store (t := 79) (p := 4) rfl ?_); have hc_ := cf3_ BKgr; refine st3_ ?_; intro w3 hp_; clear hc_; clear Ogs_0 Ogs_1 Ogs_2; replace BKgr := pp3_ BKgr hp_; replace BKgs := pf3r_ NEgr_gs BKgs hp_; replace HB := pb3_ GEgr HB hp_; clear hp_; obtain ⟨Ogs_0, Ogs_1, Ogs_2⟩ := c3_ BKgs))
      try go_wp2
      refine bodyPost_ret (results_cell_row rfl _ _ gr 79 #[.int .i64 (sm ((hsO l0).take j)), .int .i64 (sm ((vsO l0).take j)), .int .i64 (sm ((dsO l0).take j))] (0, 0) _ rfl BKgr.out Try.underlying79 rfl (by kernel_rfl)) rfl ?_
      exact ⟨by rw [HJI.out], HB.out⟩
end Go.Proofs.Ytlhfclpbodfmcaa.Pr
namespace Go.Proofs.Ytlhfclpbodfmcaa.Pr
open Go.RowKit Go.Proofs.YtlhfclpbodfmcaaW.PrintWords Go.Proofs.YtlhfclpbodfmcaaW.PrintLast Go.Proofs.YtlhfclpbodfmcaaW.PrintMore
open Go.Proofs.Ytlhfclpbodfmcaa.Vm
set_option linter.unusedVariables false
set_option linter.unusedSimpArgs false
attribute [local go_sem] fld79_0 fld79_1 fld79_2
/-- What belongs to a place, times its d. -/
def timeN (xs : List Int) (p : Pl) : Int := sm (xs.take p.r) * p.d + gt xs p.r * p.n
theorem timeN_v {xs : List Int} {p : Pl} (hd : 1 ≤ p.d) : (timeN xs p : Rat) / (p.d : Rat) = pv xs p := by
  have d1 := one_le hd
  unfold timeN pv
  rw [Rat.intCast_add, Rat.intCast_mul, Rat.intCast_mul]
  grind
theorem timeN_bd {xs : List Int} {B : Int} (h : GoodR xs B) {p : Pl} (hp : p.ok xs.length) : 0 ≤ timeN xs p ∧ timeN xs p ≤ sm xs * p.d := by
  obtain ⟨p0, p1, p2, p3⟩ := hp
  have g := h.pos.gt p0
  have t := take_b h.pos p.r
  have s := sm_take_succ xs p.r p0
  have t2 := take_b h.pos (p.r + 1)
  have m1 := Int.mul_nonneg t.1 (show 0 ≤ p.d by omega)
  have m2 := Int.mul_nonneg (show 0 ≤ gt xs p.r by omega) p1
  have m3 := Int.mul_le_mul_of_nonneg_left p2 (show 0 ≤ gt xs p.r by omega)
  have m4 := Int.mul_le_mul_of_nonneg_right t2.2 (show 0 ≤ p.d by omega)
  rw [s, Int.add_mul] at m4
  unfold timeN
  omega
set_option maxHeartbeats 1600000 in
set_option maxRecDepth 100000 in
theorem ref_high.calls (A0 : Option Addr) (c0 : Nat) (l0 : List S79) (w : World) (hr0 : Kd.C k79 w A0 l0.length l0) (hG : GV (hsO l0) (vsO l0) (dsO l0)) : Calls Try.prog 103 #[.slice A0 l0.length c0] w fun e w' => e = .returned (.int .i64 (sm (hsO l0))) ∧ Below w.heap.size w w' := by
  have HR0 := Aside0.mk hr0
  have HG := Aside0.mk hG
  clear hr0 hG
  have HB := Aside0.mk (Below.refl w.heap.size w)
  have HE : Aside0 (sm ((hsO l0).take l0.length) = sm (hsO l0)) := ⟨by rw [List.take_of_length_le (by simp)]⟩
  have C1 : Aside0 (∀ W, Below w.heap.size w W → Calls Try.prog 91 #[.slice A0 l0.length c0, .int .i64 (l0.length : Int)] W fun e w' => e = .returned (.agg #[.int .i64 (sm ((hsO l0).take l0.length)), .int .i64 (sm ((vsO l0).take l0.length)), .int .i64 (sm ((dsO l0).take l0.length))]) ∧ Below W.heap.size W w') := ⟨fun W hB => ref_Sums.calls A0 c0 l0 l0.length W (Kd.C_below HR0.out hB) HG.out (Nat.le_refl _)⟩
  go_enter Try.func103, Try.ntmps103
  go_wp2_with fail
  refine (C1.out _ HB.out).mono ?_
  rintro e w1 ⟨rfl, hb⟩
  replace HB := bs_ HB hb
  clear hb
  go_wp2
  go_ret
  exact ⟨by first | rfl | (rw [HE.out]; done) | (rw [HE.out]; rfl), HB.out⟩
def ref_Time.T1 : Bool × List (List Nat × List Nat) := (true, [([], []), ([], []), ([1], [1]), ([0, 2], [0, 2]), ([3], [3]), ([], []), ([5], [5]), ([4, 6], [4, 6]), ([], []), ([], []), ([9], [9]), ([8, 10], [8, 10]), ([11], [11]), ([12], [12]), ([], []), ([14], [14]), ([13, 15], [13, 15]), ([7, 16], [7, 16]), ([17, 3, 0, 1, 2, 3, 4, 5, 6, 7, 8, 9, 10, 11, 12, 13, 14, 15, 16, 17], [17])])
def ref_Time.B1 : List Nat := [0, 0, 2, 7, 15, 0, 32, 127, 0, 0, 512, 1792, 3840, 7936, 0, 16384, 65280, 131071, 262143]
theorem ref_Time.tab1 : rtab .any (opsOf Try.f80 1) = ref_Time.T1 := by kernel_rfl
theorem ref_Time.bits1 : waitsOk ref_Time.T1.2 ref_Time.B1 = true := by kernel_rfl
set_option maxHeartbeats 1600000 in
set_option maxRecDepth 100000 in
theorem ref_Time.calls (A0 : Option Addr) (c0 : Nat) (l0 : List S79) (p : Pl) (w : World) (hr0 : Kd.C k79 w A0 l0.length l0) (hG : GV (hsO l0) (vsO l0) (dsO l0)) (hp : p.ok l0.length) (hd : p.d ≤ 1000000000) : Calls Try.prog 80 #[.slice A0 l0.length c0, .agg #[.int .i64 ((p).r : Int), .int .i64 (p).n, .int .i64 (p).d]] w fun e w' => e = .returned (.int .i64 (timeN (dsO l0) p)) ∧ Below w.heap.size w w' := by
  have hu96 := Try.underlying96
  have HR0 := Aside0.mk hr0
  have HG := Aside0.mk hG
  clear hr0 hG
  have HB := Aside0.mk (Below.refl w.heap.size w)
  have hpr : p.r < l0.length := hp.1
  have hi0 : (0 : Int) ≤ (p.r : Int) := by omega
  have hi1 : (p.r : Int) < (l0.length : Int) := by omega
  obtain ⟨ad, q_, x0_, x1_, x2_⟩ := at_T79 HR0.out (p.r : Int) hi0 hi1
  subst q_
  simp only [Int.toNat_natCast] at x0_ x1_ x2_
  have X2 := Aside0.mk x2_
  clear x0_ x1_ x2_
  have HE : Aside0 (wrap64 (wrap64 (sm ((dsO l0).take p.r) * p.d) + wrap64 ((rd_T79 l0 (p.r : Int)).f2 * p.n)) = timeN (dsO l0) p) := ⟨by
    have e := (rd79_gt l0 p.r hpr).2.2
    have hS := HG.out.sums
    have hq : p.ok (dsO l0).length := by simpa using hp
    have tb := timeN_bd HG.out.d hq
    obtain ⟨p0, p1, p2, p3⟩ := hp
    have g := HG.out.d.gt (r := p.r) (by simpa using hpr)
    have t := take_b HG.out.d.pos p.r
    have m1 := Int.mul_nonneg t.1 (show 0 ≤ p.d by omega)
    have m2 := Int.mul_nonneg (show 0 ≤ gt (dsO l0) p.r by omega) p1
    have m5 := Int.mul_le_mul (show sm (dsO l0) ≤ 480000 by omega) hd (by omega) (by omega)
    unfold timeN at tb ⊢
    rw [← e, wrp_ (n := _ * p.d) (by omega) (by omega), wrp_ (n := _ * p.n) (by omega) (by omega), wrp_ (by omega) (by omega)]⟩
  have C1 : Aside0 (∀ W, Below w.heap.size w W → Calls Try.prog 91 #[.slice (some ad) l0.length c0, .int .i64 (p.r : Int)] W fun e w' => e = .returned (.agg #[.int .i64 (sm ((hsO l0).take p.r)), .int .i64 (sm ((vsO l0).take p.r)), .int .i64 (sm ((dsO l0).take p.r))]) ∧ Below W.heap.size W w') := ⟨fun W hB => ref_Sums.calls (some ad) c0 l0 p.r W (Kd.C_below HR0.out hB) HG.out (Nat.le_of_lt hpr)⟩
  clear hp hd
  go_enter Try.func80, Try.ntmps80
  go_wp2_with (first | ((with_reducible refine gate_dst (N := 3) rfl ?_); refine bx_ 3 #[.int .i64 ((p.r : Int)), .int .i64 (p.n), .int .i64 (p.d)] 96 ?_; intro gx hg w1 hbox hb; have GEgx := ge_ hg HB; replace hb := nb_ HB hb; replace HB := bs_ HB hb; have BKgx := Aside0.mk hbox; clear hb hbox hg))
  replace BKgx := kd_ BKgx
  replace HB := bd_ HB
  refine sM_ [] (fun w' => (w'.cell? ⟨gx, 0, none⟩ = some (.int .i64 ((p.r : Int))) ∧ w'.cell? ⟨gx, 1, none⟩ = some (.int .i64 (p.n)) ∧ w'.cell? ⟨gx, 2, none⟩ = some (.int .i64 (p.d))) ∧ w'.cell? ⟨(ad.add (p.r * 3)).block, (ad.add (p.r * 3)).off + 2, none⟩ = some (.int .i64 (rd_T79 l0 (p.r : Int)).f2)) ref_Time.tab1 ref_Time.bits1 ⟨c3_ BKgx, pw_cell_below HB.out X2.out⟩ (fun hHeld HT_ HW_ => ?_)
  generalize w1.drew = w2 at BKgx HB hHeld ⊢
  refine pM_ HT_ 0 5 1 ?_
  refine pM_ HT_ 1 6 3 ?_
  refine pM_ HT_ 5 10 35 ?_
  refine pM_ HT_ 8 13 291 ?_
  refine pM_ HT_ 9 14 803 ?_
  refine pM_ HT_ 14 19 17187 ?_
  refine tM_ HT_ HW_ hHeld 2 7 17191 ?_
  refine tM_ HT_ HW_ hHeld 6 11 17255 ?_
  refine tM_ HT_ HW_ hHeld 10 15 18279 ?_
  refine pM_ HT_ 11 16 20327 ?_
  refine pM_ HT_ 12 17 24423 ?_
  refine tM_ HT_ HW_ hHeld 13 18 32615 ?_
  refine tM_ HT_ HW_ hHeld 15 20 65383 ?_
  refine pM_ HT_ 16 21 130919 ?_
  refine oM_ HT_ 3 (some 8) 130927 (fun K hK => ?_)
  refine gM_ Try.func91 (C1.out _ HB.out) ?_
  rintro e w3 ⟨rfl, hb⟩
  refine ⟨.agg #[.int .i64 (sm ((hsO l0).take p.r)), .int .i64 (sm ((vsO l0).take p.r)), .int .i64 (sm ((dsO l0).take p.r))], rfl, ?_⟩
  replace hb := nb_ HB hb
  replace BKgx := kb_ BKgx hb
  replace HB := bs_ HB hb
  (try clear hb)
  refine hK.out _ _ ⟨c3_ BKgx, pw_cell_below HB.out X2.out⟩ (fun hHeld => ?_)
  clear hK K
  refine nM_ ?_
  refine pM_ HT_ 4 9 130943 ?_
  refine pM_ HT_ 7 12 131071 ?_
  refine pM_ HT_ 17 22 262143 ?_
  refine pM_ HT_ 18 4 524287 ?_
  refine dM_ HT_ ?_
  go_wp2
  go_ret
  exact ⟨by first | (rw [HE.out]; done) | (rw [HE.out]; rfl), HB.out⟩
def ref_Volume.T1 : Bool × List (List Nat × List Nat) := (true, [([], []), ([], []), ([1], [1]), ([0, 2], [0, 2]), ([3], [3]), ([], []), ([5], [5]), ([4, 6], [4, 6]), ([], []), ([], []), ([9], [9]), ([8, 10], [8, 10]), ([11], [11]), ([12], [12]), ([], []), ([14], [14]), ([13, 15], [13, 15]), ([7, 16], [7, 16]), ([17, 3, 0, 1, 2, 3, 4, 5, 6, 7, 8, 9, 10, 11, 12, 13, 14, 15, 16, 17], [17])])
def ref_Volume.B1 : List Nat := [0, 0, 2, 7, 15, 0, 32, 127, 0, 0, 512, 1792, 3840, 7936, 0, 16384, 65280, 131071, 262143]
theorem ref_Volume.tab1 : rtab .any (opsOf Try.f94 1) = ref_Volume.T1 := by kernel_rfl
theorem ref_Volume.bits1 : waitsOk ref_Volume.T1.2 ref_Volume.B1 = true := by kernel_rfl
set_option maxHeartbeats 1600000 in
set_option maxRecDepth 100000 in
theorem ref_Volume.calls (A0 : Option Addr) (c0 : Nat) (l0 : List S79) (p : Pl) (w : World) (hr0 : Kd.C k79 w A0 l0.length l0) (hG : GV (hsO l0) (vsO l0) (dsO l0)) (hp : p.ok l0.length) (hd : p.d ≤ 1000000000) : Calls Try.prog 94 #[.slice A0 l0.length c0, .agg #[.int .i64 ((p).r : Int), .int .i64 (p).n, .int .i64 (p).d]] w fun e w' => e = .returned (.int .i64 (timeN (vsO l0) p)) ∧ Below w.heap.size w w' := by
  have hu96 := Try.underlying96
  have HR0 := Aside0.mk hr0
  have HG := Aside0.mk hG
  clear hr0 hG
  have HB := Aside0.mk (Below.refl w.heap.size w)
  have hpr : p.r < l0.length := hp.1
  have hi0 : (0 : Int) ≤ (p.r : Int) := by omega
  have hi1 : (p.r : Int) < (l0.length : Int) := by omega
  obtain ⟨ad, q_, x0_, x1_, x2_⟩ := at_T79 HR0.out (p.r : Int) hi0 hi1
  subst q_
  simp only [Int.toNat_natCast] at x0_ x1_ x2_
  have X1 := Aside0.mk x1_
  clear x0_ x1_ x2_
  have HE : Aside0 (wrap64 (wrap64 (sm ((vsO l0).take p.r) * p.d) + wrap64 ((rd_T79 l0 (p.r : Int)).f1 * p.n)) = timeN (vsO l0) p) := ⟨by
    have e := (rd79_gt l0 p.r hpr).2.1
    have hS := HG.out.sums
    have hq : p.ok (vsO l0).length := by simpa using hp
    have tb := timeN_bd HG.out.v hq
    obtain ⟨p0, p1, p2, p3⟩ := hp
    have g := HG.out.v.gt (r := p.r) (by simpa using hpr)
    have t := take_b HG.out.v.pos p.r
    have m1 := Int.mul_nonneg t.1 (show 0 ≤ p.d by omega)
    have m2 := Int.mul_nonneg (show 0 ≤ gt (vsO l0) p.r by omega) p1
    have m5 := Int.mul_le_mul (show sm (vsO l0) ≤ 2400000 by omega) hd (by omega) (by omega)
    unfold timeN at tb ⊢
    rw [← e, wrp_ (n := _ * p.d) (by omega) (by omega), wrp_ (n := _ * p.n) (by omega) (by omega), wrp_ (by omega) (by omega)]⟩
  have C1 : Aside0 (∀ W, Below w.heap.size w W → Calls Try.prog 91 #[.slice (some ad) l0.length c0, .int .i64 (p.r : Int)] W fun e w' => e = .returned (.agg #[.int .i64 (sm ((hsO l0).take p.r)), .int .i64 (sm ((vsO l0).take p.r)), .int .i64 (sm ((dsO l0).take p.r))]) ∧ Below W.heap.size W w') := ⟨fun W hB => ref_Sums.calls (some ad) c0 l0 p.r W (Kd.C_below HR0.out hB) HG.out (Nat.le_of_lt hpr)⟩
  clear hp hd
  go_enter Try.func94, Try.ntmps94
  go_wp2_with (first | ((with_reducible refine gate_dst (N := 3) rfl ?_); refine bx_ 3 #[.int .i64 ((p.r : Int)), .int .i64 (p.n), .int .i64 (p.d)] 96 ?_; intro gx hg w1 hbox hb; have GEgx := ge_ hg HB; replace hb := nb_ HB hb; replace HB := bs_ HB hb; have BKgx := Aside0.mk hbox; clear hb hbox hg))
  replace BKgx := kd_ BKgx
  replace HB := bd_ HB
  refine sM_ [] (fun w' => (w'.cell? ⟨gx, 0, none⟩ = some (.int .i64 ((p.r : Int))) ∧ w'.cell? ⟨gx, 1, none⟩ = some (.int .i64 (p.n)) ∧ w'.cell? ⟨gx, 2, none⟩ = some (.int .i64 (p.d))) ∧ w'.cell? ⟨(ad.add (p.r * 3)).block, (ad.add (p.r * 3)).off + 1, none⟩ = some (.int .i64 (rd_T79 l0 (p.r : Int)).f1)) ref_Volume.tab1 ref_Volume.bits1 ⟨c3_ BKgx, pw_cell_below HB.out X1.out⟩ (fun hHeld HT_ HW_ => ?_)
  generalize w1.drew = w2 at BKgx HB hHeld ⊢
  refine pM_ HT_ 0 5 1 ?_
  refine pM_ HT_ 1 6 3 ?_
  refine pM_ HT_ 5 10 35 ?_
  refine pM_ HT_ 8 13 291 ?_
  refine pM_ HT_ 9 14 803 ?_
  refine pM_ HT_ 14 19 17187 ?_
  refine tM_ HT_ HW_ hHeld 2 7 17191 ?_
  refine tM_ HT_ HW_ hHeld 6 11 17255 ?_
  refine tM_ HT_ HW_ hHeld 10 15 18279 ?_
  refine pM_ HT_ 11 16 20327 ?_
  refine pM_ HT_ 12 17 24423 ?_
  refine tM_ HT_ HW_ hHeld 13 18 32615 ?_
  refine tM_ HT_ HW_ hHeld 15 20 65383 ?_
  refine pM_ HT_ 16 21 130919 ?_
  refine oM_ HT_ 3 (some 8) 130927 (fun K hK => ?_)
  refine gM_ Try.func91 (C1.out _ HB.out) ?_
  rintro e w3 ⟨rfl, hb⟩
  refine ⟨.agg #[.int .i64 (sm ((hsO l0).take p.r)), .int .i64 (sm ((vsO l0).take p.r)), .int .i64 (sm ((dsO l0).take p.r))], rfl, ?_⟩
  replace hb := nb_ HB hb
  replace BKgx := kb_ BKgx hb
  replace HB := bs_ HB hb
  (try clear hb)
  refine hK.out _ _ ⟨c3_ BKgx, pw_cell_below HB.out X1.out⟩ (fun hHeld => ?_)
  clear hK K
  refine nM_ ?_
  refine pM_ HT_ 4 9 130943 ?_
  refine pM_ HT_ 7 12 131071 ?_
  refine pM_ HT_ 17 22 262143 ?_
  refine pM_ HT_ 18 4 524287 ?_
  refine dM_ HT_ ?_
  go_wp2
  go_ret
  exact ⟨by first | (rw [HE.out]; done) | (rw [HE.out]; rfl), HB.out⟩
end Go.Proofs.Ytlhfclpbodfmcaa.Pr
namespace Go.Proofs.Ytlhfclpbodfmcaa.Pr
open Go.RowKit Go.Proofs.YtlhfclpbodfmcaaW.PrintWords Go.Proofs.YtlhfclpbodfmcaaW.PrintLast Go.Proofs.YtlhfclpbodfmcaaW.PrintMore
open Go.Proofs.Ytlhfclpbodfmcaa.Vm
set_option linter.unusedVariables false
set_option linter.unusedSimpArgs false
attribute [local go_sem] fld79_0 fld79_1 fld79_2
def ref_Check.T6 : Bool × List (List Nat × List Nat) := (true, [([], []), ([], []), ([0, 1], [0, 1]), ([2], [2]), ([3], [3]), ([4], [4]), ([5, 4], [5]), ([6], [6]), ([7, 6], [6, 7]), ([8, 6, 6], [6, 8]), ([9], [9]), ([9], [9]), ([10, 11, 9], [9, 10, 11]), ([12, 9], [9, 12]), ([13, 9], [9, 13]), ([9], [9]), ([9], [9]), ([16, 9], [9, 16]), ([15, 17, 9], [9, 15, 17]), ([18, 9], [9, 18]), ([19, 9], [9, 19]), ([14, 20, 9], [9, 14, 20]), ([9], [9]), ([9], [9]), ([23, 9], [9, 23]), ([22, 24, 9], [9, 22, 24]), ([25, 9], [9, 25]), ([26, 9], [9, 26]), ([9], [9]), ([9], [9]), ([28, 29, 9], [9, 28, 29]), ([30, 9], [9, 30]), ([31, 9], [9, 31]), ([27, 32, 9], [9, 27, 32]), ([21, 33, 9], [9, 21, 33]), ([9, 34, 6], [6, 9, 34]), ([6, 35], [6, 35])])
def ref_Check.B6 : List Nat := [0, 0, 3, 7, 15, 31, 63, 127, 255, 511, 1023, 1023, 4095, 8191, 16383, 1023, 1023, 66559, 230399, 492543, 1016831, 2097151, 1023, 1023, 8389631, 29361151, 62915583, 130024447, 1023, 1023, 805307391, 1879049215, 4026532863, 8585741311, 17179869183, 34359738367, 68719476735]
theorem ref_Check.tab6 : rtab .any (opsOf Try.f53 6) = ref_Check.T6 := by kernel_rfl
theorem ref_Check.bits6 : waitsOk ref_Check.T6.2 ref_Check.B6 = true := by kernel_rfl
set_option maxHeartbeats 1600000 in
set_option maxRecDepth 100000 in
theorem ref_Check.calls (A0 : Option Addr) (c0 : Nat) (l0 : List S79) (w : World) (hr0 : Kd.C k79 w A0 l0.length l0) : Calls Try.prog 53 #[.slice A0 l0.length c0] w fun e w' => e = .returned (.int .i64 (checkF l0)) ∧ Below w.heap.size w w' := by
  have hu79 := Try.underlying79
  have HR0 := Aside0.mk hr0
  have HB := Aside0.mk (Below.refl w.heap.size w)
  clear hr0
  by_cases hL : 1 ≤ l0.length ∧ l0.length ≤ 24
  · have HE : Aside0 (checkF l0 = if chainB l0 then 0 else 20) := ⟨by unfold checkF validB; rw [decide_eq_true hL, Bool.true_and]⟩
    have HL := Aside0.mk hL
    have q1 : decide ((l0.length : Int) < 1) = false := decide_eq_false (by omega)
    have q2 : decide (24 < (l0.length : Int)) = false := decide_eq_false (by omega)
    have q3 : decide (24 < l0.length) = false := decide_eq_false (by omega)
    have q5 : ¬ l0.length = 0 := by omega
    clear hL
    go_enter Try.func53, Try.ntmps53
    go_wp2
    go_loopg [3] l0.length (fun kq v3 w' => ∃ j : Nat, v3 = .int .i64 (j : Int) ∧ Aside0 (j ≤ l0.length ∧ l0.length - j ≤ kq ∧ (j = 0 ∨ ringB (rd_T79 l0 ((j - 1 : Nat) : Int)) = true) ∧ chainB l0 = chainB (l0.drop (j - 1))) ∧ Aside0 (Below w.heap.size w w'))
    case atStart => exact ⟨0, rfl, ⟨Nat.zero_le _, by omega, .inl rfl, rfl⟩, HB⟩
    case round =>
      clear HB q1 q2 q3 q5
      obtain ⟨j, rfl, HJ, HB⟩ := hrel
      by_cases hj : j < l0.length
      · have hd : decide ((j : Int) < (l0.length : Int)) = true := decide_eq_true (by omega)
        have hd2 : decide (j < l0.length) = true := decide_eq_true hj
        have HJL := Aside0.mk hj
        have hi0 : (0 : Int) ≤ (j : Int) := by omega
        have hi1 : (j : Int) < (l0.length : Int) := by omega
        obtain ⟨ad, q_, x0_, x1_, x2_⟩ := at_T79 HR0.out (j : Int) hi0 hi1
        subst q_
        simp only [Int.toNat_natCast] at x0_ x1_ x2_
        have X0 := Aside0.mk x0_
        have X1 := Aside0.mk x1_
        have X2 := Aside0.mk x2_
        clear x0_ x1_ x2_
        have EW : Aside0 (wrap64 ((j : Int) + 1) = ((j + 1 : Nat) : Int)) := ⟨by have := HL.out; rw [wrp_ (by omega) (by omega)]; rfl⟩
        clear hj
        cases hr : ringB (rd_T79 l0 (j : Int))
        · have C1 : Aside0 (∀ W, Calls Try.prog 119 #[.agg #[.int .i64 (rd_T79 l0 (j : Int)).f0, .int .i64 (rd_T79 l0 (j : Int)).f1, .int .i64 (rd_T79 l0 (j : Int)).f2]] W fun e w' => e = .returned (.bool false) ∧ Below W.heap.size W w') := ⟨fun W => hr ▸ ref_isRing.calls (rd_T79 l0 (j : Int)) W⟩
          have HX : Aside0 (chainB l0 = false) := ⟨by
            have h := HJ.out
            have hj := HJL.out
            rw [h.2.2.2]
            rcases Nat.eq_zero_or_pos j with h0 | h0
            · subst h0
              by_cases he : 1 = l0.length
              · rw [show 0 - 1 = 0 from rfl, chain_last l0 0 (by omega)]; exact hr
              · rw [show 0 - 1 = 0 from rfl, chain_step l0 0 (by omega), show ringB (rd_T79 l0 ((0 : Nat) : Int)) = false from hr]; rfl
            · rw [test_step l0 j hj h0 (h.2.2.1.resolve_left (by omega)), hr]; rfl⟩
          clear hr
          go_wp2
          replace HB := bd_ HB
          refine sM_ [] (fun w' => w'.cell? (ad.add (j * 3)) = some (.int .i64 (rd_T79 l0 (j : Int)).f0) ∧ w'.cell? ⟨(ad.add (j * 3)).block, (ad.add (j * 3)).off + 1, none⟩ = some (.int .i64 (rd_T79 l0 (j : Int)).f1) ∧ w'.cell? ⟨(ad.add (j * 3)).block, (ad.add (j * 3)).off + 2, none⟩ = some (.int .i64 (rd_T79 l0 (j : Int)).f2)) ref_Check.tab6 ref_Check.bits6 ⟨pw_cell_below HB.out X0.out, pw_cell_below HB.out X1.out, pw_cell_below HB.out X2.out⟩ (fun hHeld HT_ HW_ => ?_)
          generalize wr.drew = w3 at HB hHeld ⊢
          refine pM_ HT_ 0 18 1 ?_
          refine pM_ HT_ 1 19 3 ?_
          refine pM_ HT_ 2 20 7 ?_
          refine tM_ HT_ HW_ hHeld 3 21 15 ?_
          refine oM_ HT_ 4 (some 22) 31 (fun K hK => ?_)
          refine gM_ Try.func119 (C1.out _) ?_
          rintro e w4 ⟨rfl, hb⟩
          refine ⟨.bool _, rfl, ?_⟩
          replace hb := nb_ HB hb
          replace HB := bs_ HB hb
          (try clear hb)
          refine hK.out _ _ ⟨pw_cell_below HB.out X0.out, pw_cell_below HB.out X1.out, pw_cell_below HB.out X2.out⟩ (fun hHeld => ?_)
          clear hK K
          refine nM_ ?_
          refine pM_ HT_ 5 23 63 ?_
          refine pM_ HT_ 6 24 127 ?_
          refine pU_ HT_ 7 (some 25) 255 ?_
          refine pU_ HT_ 8 (some 26) 511 ?_
          refine pU_ HT_ 9 (some 27) 1023 ?_
          refine pU_ HT_ 10 (some 28) 2047 ?_
          refine pU_ HT_ 11 (some 29) 4095 ?_
          refine pU_ HT_ 12 (some 30) 8191 ?_
          refine pU_ HT_ 13 (some 31) 16383 ?_
          refine pU_ HT_ 14 (some 32) 32767 ?_
          refine pU_ HT_ 15 (some 33) 65535 ?_
          refine pU_ HT_ 16 (some 34) 131071 ?_
          refine pU_ HT_ 17 (some 35) 262143 ?_
          refine pU_ HT_ 18 (some 36) 524287 ?_
          refine pU_ HT_ 19 (some 37) 1048575 ?_
          refine pU_ HT_ 20 (some 38) 2097151 ?_
          refine pU_ HT_ 21 (some 39) 4194303 ?_
          refine pU_ HT_ 22 (some 40) 8388607 ?_
          refine pU_ HT_ 23 (some 41) 16777215 ?_
          refine pU_ HT_ 24 (some 42) 33554431 ?_
          refine pU_ HT_ 25 (some 43) 67108863 ?_
          refine pU_ HT_ 26 (some 44) 134217727 ?_
          refine pU_ HT_ 27 (some 45) 268435455 ?_
          refine pU_ HT_ 28 (some 46) 536870911 ?_
          refine pU_ HT_ 29 (some 47) 1073741823 ?_
          refine pU_ HT_ 30 (some 48) 2147483647 ?_
          refine pU_ HT_ 31 (some 49) 4294967295 ?_
          refine pU_ HT_ 32 (some 50) 8589934591 ?_
          refine pU_ HT_ 33 (some 51) 17179869183 ?_
          refine pU_ HT_ 34 (some 52) 34359738367 ?_
          refine pU_ HT_ 35 (some 53) 68719476735 ?_
          refine pM_ HT_ 36 54 137438953471 ?_
          refine dM_ HT_ ?_
          go_wp2
          go_ret
          exact ⟨by rw [HE.out, HX.out]; rfl, HB.out⟩
        · have HRJ := Aside0.mk hr
          have C1 : Aside0 (∀ W, Calls Try.prog 119 #[.agg #[.int .i64 (rd_T79 l0 (j : Int)).f0, .int .i64 (rd_T79 l0 (j : Int)).f1, .int .i64 (rd_T79 l0 (j : Int)).f2]] W fun e w' => e = .returned (.bool true) ∧ Below W.heap.size W w') := ⟨fun W => hr ▸ ref_isRing.calls (rd_T79 l0 (j : Int)) W⟩
          clear hr
          rcases Nat.eq_zero_or_pos j with h0 | h0
          · have h1 : decide (0 < (j : Int)) = false := decide_eq_false (by omega)
            have h2 : decide (0 < j) = false := decide_eq_false (by omega)
            have HX : Aside0 (chainB l0 = chainB (l0.drop (j + 1 - 1))) := ⟨by rw [HJ.out.2.2.2, h0]⟩
            clear h0
            go_wp2
            replace HB := bd_ HB
            refine sM_ [] (fun w' => w'.cell? (ad.add (j * 3)) = some (.int .i64 (rd_T79 l0 (j : Int)).f0) ∧ w'.cell? ⟨(ad.add (j * 3)).block, (ad.add (j * 3)).off + 1, none⟩ = some (.int .i64 (rd_T79 l0 (j : Int)).f1) ∧ w'.cell? ⟨(ad.add (j * 3)).block, (ad.add (j * 3)).off + 2, none⟩ = some (.int .i64 (rd_T79 l0 (j : Int)).f2)) ref_Check.tab6 ref_Check.bits6 ⟨pw_cell_below HB.out X0.out, pw_cell_below HB.out X1.out, pw_cell_below HB.out X2.out⟩ (fun hHeld HT_ HW_ => ?_)
            generalize wr.drew = w3 at HB hHeld ⊢
            refine pM_ HT_ 0 18 1 ?_
            refine pM_ HT_ 1 19 3 ?_
            refine pM_ HT_ 2 20 7 ?_
            refine tM_ HT_ HW_ hHeld 3 21 15 ?_
            refine oM_ HT_ 4 (some 22) 31 (fun K hK => ?_)
            refine gM_ Try.func119 (C1.out _) ?_
            rintro e w4 ⟨rfl, hb⟩
            refine ⟨.bool _, rfl, ?_⟩
            replace hb := nb_ HB hb
            replace HB := bs_ HB hb
            (try clear hb)
            refine hK.out _ _ ⟨pw_cell_below HB.out X0.out, pw_cell_below HB.out X1.out, pw_cell_below HB.out X2.out⟩ (fun hHeld => ?_)
            clear hK K
            refine nM_ ?_
            refine pM_ HT_ 5 23 63 ?_
            refine pM_ HT_ 6 24 127 ?_
            refine pM_ HT_ 7 25 255 ?_
            refine pM_ HT_ 8 26 511 ?_
            refine pM_ HT_ 9 27 1023 ?_
            refine pU_ HT_ 10 (some 28) 2047 ?_
            refine pU_ HT_ 11 (some 29) 4095 ?_
            refine pU_ HT_ 12 (some 30) 8191 ?_
            refine pU_ HT_ 13 (some 31) 16383 ?_
            refine pU_ HT_ 14 (some 32) 32767 ?_
            refine pU_ HT_ 15 (some 33) 65535 ?_
            refine pU_ HT_ 16 (some 34) 131071 ?_
            refine pU_ HT_ 17 (some 35) 262143 ?_
            refine pU_ HT_ 18 (some 36) 524287 ?_
            refine pU_ HT_ 19 (some 37) 1048575 ?_
            refine pU_ HT_ 20 (some 38) 2097151 ?_
            refine pU_ HT_ 21 (some 39) 4194303 ?_
            refine pU_ HT_ 22 (some 40) 8388607 ?_
            refine pU_ HT_ 23 (some 41) 16777215 ?_
            refine pU_ HT_ 24 (some 42) 33554431 ?_
            refine pU_ HT_ 25 (some 43) 67108863 ?_
            refine pU_ HT_ 26 (some 44) 134217727 ?_
            refine pU_ HT_ 27 (some 45) 268435455 ?_
            refine pU_ HT_ 28 (some 46) 536870911 ?_
            refine pU_ HT_ 29 (some 47) 1073741823 ?_
            refine pU_ HT_ 30 (some 48) 2147483647 ?_
            refine pU_ HT_ 31 (some 49) 4294967295 ?_
            refine pU_ HT_ 32 (some 50) 8589934591 ?_
            refine pU_ HT_ 33 (some 51) 17179869183 ?_
            refine pU_ HT_ 34 (some 52) 34359738367 ?_
            refine pM_ HT_ 35 53 68719476735 ?_
            refine pM_ HT_ 36 54 137438953471 ?_
            refine dM_ HT_ ?_
            go_wp2
            go_roundg (gk - 1)
            case measure => have := HJ.out; have := HJL.out; omega
            case rel => exact ⟨j + 1, by rw [EW.out], ⟨by have := HJL.out; omega, by have := HJ.out; omega, .inr HRJ.out, HX.out⟩, HB⟩
          · obtain ⟨q, hq⟩ : ∃ q : Nat, q + 1 = j := ⟨j - 1, by omega⟩
            have h1 : decide (0 < (j : Int)) = true := decide_eq_true (by omega)
            have h2 : decide (0 < j) = true := decide_eq_true h0
            have hqj : wrap64 ((j : Int) - 1) = (q : Int) := by have := HL.out; have := HJL.out; rw [wrp_ (by omega) (by omega)]; omega
            have hql : q < l0.length := by have := HJL.out; omega
            have HQ : Aside0 (q + 1 = j) := ⟨hq⟩
            have HQR : Aside0 (ringB (rd_T79 l0 (q : Int)) = true) := ⟨by have h := HJ.out.2.2.1.resolve_left (by omega); rwa [show j - 1 = q by omega] at h⟩
            have gi0 : (0 : Int) ≤ (q : Int) := by omega
            have gi1 : (q : Int) < (l0.length : Int) := by omega
            obtain ⟨ad2, q_, x0_, x1_, x2_⟩ := at_T79 HR0.out (q : Int) gi0 gi1
            obtain rfl : ad = ad2 := Option.some.inj q_
            simp only [Int.toNat_natCast] at x0_ x1_ x2_
            have Y1 := Aside0.mk x1_
            have Y2 := Aside0.mk x2_
            clear x0_ x1_ x2_ q_ hq h0
            have HM : Aside0 (wrap64 ((rd_T79 l0 (j : Int)).f1 * (rd_T79 l0 (q : Int)).f2) = (rd_T79 l0 (j : Int)).f1 * (rd_T79 l0 (q : Int)).f2 ∧ wrap64 ((rd_T79 l0 (q : Int)).f1 * (rd_T79 l0 (j : Int)).f2) = (rd_T79 l0 (q : Int)).f1 * (rd_T79 l0 (j : Int)).f2) := ⟨by
              have r1 := ringB_iff.1 HRJ.out
              have r2 := ringB_iff.1 HQR.out
              have m1 := mul_b r1.2.2.1 r1.2.2.2.1 r2.2.2.2.2.1 r2.2.2.2.2.2
              have m2 := mul_b r2.2.2.1 r2.2.2.2.1 r1.2.2.2.2.1 r1.2.2.2.2.2
              exact ⟨wrp_ (by omega) (by omega), wrp_ (by omega) (by omega)⟩⟩
            have HTS : Aside0 (chainB (l0.drop (j - 1)) = (decide ((rd_T79 l0 (q : Int)).f1 * (rd_T79 l0 (j : Int)).f2 ≤ (rd_T79 l0 (j : Int)).f1 * (rd_T79 l0 (q : Int)).f2) && chainB (l0.drop j))) := ⟨by
              have h := test_step l0 j HJL.out (by have := HQ.out; omega) (by rw [show j - 1 = q by have := HQ.out; omega]; exact HQR.out)
              rw [HRJ.out, Bool.true_and, show j - 1 = q by have := HQ.out; omega] at h
              rw [show j - 1 = q by have := HQ.out; omega]; exact h⟩
            by_cases hc : (rd_T79 l0 (j : Int)).f1 * (rd_T79 l0 (q : Int)).f2 < (rd_T79 l0 (q : Int)).f1 * (rd_T79 l0 (j : Int)).f2
            · have hcd : decide (wrap64 ((rd_T79 l0 (j : Int)).f1 * (rd_T79 l0 (q : Int)).f2) < wrap64 ((rd_T79 l0 (q : Int)).f1 * (rd_T79 l0 (j : Int)).f2)) = true := by rw [HM.out.1, HM.out.2]; exact decide_eq_true hc
              have HX : Aside0 (chainB l0 = false) := ⟨by rw [HJ.out.2.2.2, HTS.out, decide_eq_false (by omega)]; rfl⟩
              clear hc
              go_wp2
              replace HB := bd_ HB
              refine sM_ [] (fun w' => w'.cell? (ad.add (j * 3)) = some (.int .i64 (rd_T79 l0 (j : Int)).f0) ∧ w'.cell? ⟨(ad.add (j * 3)).block, (ad.add (j * 3)).off + 1, none⟩ = some (.int .i64 (rd_T79 l0 (j : Int)).f1) ∧ w'.cell? ⟨(ad.add (j * 3)).block, (ad.add (j * 3)).off + 2, none⟩ = some (.int .i64 (rd_T79 l0 (j : Int)).f2) ∧ w'.cell? ⟨(ad.add (q * 3)).block, (ad.add (q * 3)).off + 1, none⟩ = some (.int .i64 (rd_T79 l0 (q : Int)).f1) ∧ w'.cell? ⟨(ad.add (q * 3)).block, (ad.add (q * 3)).off + 2, none⟩ = some (.int .i64 (rd_T79 l0 (q : Int)).f2)) ref_Check.tab6 ref_Check.bits6 ⟨pw_cell_below HB.out X0.out, pw_cell_below HB.out X1.out, pw_cell_below HB.out X2.out, pw_cell_below HB.out Y1.out, pw_cell_below HB.out Y2.out⟩ (fun hHeld HT_ HW_ => ?_)
              generalize wr.drew = w3 at HB hHeld ⊢
              refine pM_ HT_ 0 18 1 ?_
              refine pM_ HT_ 1 19 3 ?_
              refine pM_ HT_ 2 20 7 ?_
              refine tM_ HT_ HW_ hHeld 3 21 15 ?_
              refine oM_ HT_ 4 (some 22) 31 (fun K hK => ?_)
              refine gM_ Try.func119 (C1.out _) ?_
              rintro e w4 ⟨rfl, hb⟩
              refine ⟨.bool _, rfl, ?_⟩
              replace hb := nb_ HB hb
              replace HB := bs_ HB hb
              (try clear hb)
              refine hK.out _ _ ⟨pw_cell_below HB.out X0.out, pw_cell_below HB.out X1.out, pw_cell_below HB.out X2.out, pw_cell_below HB.out Y1.out, pw_cell_below HB.out Y2.out⟩ (fun hHeld => ?_)
              clear hK K
              refine nM_ ?_
              refine pM_ HT_ 5 23 63 ?_
              refine pM_ HT_ 6 24 127 ?_
              refine pM_ HT_ 7 25 255 ?_
              refine pM_ HT_ 8 26 511 ?_
              refine pM_ HT_ 9 27 1023 ?_
              refine pM_ HT_ 10 28 2047 ?_
              refine pM_ HT_ 11 29 4095 ?_
              refine pM_ HT_ 12 30 8191 ?_
              refine pM_ HT_ 13 31 16383 ?_
              refine pM_ HT_ 15 33 49151 ?_
              refine pM_ HT_ 16 34 114687 ?_
              refine pM_ HT_ 17 35 245759 ?_
              refine pM_ HT_ 18 36 507903 ?_
              refine pM_ HT_ 19 37 1032191 ?_
              refine pM_ HT_ 22 40 5226495 ?_
              refine pM_ HT_ 23 41 13615103 ?_
              refine pM_ HT_ 24 42 30392319 ?_
              refine pM_ HT_ 25 43 63946751 ?_
              refine pM_ HT_ 26 44 131055615 ?_
              refine pM_ HT_ 28 46 399491071 ?_
              refine pM_ HT_ 29 47 936361983 ?_
              refine pM_ HT_ 30 48 2010103807 ?_
              refine pM_ HT_ 31 49 4157587455 ?_
              refine tM_ HT_ HW_ hHeld 14 32 4157603839 ?_
              refine tM_ HT_ HW_ hHeld 20 38 4158652415 ?_
              refine pM_ HT_ 21 39 4160749567 ?_
              refine tM_ HT_ HW_ hHeld 27 45 4294967295 ?_
              refine tM_ HT_ HW_ hHeld 32 50 8589934591 ?_
              refine pM_ HT_ 33 51 17179869183 ?_
              refine pM_ HT_ 34 52 34359738367 ?_
              refine pM_ HT_ 35 53 68719476735 ?_
              refine pM_ HT_ 36 54 137438953471 ?_
              refine dM_ HT_ ?_
              go_wp2
              go_ret
              exact ⟨by rw [HE.out, HX.out]; rfl, HB.out⟩
            · have hcd : decide (wrap64 ((rd_T79 l0 (j : Int)).f1 * (rd_T79 l0 (q : Int)).f2) < wrap64 ((rd_T79 l0 (q : Int)).f1 * (rd_T79 l0 (j : Int)).f2)) = false := by rw [HM.out.1, HM.out.2]; exact decide_eq_false hc
              have HX : Aside0 (chainB l0 = chainB (l0.drop (j + 1 - 1))) := ⟨by rw [HJ.out.2.2.2, HTS.out, decide_eq_true (by omega)]; rfl⟩
              clear hc
              go_wp2
              replace HB := bd_ HB
              refine sM_ [] (fun w' => w'.cell? (ad.add (j * 3)) = some (.int .i64 (rd_T79 l0 (j : Int)).f0) ∧ w'.cell? ⟨(ad.add (j * 3)).block, (ad.add (j * 3)).off + 1, none⟩ = some (.int .i64 (rd_T79 l0 (j : Int)).f1) ∧ w'.cell? ⟨(ad.add (j * 3)).block, (ad.add (j * 3)).off + 2, none⟩ = some (.int .i64 (rd_T79 l0 (j : Int)).f2) ∧ w'.cell? ⟨(ad.add (q * 3)).block, (ad.add (q * 3)).off + 1, none⟩ = some (.int .i64 (rd_T79 l0 (q : Int)).f1) ∧ w'.cell? ⟨(ad.add (q * 3)).block, (ad.add (q * 3)).off + 2, none⟩ = some (.int .i64 (rd_T79 l0 (q : Int)).f2)) ref_Check.tab6 ref_Check.bits6 ⟨pw_cell_below HB.out X0.out, pw_cell_below HB.out X1.out, pw_cell_below HB.out X2.out, pw_cell_below HB.out Y1.out, pw_cell_below HB.out Y2.out⟩ (fun hHeld HT_ HW_ => ?_)
              generalize wr.drew = w3 at HB hHeld ⊢
              refine pM_ HT_ 0 18 1 ?_
              refine pM_ HT_ 1 19 3 ?_
              refine pM_ HT_ 2 20 7 ?_
              refine tM_ HT_ HW_ hHeld 3 21 15 ?_
              refine oM_ HT_ 4 (some 22) 31 (fun K hK => ?_)
              refine gM_ Try.func119 (C1.out _) ?_
              rintro e w4 ⟨rfl, hb⟩
              refine ⟨.bool _, rfl, ?_⟩
              replace hb := nb_ HB hb
              replace HB := bs_ HB hb
              (try clear hb)
              refine hK.out _ _ ⟨pw_cell_below HB.out X0.out, pw_cell_below HB.out X1.out, pw_cell_below HB.out X2.out, pw_cell_below HB.out Y1.out, pw_cell_below HB.out Y2.out⟩ (fun hHeld => ?_)
              clear hK K
              refine nM_ ?_
              refine pM_ HT_ 5 23 63 ?_
              refine pM_ HT_ 6 24 127 ?_
              refine pM_ HT_ 7 25 255 ?_
              refine pM_ HT_ 8 26 511 ?_
              refine pM_ HT_ 9 27 1023 ?_
              refine pM_ HT_ 10 28 2047 ?_
              refine pM_ HT_ 11 29 4095 ?_
              refine pM_ HT_ 12 30 8191 ?_
              refine pM_ HT_ 13 31 16383 ?_
              refine pM_ HT_ 15 33 49151 ?_
              refine pM_ HT_ 16 34 114687 ?_
              refine pM_ HT_ 17 35 245759 ?_
              refine pM_ HT_ 18 36 507903 ?_
              refine pM_ HT_ 19 37 1032191 ?_
              refine pM_ HT_ 22 40 5226495 ?_
              refine pM_ HT_ 23 41 13615103 ?_
              refine pM_ HT_ 24 42 30392319 ?_
              refine pM_ HT_ 25 43 63946751 ?_
              refine pM_ HT_ 26 44 131055615 ?_
              refine pM_ HT_ 28 46 399491071 ?_
              refine pM_ HT_ 29 47 936361983 ?_
              refine pM_ HT_ 30 48 2010103807 ?_
              refine pM_ HT_ 31 49 4157587455 ?_
              refine tM_ HT_ HW_ hHeld 14 32 4157603839 ?_
              refine tM_ HT_ HW_ hHeld 20 38 4158652415 ?_
              refine pM_ HT_ 21 39 4160749567 ?_
              refine tM_ HT_ HW_ hHeld 27 45 4294967295 ?_
              refine tM_ HT_ HW_ hHeld 32 50 8589934591 ?_
              refine pM_ HT_ 33 51 17179869183 ?_
              refine pM_ HT_ 34 52 34359738367 ?_
              refine pM_ HT_ 35 53 68719476735 ?_
              refine pM_ HT_ 36 54 137438953471 ?_
              refine dM_ HT_ ?_
              go_wp2
              go_roundg (gk - 1)
              case measure => have := HJ.out; have := HJL.out; omega
              case rel => exact ⟨j + 1, by rw [EW.out], ⟨by have := HJL.out; omega, by have := HJ.out; omega, .inr HRJ.out, HX.out⟩, HB⟩
      · have hd : decide ((j : Int) < (l0.length : Int)) = false := decide_eq_false (by omega)
        have hd2 : decide (j < l0.length) = false := decide_eq_false hj
        have HX : Aside0 (chainB l0 = true) := ⟨by have h := HJ.out; have := HL.out; rw [h.2.2.2, chain_last l0 (j - 1) (by omega)]; exact h.2.2.1.resolve_left (by omega)⟩
        clear hj
        go_wp2
        go_ret
        exact ⟨by rw [HE.out, HX.out]; rfl, HB.out⟩
  · have HE : Aside0 (checkF l0 = 20) := ⟨by unfold checkF validB; rw [decide_eq_false hL]; rfl⟩
    have hc : l0.length = 0 ∨ 0 < l0.length ∧ 24 < l0.length := by omega
    clear hL
    rcases hc with hc | ⟨hc1, hc2⟩
    · rw [HE.out]
      clear HE
      rw [hc]
      clear hc HR0
      go_enter Try.func53, Try.ntmps53
      go_wp2
      go_ret
      exact ⟨rfl, HB.out⟩
    · have q1 : decide ((l0.length : Int) < 1) = false := decide_eq_false (by omega)
      have q2 : decide (24 < (l0.length : Int)) = true := decide_eq_true (by omega)
      have q3 : decide (24 < l0.length) = true := decide_eq_true hc2
      have q4 : decide (l0.length = 0) = false := decide_eq_false (by omega)
      have q5 : ¬ l0.length = 0 := by omega
      rw [HE.out]
      clear HE hc1
      go_enter Try.func53, Try.ntmps53
      go_wp2
      go_ret
      exact ⟨rfl, HB.out⟩
end Go.Proofs.Ytlhfclpbodfmcaa.Pr
namespace Go.Proofs.Ytlhfclpbodfmcaa.Pr
open Go.RowKit Go.Proofs.YtlhfclpbodfmcaaW.PrintWords Go.Proofs.YtlhfclpbodfmcaaW.PrintLast Go.Proofs.YtlhfclpbodfmcaaW.PrintMore
open Go.Proofs.Ytlhfclpbodfmcaa.Vm
set_option linter.unusedVariables false
set_option linter.unusedSimpArgs false
attribute [local go_sem] fld79_0 fld79_1 fld79_2
/-- A place, and how far it lies. -/
def PlaceP (w : World) (xs : List Int) (x : Rat) (M : Int) (e : Ending) (w' : World) : Prop := ∃ p : Pl, e = .returned (.agg #[.int .i64 (p.r : Int), .int .i64 p.n, .int .i64 p.d]) ∧ p.ok xs.length ∧ pv xs p = x ∧ p.d ≤ M ∧ Below w.heap.size w w'
/-- A ring in which a number lies, in lowest terms. -/
theorem low_place {xs : List Int} {B : Int} (h : GoodR xs B) {j : Nat} (hj : j < xs.length) {n d : Int} (hd : 1 ≤ d) (h0 : 0 ≤ n - sm (xs.take j) * d) (h1 : n - sm (xs.take j) * d ≤ gt xs j * d) :
    Pl.ok ⟨j, (n - sm (xs.take j) * d) / (Int.gcd (n - sm (xs.take j) * d) (gt xs j * d) : Int), gt xs j * d / (Int.gcd (n - sm (xs.take j) * d) (gt xs j * d) : Int)⟩ xs.length ∧
    pv xs ⟨j, (n - sm (xs.take j) * d) / (Int.gcd (n - sm (xs.take j) * d) (gt xs j * d) : Int), gt xs j * d / (Int.gcd (n - sm (xs.take j) * d) (gt xs j * d) : Int)⟩ = (n : Rat) / (d : Rat) ∧ gt xs j * d / (Int.gcd (n - sm (xs.take j) * d) (gt xs j * d) : Int) ≤ gt xs j * d := by
  have g1 := h.pos.gt hj
  have D1 : 1 ≤ gt xs j * d := by have := Int.mul_le_mul g1 hd (by omega) (by omega); omega
  have hg := gcd_pos' (a := n - sm (xs.take j) * d) D1
  obtain ⟨u, hu⟩ := Int.gcd_dvd_left (a := n - sm (xs.take j) * d) (b := gt xs j * d)
  obtain ⟨t, ht⟩ := Int.gcd_dvd_right (a := n - sm (xs.take j) * d) (b := gt xs j * d)
  have hn : (n : Rat) = (sm (xs.take j) : Rat) * (d : Rat) + ((n - sm (xs.take j) * d : Int) : Rat) := by rw [Rat.intCast_sub, Rat.intCast_mul]; grind
  have hD : ((gt xs j * d : Int) : Rat) = (gt xs j : Rat) * (d : Rat) := Rat.intCast_mul _ _
  generalize hG : (Int.gcd (n - sm (xs.take j) * d) (gt xs j * d) : Int) = g at *
  generalize hN : n - sm (xs.take j) * d = N at *
  generalize hDD : gt xs j * d = D at *
  have e1 : N / g = u := by rw [hu]; exact Int.mul_ediv_cancel_left u (by omega)
  have e2 : D / g = t := by
    have : g * t / g = t := Int.mul_ediv_cancel_left t (by omega)
    rwa [← ht] at this
  have t1 : 1 ≤ t := by
    apply Classical.byContradiction; intro hn
    have := Int.mul_le_mul_of_nonneg_left (show t ≤ 0 by omega) (show 0 ≤ g by omega)
    omega
  have u0 : 0 ≤ u := by
    apply Classical.byContradiction; intro hn
    have := Int.mul_le_mul_of_nonneg_left (show u ≤ -1 by omega) (show 0 ≤ g by omega)
    omega
  have ut : u ≤ t := by
    apply Classical.byContradiction; intro hn
    have := Int.mul_le_mul_of_nonneg_left (show t + 1 ≤ u by omega) (show 0 ≤ g by omega)
    rw [Int.mul_add] at this
    omega
  rw [e1, e2]
  refine ⟨⟨hj, u0, ut, t1⟩, ?_, ?_⟩
  · show (sm (xs.take j) : Rat) + (u : Rat) / (t : Rat) * (gt xs j : Rat) = (n : Rat) / (d : Rat)
    have gr := one_le hg
    have tr := one_le t1
    have dr := one_le hd
    have gj := one_le g1
    have a1 : (N : Rat) = (g : Rat) * (u : Rat) := by rw [← Rat.intCast_mul, ← hu]
    have a2 : (gt xs j : Rat) * (d : Rat) = (g : Rat) * (t : Rat) := by
      have e : gt xs j * d = g * t := by rw [hDD]; exact ht
      rw [← Rat.intCast_mul, ← Rat.intCast_mul, e]
    rw [hn, a1]
    have a3 : (u : Rat) / (t : Rat) * (gt xs j : Rat) = (g : Rat) * (u : Rat) / (d : Rat) := by grind
    rw [a3]
    grind
  · have := Int.mul_le_mul_of_nonneg_right hg (show 0 ≤ t by omega)
    omega
def ref_AtLevel.T5 : Bool × List (List Nat × List Nat) := (true, [([], []), ([], []), ([1], [1]), ([], []), ([], []), ([3, 4], [3, 4]), ([5], [5]), ([6], [6]), ([2, 7], [2, 7]), ([0, 8], [0, 8])])
def ref_AtLevel.B5 : List Nat := [0, 0, 2, 0, 0, 24, 56, 120, 254, 511]
theorem ref_AtLevel.tab5 : rtab .any (opsOf Try.f78 5) = ref_AtLevel.T5 := by kernel_rfl
theorem ref_AtLevel.bits5 : waitsOk ref_AtLevel.T5.2 ref_AtLevel.B5 = true := by kernel_rfl
def ref_AtLevel.T6 : Bool × List (List Nat × List Nat) := (true, [([], []), ([], []), ([], []), ([2], [2]), ([1, 3], [1, 3]), ([], []), ([], []), ([5, 6], [5, 6]), ([7], [7]), ([8], [8]), ([0, 4, 9], [0, 4, 9]), ([10, 10, 0, 1, 2, 3, 4, 5, 6, 7, 8, 9, 10], [10])])
def ref_AtLevel.B6 : List Nat := [0, 0, 0, 4, 14, 0, 0, 96, 224, 480, 1023, 2047]
theorem ref_AtLevel.tab6 : rtab .any (opsOf Try.f78 6) = ref_AtLevel.T6 := by kernel_rfl
theorem ref_AtLevel.bits6 : waitsOk ref_AtLevel.T6.2 ref_AtLevel.B6 = true := by kernel_rfl
set_option maxHeartbeats 1600000 in
set_option maxRecDepth 100000 in
theorem ref_AtLevel.calls (A0 : Option Addr) (c0 : Nat) (l0 : List S79) (n : Int) (w : World) (hr0 : Kd.C k79 w A0 l0.length l0) (hG : GV (hsO l0) (vsO l0) (dsO l0)) (n0 : 0 ≤ n) (n1 : n ≤ sm (hsO l0) * 1) :
    Calls Try.prog 78 #[.slice A0 l0.length c0, .int .i64 n] w (PlaceP w (hsO l0) ((n : Rat) / (((1 : Int)) : Rat)) (1000 * 1)) := by
  have hu96 := Try.underlying96
  have hu79 := Try.underlying79
  have HR0 := Aside0.mk hr0
  have HG := Aside0.mk hG
  clear hr0 hG
  have HB := Aside0.mk (Below.refl w.heap.size w)
  have d0 : (1 : Int) ≤ 1 := by omega
  have d1 : (1 : Int) ≤ 1000000000 := by omega
  have HN := Aside0.mk n0
  have HN1 := Aside0.mk n1
  have HD := Aside0.mk (And.intro d0 d1)
  have hln : l0.length ≤ 24 := by have := HG.out.h.ln; simpa using this
  have HL := Aside0.mk hln
  clear n0 n1 d0 d1 hln
  go_enter Try.func78, Try.ntmps78
  go_wp2_with (first | ((with_reducible refine gate_dst (N := 4) rfl ?_); refine bx_ 4 #[.int .i64 0, .int .i64 0, .int .i64 0] 96 ?_; intro gr hg w1 hbox hb; have GEgr := ge_ hg HB; replace hb := nb_ HB hb; replace HB := bs_ HB hb; have BKgr := Aside0.mk hbox; clear hb hbox hg))
  go_loopg [5] l0.length (fun kq v5 w' => ∃ j : Nat, v5 = .int .i64 (j : Int) ∧ Aside0 (j ≤ l0.length ∧ l0.length - j ≤ kq ∧ (j = 0 ∨ sm ((hsO l0).take j) * 1 < n)) ∧ Aside0 (w'.heap[gr]? = some (.cells #[.int .i64 0, .int .i64 0, .int .i64 0] 96 (0, 0))) ∧ Aside0 (Below w.heap.size w w'))
  case atStart => exact ⟨0, rfl, ⟨Nat.zero_le _, by omega, .inl rfl⟩, BKgr, HB⟩
  case round =>
    clear BKgr HB
    obtain ⟨j, rfl, HJ, BKgr, HB⟩ := hrel
    have hjl : j < l0.length := by
      have hq := HJ.out
      apply Classical.byContradiction; intro hn
      rcases hq.2.2 with h | h
      · have := HG.out.h.ne; rw [List.length_map] at this; omega
      · rw [List.take_of_length_le (by simp; omega)] at h; have := HN1.out; omega
    have hd : decide ((j : Int) < (l0.length : Int)) = true := decide_eq_true (by omega)
    have hd2 : decide (j < l0.length) = true := decide_eq_true hjl
    have hi0 : (0 : Int) ≤ (j : Int) := by omega
    have hi1 : (j : Int) < (l0.length : Int) := by omega
    obtain ⟨ad, q_, x0_, x1_, x2_⟩ := at_T79 HR0.out (j : Int) hi0 hi1
    subst q_
    simp only [Int.toNat_natCast] at x0_ x1_ x2_
    have X0 := Aside0.mk x0_
    clear x0_ x1_ x2_
    have HF : Aside0 (gt (hsO l0) j = (rd_T79 l0 (j : Int)).f0) := ⟨(rd79_gt l0 j hjl).1⟩
    have HT : Aside0 (sm ((hsO l0).take (j + 1)) = sm ((hsO l0).take j) + gt (hsO l0) j) := ⟨sm_take_succ _ _ (by simpa using hjl)⟩
    have HGT := Aside0.mk (HG.out.h.gt (r := j) (by simpa using hjl))
    have HB1 := Aside0.mk (take_b HG.out.h.pos j)
    have HB2 := Aside0.mk (take_b HG.out.h.pos (j + 1))
    have HJL := Aside0.mk hjl
    have C1 : Aside0 (∀ W, Below w.heap.size w W → Calls Try.prog 91 #[.slice (some ad) l0.length c0, .int .i64 (j : Int)] W fun e w' => e = .returned (.agg #[.int .i64 (sm ((hsO l0).take j)), .int .i64 (sm ((vsO l0).take j)), .int .i64 (sm ((dsO l0).take j))]) ∧ Below W.heap.size W w') := ⟨fun W hB => ref_Sums.calls (some ad) c0 l0 j W (Kd.C_below HR0.out hB) HG.out (Nat.le_of_lt HJL.out)⟩
    go_wp2_with fail
    refine (C1.out _ HB.out).mono ?_
    rintro e w3 ⟨rfl, hb⟩
    replace hb := nb_ HB hb
    replace BKgr := kb_ BKgr hb
    replace HB := bs_ HB hb
    clear hb C1
    go_upto_region 5 with (fail)
    have BKgs := Aside0.mk (blk_new w3 (.cells #[.int .i64 (sm ((hsO l0).take j)), .int .i64 (sm ((vsO l0).take j)), .int .i64 (sm ((dsO l0).take j))] 79 (0, 0)))
    have hb := below_alloc (Below.refl _ w3) (.cells #[.int .i64 (sm ((hsO l0).take j)), .int .i64 (sm ((vsO l0).take j)), .int .i64 (sm ((dsO l0).take j))] 79 (0, 0))
    replace BKgr := kb_ BKgr hb
    have GEgs : Aside0 (w.heap.size ≤ w3.heap.size) := ge_ rfl HB
    replace HB := bs_ HB hb
    clear hb
    generalize w3.alloc (.cells #[.int .i64 (sm ((hsO l0).take j)), .int .i64 (sm ((vsO l0).take j)), .int .i64 (sm ((dsO l0).take j))] 79 (0, 0)) = w4 at BKgs BKgr HB ⊢
    generalize w3.heap.size = gs at BKgs GEgs ⊢
    have HS : Aside0 (wrap64 (sm ((hsO l0).take j) + (rd_T79 l0 (j : Int)).f0) = (sm ((hsO l0).take j) + gt (hsO l0) j) * 1) := ⟨by
      have hS := HG.out.sums
      have b2 := HB2.out
      have dd := HD.out
      rw [HT.out] at b2
      have m0 := Int.mul_nonneg b2.1 (show 0 ≤ (1 : Int) by omega)
      have m1 := Int.mul_le_mul (show sm ((hsO l0).take j) + gt (hsO l0) j ≤ 2400000 by omega) dd.2 (by omega) (by omega)
      rw [← HF.out, wrp_ (n := sm ((hsO l0).take j) + gt (hsO l0) j) (by omega) (by omega)]
      omega⟩
    by_cases hc : n ≤ (sm ((hsO l0).take j) + gt (hsO l0) j) * 1
    · have hcw : decide (n ≤ wrap64 (sm ((hsO l0).take j) + (rd_T79 l0 (j : Int)).f0)) = true := by rw [HS.out]; exact decide_eq_true hc
      have HX : Aside0 (wrap64 (n - sm ((hsO l0).take j)) = n - sm ((hsO l0).take j) * 1 ∧ (rd_T79 l0 (j : Int)).f0 = gt (hsO l0) j * 1 ∧ 0 ≤ n - sm ((hsO l0).take j) * 1 ∧ n - sm ((hsO l0).take j) * 1 ≤ gt (hsO l0) j * 1 ∧ 1 ≤ gt (hsO l0) j * 1 ∧ gt (hsO l0) j * 1 ≤ 1000 * 1) := ⟨by
        have dd := HD.out
        have hS := HG.out.sums
        have b1 := HB1.out
        have g1 := HGT.out
        have m0 := Int.mul_nonneg b1.1 (show 0 ≤ (1 : Int) by omega)
        have m1 := Int.mul_le_mul (show sm ((hsO l0).take j) ≤ 2400000 by omega) dd.2 (by omega) (by omega)
        have m2 := Int.mul_le_mul g1.1 dd.1 (by omega) (by omega)
        have m3 := Int.mul_le_mul_of_nonneg_right g1.2 (show 0 ≤ (1 : Int) by omega)
        have hj := HJ.out.2.2
        have n0 := HN.out
        rw [Int.add_mul] at hc
        have h0 : 0 ≤ n - sm ((hsO l0).take j) * 1 := by
          rcases hj with h | h
          · subst h; simp [sm]; omega
          · omega
        have m4 := Int.mul_le_mul (show gt (hsO l0) j ≤ 100000 by omega) dd.2 (by omega) (by omega)
        rw [← HF.out]
        refine ⟨?_, ?_, h0, by omega, by omega, by omega⟩
        · rw [wrp_ (by omega) (by omega)]; omega
        · omega⟩
      have C2 : Aside0 (∀ W, Calls Try.prog 131 #[.int .i64 (j : Int), .int .i64 (wrap64 (n - sm ((hsO l0).take j))), .int .i64 ((rd_T79 l0 (j : Int)).f0)] W fun e w' => e = .returned (.agg #[.int .i64 (j : Int), .int .i64 (wrap64 (n - sm ((hsO l0).take j)) / (Int.gcd (wrap64 (n - sm ((hsO l0).take j))) ((rd_T79 l0 (j : Int)).f0) : Int)), .int .i64 ((rd_T79 l0 (j : Int)).f0 / (Int.gcd (wrap64 (n - sm ((hsO l0).take j))) ((rd_T79 l0 (j : Int)).f0) : Int))]) ∧ Below W.heap.size W w') := ⟨fun W => by
        have hx := HX.out
        have dd := HD.out
        rw [hx.1, hx.2.1]
        exact ref_lowest.calls _ _ _ W hx.2.2.1 (by omega) hx.2.2.2.2.1 (by omega)⟩
      clear hc
      replace BKgr := kd_ BKgr
      replace BKgs := kd_ BKgs
      replace HB := bd_ HB
      refine sM_ [] (fun w' => (w'.cell? ⟨gs, 0, none⟩ = some (.int .i64 (sm ((hsO l0).take j))) ∧ w'.cell? ⟨gs, 1, none⟩ = some (.int .i64 (sm ((vsO l0).take j))) ∧ w'.cell? ⟨gs, 2, none⟩ = some (.int .i64 (sm ((dsO l0).take j)))) ∧ w'.cell? (ad.add (j * 3)) = some (.int .i64 (rd_T79 l0 (j : Int)).f0)) ref_AtLevel.tab5 ref_AtLevel.bits5 ⟨c3_ BKgs, pw_cell_below HB.out X0.out⟩ (fun hHeld HT_ HW_ => ?_)
      generalize w4.drew = w5 at BKgr BKgs HB hHeld ⊢
      refine pM_ HT_ 0 16 1 ?_
      refine pM_ HT_ 1 17 3 ?_
      refine pM_ HT_ 3 19 11 ?_
      refine pM_ HT_ 4 20 27 ?_
      refine pM_ HT_ 5 21 59 ?_
      refine pM_ HT_ 6 22 123 ?_
      refine tM_ HT_ HW_ hHeld 2 18 127 ?_
      refine tM_ HT_ HW_ hHeld 7 23 255 ?_
      refine pM_ HT_ 8 24 511 ?_
      refine pM_ HT_ 9 25 1023 ?_
      refine dM_ HT_ ?_
      go_wp2
      replace BKgr := kd_ BKgr
      replace BKgs := kd_ BKgs
      replace HB := bd_ HB
      refine sM_ [11] (fun w' => (w'.cell? ⟨gs, 0, none⟩ = some (.int .i64 (sm ((hsO l0).take j))) ∧ w'.cell? ⟨gs, 1, none⟩ = some (.int .i64 (sm ((vsO l0).take j))) ∧ w'.cell? ⟨gs, 2, none⟩ = some (.int .i64 (sm ((dsO l0).take j)))) ∧ w'.cell? (ad.add (j * 3)) = some (.int .i64 (rd_T79 l0 (j : Int)).f0)) ref_AtLevel.tab6 ref_AtLevel.bits6 ⟨c3_ BKgs, pw_cell_below HB.out X0.out⟩ (fun hHeld HT_ HW_ => ?_)
      generalize w5.drew = w6 at BKgr BKgs HB hHeld ⊢
      refine pM_ HT_ 0 26 1 ?_
      refine pM_ HT_ 1 27 3 ?_
      refine pM_ HT_ 2 28 7 ?_
      refine pM_ HT_ 5 31 39 ?_
      refine pM_ HT_ 6 32 103 ?_
      refine pM_ HT_ 7 33 231 ?_
      refine pM_ HT_ 8 34 487 ?_
      refine tM_ HT_ HW_ hHeld 3 29 495 ?_
      refine pM_ HT_ 4 30 511 ?_
      refine tM_ HT_ HW_ hHeld 9 35 1023 ?_
      refine oM_ HT_ 10 (some 36) 2047 (fun K hK => ?_)
      refine gM_ Try.func131 (C2.out _) ?_
      rintro e w7 ⟨rfl, hb⟩
      refine ⟨.agg #[.int .i64 (j : Int), .int .i64 (wrap64 (n - sm ((hsO l0).take j)) / (Int.gcd (wrap64 (n - sm ((hsO l0).take j))) ((rd_T79 l0 (j : Int)).f0) : Int)), .int .i64 ((rd_T79 l0 (j : Int)).f0 / (Int.gcd (wrap64 (n - sm ((hsO l0).take j))) ((rd_T79 l0 (j : Int)).f0) : Int))], rfl, ?_⟩
      replace hb := nb_ HB hb
      replace BKgr := kb_ BKgr hb
      replace BKgs := kb_ BKgs hb
      replace HB := bs_ HB hb
      (try clear hb)
      refine hK.out _ _ ⟨c3_ BKgs, pw_cell_below HB.out X0.out⟩ (fun hHeld => ?_)
      clear hK K
      refine nM_ ?_
      refine lM_ HT_ 11 none 4095 (fun K hK => ?_)
      have hc_ := cf3_ BKgr
      refine sk3_ ?_
      intro ws_ hp_
      clear hc_
      refine hK.out _ _ ?_
      clear hK K
      refine dM_ HT_ ?_
      try go_wp2
      refine bodyPost_ret (results_cell_row rfl _ _ gr 96 #[.int .i64 (j : Int), .int .i64 ((wrap64 (n - sm ((hsO l0).take j)) / (Int.gcd (wrap64 (n - sm ((hsO l0).take j))) ((rd_T79 l0 (j : Int)).f0) : Int))), .int .i64 (((rd_T79 l0 (j : Int)).f0 / (Int.gcd (wrap64 (n - sm ((hsO l0).take j))) ((rd_T79 l0 (j : Int)).f0) : Int)))] (0, 0) _ rfl (pp3_ BKgr hp_).out Try.underlying96 rfl (by kernel_rfl)) rfl ?_
      have hx := HX.out
      have lp := low_place HG.out.h (j := j) (by simpa using HJL.out) (n := n) (d := 1) HD.out.1 hx.2.2.1 hx.2.2.2.1
      rw [hx.1, hx.2.1]
      exact ⟨⟨j, _, _⟩, rfl, lp.1, lp.2.1, Int.le_trans lp.2.2 hx.2.2.2.2.2, (pb3_ GEgr HB hp_).out⟩
    · have hcw : decide (n ≤ wrap64 (sm ((hsO l0).take j) + (rd_T79 l0 (j : Int)).f0)) = false := by rw [HS.out]; exact decide_eq_false hc
      have HX : Aside0 (sm ((hsO l0).take (j + 1)) * 1 < n) := ⟨by rw [HT.out]; omega⟩
      have EW : Aside0 (wrap64 ((j : Int) + 1) = ((j + 1 : Nat) : Int)) := ⟨by have := HL.out; rw [wrp_ (by omega) (by omega)]; rfl⟩
      clear hc
      replace BKgr := kd_ BKgr
      replace BKgs := kd_ BKgs
      replace HB := bd_ HB
      refine sM_ [] (fun w' => (w'.cell? ⟨gs, 0, none⟩ = some (.int .i64 (sm ((hsO l0).take j))) ∧ w'.cell? ⟨gs, 1, none⟩ = some (.int .i64 (sm ((vsO l0).take j))) ∧ w'.cell? ⟨gs, 2, none⟩ = some (.int .i64 (sm ((dsO l0).take j)))) ∧ w'.cell? (ad.add (j * 3)) = some (.int .i64 (rd_T79 l0 (j : Int)).f0)) ref_AtLevel.tab5 ref_AtLevel.bits5 ⟨c3_ BKgs, pw_cell_below HB.out X0.out⟩ (fun hHeld HT_ HW_ => ?_)
      generalize w4.drew = w5 at BKgr BKgs HB hHeld ⊢
      refine pM_ HT_ 0 16 1 ?_
      refine pM_ HT_ 1 17 3 ?_
      refine pM_ HT_ 3 19 11 ?_
      refine pM_ HT_ 4 20 27 ?_
      refine pM_ HT_ 5 21 59 ?_
      refine pM_ HT_ 6 22 123 ?_
      refine tM_ HT_ HW_ hHeld 2 18 127 ?_
      refine tM_ HT_ HW_ hHeld 7 23 255 ?_
      refine pM_ HT_ 8 24 511 ?_
      refine pM_ HT_ 9 25 1023 ?_
      refine dM_ HT_ ?_
      go_wp2
      go_roundg (gk - 1)
      case measure => have := HJ.out; have := HJL.out; omega
      case rel => exact ⟨j + 1, by rw [EW.out], ⟨by have := HJL.out; omega, by have := HJ.out; omega, .inr HX.out⟩, BKgr, HB⟩
def ref_AtTime.T5 : Bool × List (List Nat × List Nat) := (true, [([], []), ([], []), ([1], [1]), ([], []), ([], []), ([3, 4], [3, 4]), ([5], [5]), ([6], [6]), ([2, 7], [2, 7]), ([], []), ([8, 9], [8, 9]), ([0, 10], [0, 10])])
def ref_AtTime.B5 : List Nat := [0, 0, 2, 0, 0, 24, 56, 120, 254, 0, 1022, 2047]
theorem ref_AtTime.tab5 : rtab .any (opsOf Try.f92 5) = ref_AtTime.T5 := by kernel_rfl
theorem ref_AtTime.bits5 : waitsOk ref_AtTime.T5.2 ref_AtTime.B5 = true := by kernel_rfl
def ref_AtTime.T6 : Bool × List (List Nat × List Nat) := (true, [([], []), ([], []), ([], []), ([2], [2]), ([], []), ([3, 4], [3, 4]), ([1, 5], [1, 5]), ([], []), ([], []), ([7, 8], [7, 8]), ([9], [9]), ([10], [10]), ([], []), ([11, 12], [11, 12]), ([0, 6, 13], [0, 6, 13]), ([14, 14, 0, 1, 2, 3, 4, 5, 6, 7, 8, 9, 10, 11, 12, 13, 14], [14])])
def ref_AtTime.B6 : List Nat := [0, 0, 0, 4, 0, 28, 62, 0, 0, 384, 896, 1920, 0, 8064, 16383, 32767]
theorem ref_AtTime.tab6 : rtab .any (opsOf Try.f92 6) = ref_AtTime.T6 := by kernel_rfl
theorem ref_AtTime.bits6 : waitsOk ref_AtTime.T6.2 ref_AtTime.B6 = true := by kernel_rfl
set_option maxHeartbeats 1600000 in
set_option maxRecDepth 100000 in
theorem ref_AtTime.calls (A0 : Option Addr) (c0 : Nat) (l0 : List S79) (n d : Int) (w : World) (hr0 : Kd.C k79 w A0 l0.length l0) (hG : GV (hsO l0) (vsO l0) (dsO l0)) (n0 : 0 ≤ n) (d0 : 1 ≤ d) (d1 : d ≤ 1000000000) (n1 : n ≤ sm (dsO l0) * d) :
    Calls Try.prog 92 #[.slice A0 l0.length c0, .int .i64 n, .int .i64 d] w (PlaceP w (dsO l0) ((n : Rat) / (((d : Int)) : Rat)) (20000 * d)) := by
  have hu96 := Try.underlying96
  have hu79 := Try.underlying79
  have HR0 := Aside0.mk hr0
  have HG := Aside0.mk hG
  clear hr0 hG
  have HB := Aside0.mk (Below.refl w.heap.size w)
  have HN := Aside0.mk n0
  have HN1 := Aside0.mk n1
  have HD := Aside0.mk (And.intro d0 d1)
  have hln : l0.length ≤ 24 := by have := HG.out.h.ln; simpa using this
  have HL := Aside0.mk hln
  clear n0 n1 d0 d1 hln
  go_enter Try.func92, Try.ntmps92
  go_wp2_with (first | ((with_reducible refine gate_dst (N := 6) rfl ?_); refine bx_ 6 #[.int .i64 0, .int .i64 0, .int .i64 0] 96 ?_; intro gr hg w1 hbox hb; have GEgr := ge_ hg HB; replace hb := nb_ HB hb; replace HB := bs_ HB hb; have BKgr := Aside0.mk hbox; clear hb hbox hg))
  go_loopg [7] l0.length (fun kq v7 w' => ∃ j : Nat, v7 = .int .i64 (j : Int) ∧ Aside0 (j ≤ l0.length ∧ l0.length - j ≤ kq ∧ (j = 0 ∨ sm ((dsO l0).take j) * d < n)) ∧ Aside0 (w'.heap[gr]? = some (.cells #[.int .i64 0, .int .i64 0, .int .i64 0] 96 (0, 0))) ∧ Aside0 (Below w.heap.size w w'))
  case atStart => exact ⟨0, rfl, ⟨Nat.zero_le _, by omega, .inl rfl⟩, BKgr, HB⟩
  case round =>
    clear BKgr HB
    obtain ⟨j, rfl, HJ, BKgr, HB⟩ := hrel
    have hjl : j < l0.length := by
      have hq := HJ.out
      apply Classical.byContradiction; intro hn
      rcases hq.2.2 with h | h
      · have := HG.out.h.ne; rw [List.length_map] at this; omega
      · rw [List.take_of_length_le (by simp; omega)] at h; have := HN1.out; omega
    have hd : decide ((j : Int) < (l0.length : Int)) = true := decide_eq_true (by omega)
    have hd2 : decide (j < l0.length) = true := decide_eq_true hjl
    have hi0 : (0 : Int) ≤ (j : Int) := by omega
    have hi1 : (j : Int) < (l0.length : Int) := by omega
    obtain ⟨ad, q_, x0_, x1_, x2_⟩ := at_T79 HR0.out (j : Int) hi0 hi1
    subst q_
    simp only [Int.toNat_natCast] at x0_ x1_ x2_
    have X2 := Aside0.mk x2_
    clear x0_ x1_ x2_
    have HF : Aside0 (gt (dsO l0) j = (rd_T79 l0 (j : Int)).f2) := ⟨(rd79_gt l0 j hjl).2.2⟩
    have HT : Aside0 (sm ((dsO l0).take (j + 1)) = sm ((dsO l0).take j) + gt (dsO l0) j) := ⟨sm_take_succ _ _ (by simpa using hjl)⟩
    have HGT := Aside0.mk (HG.out.d.gt (r := j) (by simpa using hjl))
    have HB1 := Aside0.mk (take_b HG.out.d.pos j)
    have HB2 := Aside0.mk (take_b HG.out.d.pos (j + 1))
    have HJL := Aside0.mk hjl
    have C1 : Aside0 (∀ W, Below w.heap.size w W → Calls Try.prog 91 #[.slice (some ad) l0.length c0, .int .i64 (j : Int)] W fun e w' => e = .returned (.agg #[.int .i64 (sm ((hsO l0).take j)), .int .i64 (sm ((vsO l0).take j)), .int .i64 (sm ((dsO l0).take j))]) ∧ Below W.heap.size W w') := ⟨fun W hB => ref_Sums.calls (some ad) c0 l0 j W (Kd.C_below HR0.out hB) HG.out (Nat.le_of_lt HJL.out)⟩
    go_wp2_with fail
    refine (C1.out _ HB.out).mono ?_
    rintro e w3 ⟨rfl, hb⟩
    replace hb := nb_ HB hb
    replace BKgr := kb_ BKgr hb
    replace HB := bs_ HB hb
    clear hb C1
    go_upto_region 5 with (fail)
    have BKgs := Aside0.mk (blk_new w3 (.cells #[.int .i64 (sm ((hsO l0).take j)), .int .i64 (sm ((vsO l0).take j)), .int .i64 (sm ((dsO l0).take j))] 79 (0, 0)))
    have hb := below_alloc (Below.refl _ w3) (.cells #[.int .i64 (sm ((hsO l0).take j)), .int .i64 (sm ((vsO l0).take j)), .int .i64 (sm ((dsO l0).take j))] 79 (0, 0))
    replace BKgr := kb_ BKgr hb
    have GEgs : Aside0 (w.heap.size ≤ w3.heap.size) := ge_ rfl HB
    replace HB := bs_ HB hb
    clear hb
    generalize w3.alloc (.cells #[.int .i64 (sm ((hsO l0).take j)), .int .i64 (sm ((vsO l0).take j)), .int .i64 (sm ((dsO l0).take j))] 79 (0, 0)) = w4 at BKgs BKgr HB ⊢
    generalize w3.heap.size = gs at BKgs GEgs ⊢
    have HS : Aside0 (wrap64 (wrap64 (sm ((dsO l0).take j) + (rd_T79 l0 (j : Int)).f2) * d) = (sm ((dsO l0).take j) + gt (dsO l0) j) * d) := ⟨by
      have hS := HG.out.sums
      have b2 := HB2.out
      have dd := HD.out
      rw [HT.out] at b2
      have m0 := Int.mul_nonneg b2.1 (show 0 ≤ d by omega)
      have m1 := Int.mul_le_mul (show sm ((dsO l0).take j) + gt (dsO l0) j ≤ 2400000 by omega) dd.2 (by omega) (by omega)
      rw [← HF.out, wrp_ (n := sm ((dsO l0).take j) + gt (dsO l0) j) (by omega) (by omega), wrp_ (by omega) (by omega)]⟩
    by_cases hc : n ≤ (sm ((dsO l0).take j) + gt (dsO l0) j) * d
    · have hcw : decide (n ≤ wrap64 (wrap64 (sm ((dsO l0).take j) + (rd_T79 l0 (j : Int)).f2) * d)) = true := by rw [HS.out]; exact decide_eq_true hc
      have HX : Aside0 (wrap64 (n - wrap64 (sm ((dsO l0).take j) * d)) = n - sm ((dsO l0).take j) * d ∧ wrap64 ((rd_T79 l0 (j : Int)).f2 * d) = gt (dsO l0) j * d ∧ 0 ≤ n - sm ((dsO l0).take j) * d ∧ n - sm ((dsO l0).take j) * d ≤ gt (dsO l0) j * d ∧ 1 ≤ gt (dsO l0) j * d ∧ gt (dsO l0) j * d ≤ 20000 * d) := ⟨by
        have dd := HD.out
        have hS := HG.out.sums
        have b1 := HB1.out
        have g1 := HGT.out
        have m0 := Int.mul_nonneg b1.1 (show 0 ≤ d by omega)
        have m1 := Int.mul_le_mul (show sm ((dsO l0).take j) ≤ 2400000 by omega) dd.2 (by omega) (by omega)
        have m2 := Int.mul_le_mul g1.1 dd.1 (by omega) (by omega)
        have m3 := Int.mul_le_mul_of_nonneg_right g1.2 (show 0 ≤ d by omega)
        have hj := HJ.out.2.2
        have n0 := HN.out
        rw [Int.add_mul] at hc
        have h0 : 0 ≤ n - sm ((dsO l0).take j) * d := by
          rcases hj with h | h
          · subst h; simp [sm]; omega
          · omega
        have m4 := Int.mul_le_mul (show gt (dsO l0) j ≤ 100000 by omega) dd.2 (by omega) (by omega)
        rw [← HF.out]
        refine ⟨?_, ?_, h0, by omega, by omega, by omega⟩
        · rw [wrp_ (n := sm ((dsO l0).take j) * d) (by omega) (by omega), wrp_ (by omega) (by omega)]
        · rw [wrp_ (by omega) (by omega)]⟩
      have C2 : Aside0 (∀ W, Calls Try.prog 131 #[.int .i64 (j : Int), .int .i64 (wrap64 (n - wrap64 (sm ((dsO l0).take j) * d))), .int .i64 (wrap64 ((rd_T79 l0 (j : Int)).f2 * d))] W fun e w' => e = .returned (.agg #[.int .i64 (j : Int), .int .i64 (wrap64 (n - wrap64 (sm ((dsO l0).take j) * d)) / (Int.gcd (wrap64 (n - wrap64 (sm ((dsO l0).take j) * d))) (wrap64 ((rd_T79 l0 (j : Int)).f2 * d)) : Int)), .int .i64 (wrap64 ((rd_T79 l0 (j : Int)).f2 * d) / (Int.gcd (wrap64 (n - wrap64 (sm ((dsO l0).take j) * d))) (wrap64 ((rd_T79 l0 (j : Int)).f2 * d)) : Int))]) ∧ Below W.heap.size W w') := ⟨fun W => by
        have hx := HX.out
        have dd := HD.out
        rw [hx.1, hx.2.1]
        exact ref_lowest.calls _ _ _ W hx.2.2.1 (by omega) hx.2.2.2.2.1 (by omega)⟩
      clear hc
      replace BKgr := kd_ BKgr
      replace BKgs := kd_ BKgs
      replace HB := bd_ HB
      refine sM_ [] (fun w' => (w'.cell? ⟨gs, 0, none⟩ = some (.int .i64 (sm ((hsO l0).take j))) ∧ w'.cell? ⟨gs, 1, none⟩ = some (.int .i64 (sm ((vsO l0).take j))) ∧ w'.cell? ⟨gs, 2, none⟩ = some (.int .i64 (sm ((dsO l0).take j)))) ∧ w'.cell? ⟨(ad.add (j * 3)).block, (ad.add (j * 3)).off + 2, none⟩ = some (.int .i64 (rd_T79 l0 (j : Int)).f2)) ref_AtTime.tab5 ref_AtTime.bits5 ⟨c3_ BKgs, pw_cell_below HB.out X2.out⟩ (fun hHeld HT_ HW_ => ?_)
      generalize w4.drew = w5 at BKgr BKgs HB hHeld ⊢
      refine pM_ HT_ 0 18 1 ?_
      refine pM_ HT_ 1 19 3 ?_
      refine pM_ HT_ 3 21 11 ?_
      refine pM_ HT_ 4 22 27 ?_
      refine pM_ HT_ 5 23 59 ?_
      refine pM_ HT_ 6 24 123 ?_
      refine pM_ HT_ 9 27 635 ?_
      refine tM_ HT_ HW_ hHeld 2 20 639 ?_
      refine tM_ HT_ HW_ hHeld 7 25 767 ?_
      refine pM_ HT_ 8 26 1023 ?_
      refine pM_ HT_ 10 28 2047 ?_
      refine pM_ HT_ 11 29 4095 ?_
      refine dM_ HT_ ?_
      go_wp2
      replace BKgr := kd_ BKgr
      replace BKgs := kd_ BKgs
      replace HB := bd_ HB
      refine sM_ [15] (fun w' => (w'.cell? ⟨gs, 0, none⟩ = some (.int .i64 (sm ((hsO l0).take j))) ∧ w'.cell? ⟨gs, 1, none⟩ = some (.int .i64 (sm ((vsO l0).take j))) ∧ w'.cell? ⟨gs, 2, none⟩ = some (.int .i64 (sm ((dsO l0).take j)))) ∧ w'.cell? ⟨(ad.add (j * 3)).block, (ad.add (j * 3)).off + 2, none⟩ = some (.int .i64 (rd_T79 l0 (j : Int)).f2)) ref_AtTime.tab6 ref_AtTime.bits6 ⟨c3_ BKgs, pw_cell_below HB.out X2.out⟩ (fun hHeld HT_ HW_ => ?_)
      generalize w5.drew = w6 at BKgr BKgs HB hHeld ⊢
      refine pM_ HT_ 0 30 1 ?_
      refine pM_ HT_ 1 31 3 ?_
      refine pM_ HT_ 2 32 7 ?_
      refine pM_ HT_ 4 34 23 ?_
      refine pM_ HT_ 7 37 151 ?_
      refine pM_ HT_ 8 38 407 ?_
      refine pM_ HT_ 9 39 919 ?_
      refine pM_ HT_ 10 40 1943 ?_
      refine pM_ HT_ 12 42 6039 ?_
      refine tM_ HT_ HW_ hHeld 3 33 6047 ?_
      refine pM_ HT_ 5 35 6079 ?_
      refine pM_ HT_ 6 36 6143 ?_
      refine tM_ HT_ HW_ hHeld 11 41 8191 ?_
      refine pM_ HT_ 13 43 16383 ?_
      refine oM_ HT_ 14 (some 44) 32767 (fun K hK => ?_)
      refine gM_ Try.func131 (C2.out _) ?_
      rintro e w7 ⟨rfl, hb⟩
      refine ⟨.agg #[.int .i64 (j : Int), .int .i64 (wrap64 (n - wrap64 (sm ((dsO l0).take j) * d)) / (Int.gcd (wrap64 (n - wrap64 (sm ((dsO l0).take j) * d))) (wrap64 ((rd_T79 l0 (j : Int)).f2 * d)) : Int)), .int .i64 (wrap64 ((rd_T79 l0 (j : Int)).f2 * d) / (Int.gcd (wrap64 (n - wrap64 (sm ((dsO l0).take j) * d))) (wrap64 ((rd_T79 l0 (j : Int)).f2 * d)) : Int))], rfl, ?_⟩
      replace hb := nb_ HB hb
      replace BKgr := kb_ BKgr hb
      replace BKgs := kb_ BKgs hb
      replace HB := bs_ HB hb
      (try clear hb)
      refine hK.out _ _ ⟨c3_ BKgs, pw_cell_below HB.out X2.out⟩ (fun hHeld => ?_)
      clear hK K
      refine nM_ ?_
      refine lM_ HT_ 15 none 65535 (fun K hK => ?_)
      have hc_ := cf3_ BKgr
      refine sk3_ ?_
      intro ws_ hp_
      clear hc_
      refine hK.out _ _ ?_
      clear hK K
      refine dM_ HT_ ?_
      try go_wp2
      refine bodyPost_ret (results_cell_row rfl _ _ gr 96 #[.int .i64 (j : Int), .int .i64 ((wrap64 (n - wrap64 (sm ((dsO l0).take j) * d)) / (Int.gcd (wrap64 (n - wrap64 (sm ((dsO l0).take j) * d))) (wrap64 ((rd_T79 l0 (j : Int)).f2 * d)) : Int))), .int .i64 ((wrap64 ((rd_T79 l0 (j : Int)).f2 * d) / (Int.gcd (wrap64 (n - wrap64 (sm ((dsO l0).take j) * d))) (wrap64 ((rd_T79 l0 (j : Int)).f2 * d)) : Int)))] (0, 0) _ rfl (pp3_ BKgr hp_).out Try.underlying96 rfl (by kernel_rfl)) rfl ?_
      have hx := HX.out
      have lp := low_place HG.out.d (j := j) (by simpa using HJL.out) (n := n) (d := d) HD.out.1 hx.2.2.1 hx.2.2.2.1
      rw [hx.1, hx.2.1]
      exact ⟨⟨j, _, _⟩, rfl, lp.1, lp.2.1, Int.le_trans lp.2.2 hx.2.2.2.2.2, (pb3_ GEgr HB hp_).out⟩
    · have hcw : decide (n ≤ wrap64 (wrap64 (sm ((dsO l0).take j) + (rd_T79 l0 (j : Int)).f2) * d)) = false := by rw [HS.out]; exact decide_eq_false hc
      have HX : Aside0 (sm ((dsO l0).take (j + 1)) * d < n) := ⟨by rw [HT.out]; omega⟩
      have EW : Aside0 (wrap64 ((j : Int) + 1) = ((j + 1 : Nat) : Int)) := ⟨by have := HL.out; rw [wrp_ (by omega) (by omega)]; rfl⟩
      clear hc
      replace BKgr := kd_ BKgr
      replace BKgs := kd_ BKgs
      replace HB := bd_ HB
      refine sM_ [] (fun w' => (w'.cell? ⟨gs, 0, none⟩ = some (.int .i64 (sm ((hsO l0).take j))) ∧ w'.cell? ⟨gs, 1, none⟩ = some (.int .i64 (sm ((vsO l0).take j))) ∧ w'.cell? ⟨gs, 2, none⟩ = some (.int .i64 (sm ((dsO l0).take j)))) ∧ w'.cell? ⟨(ad.add (j * 3)).block, (ad.add (j * 3)).off + 2, none⟩ = some (.int .i64 (rd_T79 l0 (j : Int)).f2)) ref_AtTime.tab5 ref_AtTime.bits5 ⟨c3_ BKgs, pw_cell_below HB.out X2.out⟩ (fun hHeld HT_ HW_ => ?_)
      generalize w4.drew = w5 at BKgr BKgs HB hHeld ⊢
      refine pM_ HT_ 0 18 1 ?_
      refine pM_ HT_ 1 19 3 ?_
      refine pM_ HT_ 3 21 11 ?_
      refine pM_ HT_ 4 22 27 ?_
      refine pM_ HT_ 5 23 59 ?_
      refine pM_ HT_ 6 24 123 ?_
      refine pM_ HT_ 9 27 635 ?_
      refine tM_ HT_ HW_ hHeld 2 20 639 ?_
      refine tM_ HT_ HW_ hHeld 7 25 767 ?_
      refine pM_ HT_ 8 26 1023 ?_
      refine pM_ HT_ 10 28 2047 ?_
      refine pM_ HT_ 11 29 4095 ?_
      refine dM_ HT_ ?_
      go_wp2
      go_roundg (gk - 1)
      case measure => have := HJ.out; have := HJL.out; omega
      case rel => exact ⟨j + 1, by rw [EW.out], ⟨by have := HJL.out; omega, by have := HJ.out; omega, .inr HX.out⟩, BKgr, HB⟩
end Go.Proofs.Ytlhfclpbodfmcaa.Pr
namespace Go.Proofs.Ytlhfclpbodfmcaa.Pr
open Go.Proofs.Ytlhfclpbodfmcaa.Vm
set_option linter.unusedVariables false
def vT (l : List S79) (x : Rat) : Rat := conv (hsO l) (vsO l) x
def uT (l : List S79) (x : Rat) : Rat := conv (dsO l) (vsO l) x
def mV (l : List S79) (x : Rat) : Rat := conv (vsO l) (dsO l) x
section
variable {l : List S79}
end
end Go.Proofs.Ytlhfclpbodfmcaa.Pr
namespace Go.Proofs.Ytlhfclpbodfmcaa.Pr
open Go.Proofs.Ytlhfclpbodfmcaa.Vm
set_option linter.unusedVariables false
def runX (l : List S79) (lv m : Int) : Rat := vT l (lv : Rat) - uT l (leftM l lv m)
theorem untilR_val {hs vs ds : List Int} (g : GV hs vs ds) {lv : Int} (h0 : 0 ≤ lv) (h1 : lv ≤ sm hs) {c : Ex} (hc : c.ok) (hd : c.d ≤ 1000) (h2 : 0 ≤ c.w) :
    (conv hs vs (lv : Rat) < c.v ∧ (untilR hs vs ds lv c).2 = false) ∨
    (c.v ≤ conv hs vs (lv : Rat) ∧ (untilR hs vs ds lv c).2 = true ∧ (untilR hs vs ds lv c).1.ok ∧ (untilR hs vs ds lv c).1.v = conv hs ds (lv : Rat) - conv vs ds (conv hs vs (lv : Rat) - c.v)) := by
  obtain ⟨r1, r2, r3, r4⟩ := restF_spec g.h g.v g.hv h0 h1 hc hd h2
  have wl := w_le_v r2
  unfold untilR
  by_cases hw : (restF hs vs lv c).w < 0
  · left
    have h3 := castLe (show (restF hs vs lv c).w + 1 ≤ 0 by omega)
    rw [Rat.intCast_add] at h3
    have z0 : ((0 : Int) : Rat) = 0 := rfl
    have z1 : ((1 : Int) : Rat) = 1 := rfl
    rw [if_pos hw]
    exact ⟨by grind, rfl⟩
  · right
    rw [if_neg hw]
    have h3 := castLe (show 0 ≤ (restF hs vs lv c).w by omega)
    have z0 : ((0 : Int) : Rat) = 0 := rfl
    obtain ⟨_, _, _, _, _, _, u1, u2⟩ := untilF_spec g h0 h1 hc hd h2 (by omega)
    exact ⟨by grind, rfl, u2, u1⟩
theorem received_val {v u : List S79} {lv x : Int} (h : VL v lv) (hu : VL u x) :
    ReceivedF v u lv x = if vT v (lv : Rat) < vT u (x : Rat) then erS 4 else rnd (mT v (lv : Rat) - mV v (vT v (lv : Rat) - vT u (x : Rat))) := by
  have g := hu.gv
  obtain ⟨_, _, t1, t2, t3, t4, t5⟩ := timeF_spec g.h g.v g.hv hu.h0 hu.h1
  unfold ReceivedF
  rw [if_pos h.v, if_pos hu.v, h.lv, hu.lv]
  simp only [Bool.and_self, if_true]
  rcases untilR_val h.gv h.h0 h.h1 t2 t3 t4 with ⟨a, b⟩ | ⟨a, b, c, d⟩
  · rw [t1] at a
    rw [b, if_neg (by simp), if_pos (show vT v (lv : Rat) < vT u (x : Rat) from a)]
  · rw [t1] at a d
    rw [b, if_pos rfl, if_neg (by show ¬ conv (hsO v) (vsO v) (lv : Rat) < conv (hsO u) (vsO u) (x : Rat); grind), okS_span c, d]
    rfl
theorem cascade_val {v u : List S79} {lv m : Int} (h : VL v lv) (hu : validB u = true) (m0 : 0 ≤ m) (m1 : m ≤ 16777216) :
    CascadeF v u lv m = if (sm (vsO u) : Rat) < runX v lv m then erS 4 else rnd (hV u (runX v lv m)) := by
  have g := valid_GV hu
  obtain ⟨r1, r2, r3, r4, r5⟩ := runF_spec h.gv h.h0 h.h1 m0
  have hv : (runF (hsO v) (vsO v) (dsO v) lv m).v = runX v lv m := r1
  unfold CascadeF
  rw [if_pos h.v, if_pos hu, h.lv, manyB_iff.2 ⟨m0, m1⟩]
  simp only [Bool.and_self, if_true]
  cases ha : aboveF (runF (hsO v) (vsO v) (dsO v) lv m) (sm (vsO u)) with
  | true =>
    have hx := above_lt r2 ha
    rw [hv] at hx
    rw [if_pos rfl, if_pos hx]
  | false =>
    have hx := not_above r2 ha
    rw [hv] at hx
    rw [if_neg (by simp), if_neg (by grind)]
    have q := tell g.v g.h g.hv.symm r2 r4 (by rw [hv]; exact hx) r3
    rw [okS_span q.2.2.2.1, q.2.2.1, hv]; rfl
theorem fl_le {x : Rat} {n : Int} (h : x ≤ (n : Rat)) : x.floor ≤ n := by
  have := Rat.floor_le x
  exact Rat.intCast_le_intCast.1 (by grind)
theorem le_ce {x : Rat} {n : Int} (h : (n : Rat) ≤ x) : n ≤ x.ceil := by
  have := Rat.le_ceil (x := x)
  exact Rat.intCast_le_intCast.1 (by grind)
theorem ce_nn {x : Rat} (h : 0 ≤ x) : 0 ≤ x.ceil := le_ce (by simpa using h)
section
variable {l : List S79}
theorem uT_le {lv : Int} (h : VL l lv) {x y : Rat} (x0 : 0 ≤ x) (x1 : x ≤ (sm (dsO l) : Rat)) (y0 : 0 ≤ y) (y1 : y ≤ (sm (dsO l) : Rat)) : uT l x ≤ uT l y ↔ x ≤ y := conv_le_iff (h.gv.hd.symm.trans h.gv.hv) h.gv.d.pos h.gv.v.pos x0 x1 y0 y1
theorem uT_mT {lv : Int} (h : VL l lv) {x : Rat} (h0 : 0 ≤ x) (h1 : x ≤ (sm (hsO l) : Rat)) : uT l (mT l x) = vT l x := conv_conv h.gv.hd (h.gv.hd.symm.trans h.gv.hv) h.gv.h.pos h.gv.d.pos h.gv.v.pos h0 h1
theorem uT_zero {lv : Int} (h : VL l lv) : uT l 0 = 0 := conv_zero h.gv.d.pos
theorem vT_bd {lv : Int} (h : VL l lv) {x : Rat} (h0 : 0 ≤ x) (h1 : x ≤ (sm (hsO l) : Rat)) : 0 ≤ vT l x ∧ vT l x ≤ (sm (vsO l) : Rat) := conv_bounds h.gv.hv h.gv.h.pos h.gv.v.pos h0 h1
theorem vT_le {lv : Int} (h : VL l lv) {x y : Rat} (x0 : 0 ≤ x) (x1 : x ≤ (sm (hsO l) : Rat)) (y0 : 0 ≤ y) (y1 : y ≤ (sm (hsO l) : Rat)) : vT l x ≤ vT l y ↔ x ≤ y := conv_le_iff h.gv.hv h.gv.h.pos h.gv.v.pos x0 x1 y0 y1
theorem hV_vT {lv : Int} (h : VL l lv) {x : Rat} (h0 : 0 ≤ x) (h1 : x ≤ (sm (hsO l) : Rat)) : hV l (vT l x) = x := conv_back h.gv.hv h.gv.h.pos h.gv.v.pos h0 h1
theorem hV_le {lv : Int} (h : VL l lv) {x y : Rat} (x0 : 0 ≤ x) (x1 : x ≤ (sm (vsO l) : Rat)) (y0 : 0 ≤ y) (y1 : y ≤ (sm (vsO l) : Rat)) : hV l x ≤ hV l y ↔ x ≤ y := conv_le_iff h.gv.hv.symm h.gv.v.pos h.gv.h.pos x0 x1 y0 y1
theorem hV_bd {lv : Int} (h : VL l lv) {x : Rat} (h0 : 0 ≤ x) (h1 : x ≤ (sm (vsO l) : Rat)) : 0 ≤ hV l x ∧ hV l x ≤ (sm (hsO l) : Rat) := conv_bounds h.gv.hv.symm h.gv.v.pos h.gv.h.pos h0 h1
theorem mV_bd {lv : Int} (h : VL l lv) {x : Rat} (h0 : 0 ≤ x) (h1 : x ≤ (sm (vsO l) : Rat)) : 0 ≤ mV l x ∧ mV l x ≤ (sm (dsO l) : Rat) := conv_bounds (h.gv.hv.symm.trans h.gv.hd) h.gv.v.pos h.gv.d.pos h0 h1
theorem uT_mV {lv : Int} (h : VL l lv) {x : Rat} (h0 : 0 ≤ x) (h1 : x ≤ (sm (vsO l) : Rat)) : uT l (mV l x) = x := conv_back (h.gv.hv.symm.trans h.gv.hd) h.gv.v.pos h.gv.d.pos h0 h1
theorem mV_le {lv : Int} (h : VL l lv) {x y : Rat} (x0 : 0 ≤ x) (x1 : x ≤ (sm (vsO l) : Rat)) (y0 : 0 ≤ y) (y1 : y ≤ (sm (vsO l) : Rat)) : mV l x ≤ mV l y ↔ x ≤ y := conv_le_iff (h.gv.hv.symm.trans h.gv.hd) h.gv.v.pos h.gv.d.pos x0 x1 y0 y1
theorem run_bd {a m : Int} (h : VL l a) (m0 : 0 ≤ m) : 0 ≤ runX l a m ∧ runX l a m ≤ vT l (a : Rat) ∧ runX l a m ≤ (sm (vsO l) : Rat) := by
  have p := left_bd h m0
  have h1 := mT_bd h h.c0 h.c1
  have k := (uT_le h p.1 p.2.2 h1.1 h1.2).2 p.2.1
  have z := (uT_le h (Rat.le_refl) (by grind) p.1 p.2.2).2 p.1
  rw [uT_zero h] at z
  rw [uT_mT h h.c0 h.c1] at k
  have v := vT_bd h h.c0 h.c1
  unfold runX
  exact ⟨by grind, by grind, by grind⟩
theorem received_iff {a m : Int} (h : VL l a) (m0 : 0 ≤ m) {c : Rat} (c0 : 0 ≤ c) (c1 : c ≤ vT l (a : Rat)) : c ≤ runX l a m ↔ (mT l (a : Rat) - mV l (vT l (a : Rat) - c)).ceil ≤ m := by
  have v := vT_bd h h.c0 h.c1
  have r0 : 0 ≤ vT l (a : Rat) - c := by grind
  have r1 : vT l (a : Rat) - c ≤ (sm (vsO l) : Rat) := by grind
  have p := left_bd h m0
  have q := mV_bd h r0 r1
  rw [Rat.ceil_le_iff]
  have e : uT l (leftM l a m) ≤ vT l (a : Rat) - c ↔ leftM l a m ≤ mV l (vT l (a : Rat) - c) := by
    rw [← uT_le h p.1 p.2.2 q.1 q.2, uT_mV h r0 r1]
  have e2 : c ≤ runX l a m ↔ uT l (leftM l a m) ≤ vT l (a : Rat) - c := by unfold runX; constructor <;> intro _ <;> grind
  rw [e2, e]
  unfold leftM
  split <;> grind
end
theorem level_iff {u : List S79} {x : Int} (hu : VL u x) {r : Rat} (r0 : 0 ≤ r) (r1 : r ≤ (sm (vsO u) : Rat)) : x ≤ (hV u r).floor ↔ vT u (x : Rat) ≤ r := by
  have v := vT_bd hu hu.c0 hu.c1
  rw [Rat.le_floor_iff, ← hV_le hu v.1 v.2 r0 r1, hV_vT hu hu.c0 hu.c1]
end Go.Proofs.Ytlhfclpbodfmcaa.Pr
namespace Go.Proofs.Ytlhfclpbodfmcaa.Pr
open Go.RowKit Go.Proofs.YtlhfclpbodfmcaaW.PrintWords Go.Proofs.YtlhfclpbodfmcaaW.PrintLast Go.Proofs.YtlhfclpbodfmcaaW.PrintMore
open Go.Proofs.Ytlhfclpbodfmcaa.Vm
set_option linter.unusedVariables false
set_option linter.unusedSimpArgs false
attribute [local go_sem] fld79_0 fld79_1 fld79_2
/-- What ready answers. -/
def readyC (l : List S79) (n : Int) (lv : List Int) : Int := if validB l then (if lv.all (lvB l) && manyB n then 0 else 1) else 20
theorem inB_lvB (l : List S79) (x : Int) : inB x 0 (sm (hsO l)) = lvB l x := by rw [Bool.eq_iff_iff, inB_iff, lvB_iff]
theorem inB_manyB (n : Int) : inB n 0 16777216 = manyB n := by rw [Bool.eq_iff_iff, inB_iff, manyB_iff]
theorem ready_cases (l : List S79) (n : Int) (lv : List Int) : (∃ c, readyC l n lv = c ∧ c ≠ 0) ∨ (readyC l n lv = 0 ∧ validB l = true ∧ lv.all (lvB l) = true ∧ manyB n = true) := by
  unfold readyC
  cases hv : validB l with
  | false => exact .inl ⟨20, rfl, by decide⟩
  | true =>
    cases ha : lv.all (lvB l) with
    | false => exact .inl ⟨1, rfl, by decide⟩
    | true =>
      cases hm : manyB n with
      | false => exact .inl ⟨1, rfl, by decide⟩
      | true => exact .inr ⟨rfl, rfl, rfl, rfl⟩
theorem okl {l : List S79} {f : S79 → Int} {p : Pl} (h : p.ok (l.map f).length) : p.ok l.length := by simpa using h
def ref_ready.T7 : Bool × List (List Nat × List Nat) := (true, [([], []), ([], []), ([0, 1], [0, 1]), ([2], [2]), ([], []), ([4], [4]), ([3, 5, 5], [3, 5]), ([6], [6])])
def ref_ready.B7 : List Nat := [0, 0, 3, 7, 0, 16, 63, 127]
theorem ref_ready.tab7 : rtab .any (opsOf Try.f77 7) = ref_ready.T7 := by kernel_rfl
theorem ref_ready.bits7 : waitsOk ref_ready.T7.2 ref_ready.B7 = true := by kernel_rfl
set_option maxHeartbeats 1600000 in
set_option maxRecDepth 100000 in
theorem ref_ready.calls (A0 : Option Addr) (c0 : Nat) (l0 : List S79) (n : Int) (A1 : Option Addr) (c1 : Nat) (lv : List Int) (w : World) (hr0 : Kd.C k79 w A0 l0.length l0) (hr1 : Kd.C (Kd.int .i64) w A1 lv.length lv) (hl : lv.length ≤ 1000) : Calls Try.prog 77 #[.slice A0 l0.length c0, .int .i64 n, .slice A1 lv.length c1] w fun e w' => e = .returned (.int .i64 (readyC l0 n lv)) ∧ Below w.heap.size w w' := by
  have HR0 := Aside0.mk hr0
  have HR1 := Aside0.mk hr1
  have HLL := Aside0.mk hl
  clear hr0 hr1 hl
  have HB := Aside0.mk (Below.refl w.heap.size w)
  have CK : Aside0 (∀ W, Below w.heap.size w W → Calls Try.prog 53 #[.slice A0 l0.length c0] W fun e w' => e = .returned (.int .i64 (checkF l0)) ∧ Below W.heap.size W w') := ⟨fun W hB => ref_Check.calls A0 c0 l0 W (Kd.C_below HR0.out hB)⟩
  cases hv : validB l0
  · have HE : Aside0 (readyC l0 n lv = 20) := ⟨by unfold readyC; rw [hv]; rfl⟩
    have hc : checkF l0 = 20 := by unfold checkF; rw [hv]; rfl
    have CK2 := CK.out
    rw [hc] at CK2
    have CK3 := Aside0.mk CK2
    clear CK CK2 hc hv
    go_enter Try.func77, Try.ntmps77
    go_wp2_with fail
    refine (CK3.out _ HB.out).mono ?_
    rintro e w1 ⟨rfl, hb⟩
    replace HB := bs_ HB hb
    clear hb
    go_wp2
    go_ret
    exact ⟨by first | (rw [HE.out]; done) | (rw [HE.out]; rfl), HB.out⟩
  · have HE : Aside0 (readyC l0 n lv = if lv.all (lvB l0) && manyB n then 0 else 1) := ⟨by unfold readyC; rw [hv]; rfl⟩
    have hc : checkF l0 = 0 := by unfold checkF; rw [hv]; rfl
    have CK2 := CK.out
    rw [hc] at CK2
    have CK3 := Aside0.mk CK2
    have HG := Aside0.mk (valid_GV hv)
    clear CK CK2 hc hv
    have C1 : Aside0 (∀ W, Below w.heap.size w W → Calls Try.prog 103 #[.slice A0 l0.length c0] W fun e w' => e = .returned (.int .i64 (sm (hsO l0))) ∧ Below W.heap.size W w') := ⟨fun W hB => ref_high.calls A0 c0 l0 W (Kd.C_below HR0.out hB) HG.out⟩
    go_enter Try.func77, Try.ntmps77
    go_wp2_with fail
    refine (CK3.out _ HB.out).mono ?_
    rintro e w1 ⟨rfl, hb⟩
    replace HB := bs_ HB hb
    clear hb
    go_wp2
    go_loopg [8] lv.length (fun kq v8 w' => ∃ j : Nat, v8 = .int .i64 (j : Int) ∧ Aside0 (j ≤ lv.length ∧ lv.length - j ≤ kq ∧ lv.all (lvB l0) = (lv.drop j).all (lvB l0)) ∧ Aside0 (Below w.heap.size w w'))
    case atStart => exact ⟨0, rfl, ⟨Nat.zero_le _, by omega, rfl⟩, HB⟩
    case round =>
      clear HB
      obtain ⟨j, rfl, HJ, HB⟩ := hrel
      by_cases hj : j < lv.length
      · have hd : decide ((j : Int) < (lv.length : Int)) = true := decide_eq_true (by omega)
        have hd2 : decide (j < lv.length) = true := decide_eq_true hj
        have HJL := Aside0.mk hj
        have hi0 : (0 : Int) ≤ (j : Int) := by omega
        have hi1 : (j : Int) < (lv.length : Int) := by omega
        obtain ⟨ad, q_, x0_⟩ := Kd.at_int HR1.out (j : Int) hi0 hi1
        subst q_
        simp only [Int.toNat_natCast] at x0_
        have X0 := Aside0.mk x0_
        clear x0_
        have EW : Aside0 (wrap64 ((j : Int) + 1) = ((j + 1 : Nat) : Int)) := ⟨by have := HLL.out; rw [wrp_ (by omega) (by omega)]; rfl⟩
        have HDR : Aside0 ((lv.drop j).all (lvB l0) = (lvB l0 (rd lv (j : Int)) && (lv.drop (j + 1)).all (lvB l0))) := ⟨by rw [List.drop_eq_getElem_cons hj, List.all_cons]; simp [rd, List.getElem?_eq_getElem hj]⟩
        clear hj
        cases hb1 : lvB l0 (rd lv (j : Int))
        · have C2 : Aside0 (∀ W, Calls Try.prog 104 #[.int .i64 (rd lv (j : Int)), .int .i64 0, .int .i64 (sm (hsO l0))] W fun e w' => e = .returned (.bool false) ∧ Below W.heap.size W w') := ⟨fun W => hb1 ▸ inB_lvB l0 _ ▸ ref_within.calls (rd lv (j : Int)) 0 (sm (hsO l0)) W⟩
          have HX : Aside0 (lv.all (lvB l0) = false) := ⟨by rw [HJ.out.2.2, HDR.out, hb1]; rfl⟩
          clear hb1
          go_wp2
          replace HB := bd_ HB
          refine sM_ [] (fun w' => w'.cell? (ad.add j) = some (.int .i64 (rd lv (j : Int)))) ref_ready.tab7 ref_ready.bits7 (pw_cell_below HB.out X0.out) (fun hHeld HT_ HW_ => ?_)
          generalize wr.drew = w3 at HB hHeld ⊢
          refine pM_ HT_ 0 20 1 ?_
          refine pM_ HT_ 1 21 3 ?_
          refine pM_ HT_ 2 22 7 ?_
          refine pM_ HT_ 4 24 23 ?_
          refine tM_ HT_ HW_ hHeld 3 23 31 ?_
          refine oM_ HT_ 5 (some 25) 63 (fun K hK => ?_)
          refine gM_ Try.func103 (C1.out _ HB.out) ?_
          rintro e w4 ⟨rfl, hb⟩
          refine ⟨.int .i64 _, rfl, ?_⟩
          replace hb := nb_ HB hb
          replace HB := bs_ HB hb
          (try clear hb)
          refine hK.out _ _ (pw_cell_below HB.out X0.out) (fun hHeld => ?_)
          clear hK K
          refine nM_ ?_
          refine oM_ HT_ 6 (some 26) 127 (fun K hK => ?_)
          refine gM_ Try.func104 (C2.out _) ?_
          rintro e w5 ⟨rfl, hb⟩
          refine ⟨.bool _, rfl, ?_⟩
          replace hb := nb_ HB hb
          replace HB := bs_ HB hb
          (try clear hb)
          refine hK.out _ _ (pw_cell_below HB.out X0.out) (fun hHeld => ?_)
          clear hK K
          refine nM_ ?_
          refine pM_ HT_ 7 27 255 ?_
          refine dM_ HT_ ?_
          go_wp2
          go_ret
          exact ⟨by first | (rw [HE.out, HX.out]; done) | (rw [HE.out, HX.out]; rfl), HB.out⟩
        · have C2 : Aside0 (∀ W, Calls Try.prog 104 #[.int .i64 (rd lv (j : Int)), .int .i64 0, .int .i64 (sm (hsO l0))] W fun e w' => e = .returned (.bool true) ∧ Below W.heap.size W w') := ⟨fun W => hb1 ▸ inB_lvB l0 _ ▸ ref_within.calls (rd lv (j : Int)) 0 (sm (hsO l0)) W⟩
          have HX : Aside0 (lv.all (lvB l0) = (lv.drop (j + 1)).all (lvB l0)) := ⟨by rw [HJ.out.2.2, HDR.out, hb1]; rfl⟩
          clear hb1
          go_wp2
          replace HB := bd_ HB
          refine sM_ [] (fun w' => w'.cell? (ad.add j) = some (.int .i64 (rd lv (j : Int)))) ref_ready.tab7 ref_ready.bits7 (pw_cell_below HB.out X0.out) (fun hHeld HT_ HW_ => ?_)
          generalize wr.drew = w3 at HB hHeld ⊢
          refine pM_ HT_ 0 20 1 ?_
          refine pM_ HT_ 1 21 3 ?_
          refine pM_ HT_ 2 22 7 ?_
          refine pM_ HT_ 4 24 23 ?_
          refine tM_ HT_ HW_ hHeld 3 23 31 ?_
          refine oM_ HT_ 5 (some 25) 63 (fun K hK => ?_)
          refine gM_ Try.func103 (C1.out _ HB.out) ?_
          rintro e w4 ⟨rfl, hb⟩
          refine ⟨.int .i64 _, rfl, ?_⟩
          replace hb := nb_ HB hb
          replace HB := bs_ HB hb
          (try clear hb)
          refine hK.out _ _ (pw_cell_below HB.out X0.out) (fun hHeld => ?_)
          clear hK K
          refine nM_ ?_
          refine oM_ HT_ 6 (some 26) 127 (fun K hK => ?_)
          refine gM_ Try.func104 (C2.out _) ?_
          rintro e w5 ⟨rfl, hb⟩
          refine ⟨.bool _, rfl, ?_⟩
          replace hb := nb_ HB hb
          replace HB := bs_ HB hb
          (try clear hb)
          refine hK.out _ _ (pw_cell_below HB.out X0.out) (fun hHeld => ?_)
          clear hK K
          refine nM_ ?_
          refine pM_ HT_ 7 27 255 ?_
          refine dM_ HT_ ?_
          go_wp2
          go_roundg (gk - 1)
          case measure => have := HJ.out; have := HJL.out; omega
          case rel => exact ⟨j + 1, by rw [EW.out], ⟨by have := HJL.out; omega, by have := HJ.out; omega, HX.out⟩, HB⟩
      · have hd : decide ((j : Int) < (lv.length : Int)) = false := decide_eq_false (by omega)
        have hd2 : decide (j < lv.length) = false := decide_eq_false hj
        have HX : Aside0 (lv.all (lvB l0) = true) := ⟨by rw [HJ.out.2.2, List.drop_of_length_le (by omega)]; rfl⟩
        clear hj
        cases hm : manyB n
        · have HV : Aside0 (readyC l0 n lv = 1) := ⟨by rw [HE.out, HX.out, hm]; rfl⟩
          have C3 : Aside0 (∀ W, Calls Try.prog 104 #[.int .i64 n, .int .i64 0, .int .i64 16777216] W fun e w' => e = .returned (.bool false) ∧ Below W.heap.size W w') := ⟨fun W => hm ▸ inB_manyB n ▸ ref_within.calls n 0 16777216 W⟩
          clear hm
          go_wp2_with fail
          refine (C3.out _).mono ?_
          rintro e w3 ⟨rfl, hb⟩
          replace HB := bs_ HB hb
          clear hb
          go_wp2
          go_ret
          exact ⟨by first | (rw [HV.out]; done) | (rw [HV.out]; rfl), HB.out⟩
        · have HV : Aside0 (readyC l0 n lv = 0) := ⟨by rw [HE.out, HX.out, hm]; rfl⟩
          have C3 : Aside0 (∀ W, Calls Try.prog 104 #[.int .i64 n, .int .i64 0, .int .i64 16777216] W fun e w' => e = .returned (.bool true) ∧ Below W.heap.size W w') := ⟨fun W => hm ▸ inB_manyB n ▸ ref_within.calls n 0 16777216 W⟩
          clear hm
          go_wp2_with fail
          refine (C3.out _).mono ?_
          rintro e w3 ⟨rfl, hb⟩
          replace HB := bs_ HB hb
          clear hb
          go_wp2
          go_ret
          exact ⟨by first | (rw [HV.out]; done) | (rw [HV.out]; rfl), HB.out⟩
end Go.Proofs.Ytlhfclpbodfmcaa.Pr
namespace Go.Proofs.Ytlhfclpbodfmcaa.Pr
open Go.RowKit Go.Proofs.YtlhfclpbodfmcaaW.PrintWords Go.Proofs.YtlhfclpbodfmcaaW.PrintLast Go.Proofs.YtlhfclpbodfmcaaW.PrintMore
open Go.Proofs.Ytlhfclpbodfmcaa.Vm
set_option linter.unusedVariables false
set_option linter.unusedSimpArgs false
attribute [local go_sem] fld79_0 fld79_1 fld79_2 max2_int max_two
theorem spanD_v {n d : Int} (hd : 1 ≤ d) {x : Rat} (h : (n : Rat) / (d : Rat) = x) : spanD n d = (x.floor, x.ceil) := by
  unfold spanD
  rw [← h, floor_div n d hd, ceil_div n d hd]
theorem less_v {a b c d : Int} (hb : 1 ≤ b) (hd : 1 ≤ d) : ((a * d - c * b : Int) : Rat) / ((b * d : Int) : Rat) = (a : Rat) / (b : Rat) - (c : Rat) / (d : Rat) := by
  have b1 := one_le hb
  have d1 := one_le hd
  rw [Rat.intCast_sub, Rat.intCast_mul, Rat.intCast_mul, Rat.intCast_mul]
  have : (b : Rat) * (d : Rat) ≠ 0 := by
    have := Rat.mul_pos (a := (b : Rat)) (b := (d : Rat)) (by grind) (by grind)
    grind
  grind
/-- What belongs to a place, on another scale. -/
theorem time_conv {as_ bs : List Int} (hl : as_.length = bs.length) (ha : Pos as_) (hb : Pos bs) {p : Pl} (hp : p.ok as_.length) {x : Rat} (hx : pv as_ p = x) : (timeN bs p : Rat) / (p.d : Rat) = conv as_ bs x := by
  rw [timeN_v hp.2.2.2, ← conv_pv hl ha hb hp, hx]
theorem div_one_ (x : Rat) : x / ((1 : Int) : Rat) = x := by have : ((1 : Int) : Rat) = 1 := rfl; grind
theorem le_of_div {n d : Int} {x : Rat} (hd : 1 ≤ d) (h : (n : Rat) / (d : Rat) = x) (m : Int) : n ≤ m * d ↔ x ≤ (m : Rat) := by
  have d1 := one_le hd
  rw [← h]
  constructor
  · intro hh
    refine div_le d1 ?_
    have := castLe hh
    rwa [Rat.intCast_mul] at this
  · intro hh
    have h2 := Rat.mul_le_mul_of_nonneg_right hh (c := (d : Rat)) (by grind)
    have h3 : (n : Rat) / (d : Rat) * (d : Rat) = (n : Rat) := by grind
    rw [h3, ← Rat.intCast_mul] at h2
    exact Rat.intCast_le_intCast.1 h2
def ref_after.T2 : Bool × List (List Nat × List Nat) := (true, [([], []), ([], []), ([], []), ([1, 2], [1, 2]), ([], []), ([], []), ([5], [5]), ([4, 6], [4, 6]), ([3, 7], [3, 7]), ([8], [8]), ([], []), ([10], [10]), ([0, 9, 11, 3], [0, 9, 11]), ([12, 12, 0, 1, 2, 3, 4, 5, 6, 7, 8, 9, 10, 11, 12], [12])])
def ref_after.B2 : List Nat := [0, 0, 0, 6, 0, 0, 32, 112, 254, 510, 0, 1024, 4095, 8191]
theorem ref_after.tab2 : rtab .any (opsOf Try.f84 2) = ref_after.T2 := by kernel_rfl
theorem ref_after.bits2 : waitsOk ref_after.T2.2 ref_after.B2 = true := by kernel_rfl
set_option maxHeartbeats 1600000 in
set_option maxRecDepth 100000 in
theorem ref_after.calls (A0 : Option Addr) (c0 : Nat) (l0 : List S79) (lv m : Int) (w : World) (hr0 : Kd.C k79 w A0 l0.length l0) (hL : VL l0 lv) (m0 : 0 ≤ m) (m1 : m ≤ 16777216) :
    Calls Try.prog 84 #[.slice A0 l0.length c0, .int .i64 lv, .int .i64 m] w (PlaceP w (dsO l0) (leftM l0 lv m) 20000000) := by
  have hu96 := Try.underlying96
  have HR0 := Aside0.mk hr0
  have HL := Aside0.mk hL
  have HG := Aside0.mk hL.gv
  have HM := Aside0.mk (And.intro m0 m1)
  clear hr0 hL m0 m1
  have HB := Aside0.mk (Below.refl w.heap.size w)
  have C1 : Aside0 (∀ W, Below w.heap.size w W → Calls Try.prog 78 #[.slice A0 l0.length c0, .int .i64 lv] W (PlaceP W (hsO l0) (lv : Rat) (1000 * 1))) := ⟨fun W hB => by
    have h := ref_AtLevel.calls A0 c0 l0 lv W (Kd.C_below HR0.out hB) HG.out HL.out.h0 (by have := HL.out.h1; omega)
    rwa [div_one_] at h⟩
  go_enter Try.func84, Try.ntmps84
  go_wp2_with (first | ((with_reducible refine gate_dst (N := 6) rfl ?_); refine bx_ 6 #[.int .i64 0, .int .i64 0, .int .i64 0] 96 ?_; intro gr hg w1 hbox hb; have GEgr := ge_ hg HB; replace hb := nb_ HB hb; replace HB := bs_ HB hb; have BKgr := Aside0.mk hbox; clear hb hbox hg))
  go_wp2_with fail
  refine (C1.out _ HB.out).mono ?_
  rintro e w2 ⟨p, rfl, hp_, hv_, hd_, hb⟩
  have HP := Aside0.mk (And.intro hp_ (And.intro hv_ hd_))
  clear hp_ hv_ hd_
  replace hb := nb_ HB hb
  replace BKgr := kb_ BKgr hb
  replace HB := bs_ HB hb
  clear hb C1
  go_upto_region 2 with (fail)
  have BKgp := Aside0.mk (blk_new w2 (.cells #[.int .i64 ((p.r : Int)), .int .i64 (p.n), .int .i64 (p.d)] 96 (0, 0)))
  have hb := below_alloc (Below.refl _ w2) (.cells #[.int .i64 ((p.r : Int)), .int .i64 (p.n), .int .i64 (p.d)] 96 (0, 0))
  have NEgr_gp : Aside0 (gr ≠ w2.heap.size) := ne_ rfl BKgr
  replace BKgr := kb_ BKgr hb
  have GEgp : Aside0 (w.heap.size ≤ w2.heap.size) := ge_ rfl HB
  replace HB := bs_ HB hb
  clear hb
  generalize w2.alloc (.cells #[.int .i64 ((p.r : Int)), .int .i64 (p.n), .int .i64 (p.d)] 96 (0, 0)) = w3 at BKgp BKgr HB ⊢
  generalize w2.heap.size = gp at BKgp GEgp NEgr_gp ⊢
  have HT : Aside0 (0 ≤ timeN (dsO l0) p ∧ timeN (dsO l0) p ≤ sm (dsO l0) * p.d ∧ 1 ≤ p.d ∧ p.d ≤ 1000) := ⟨⟨(timeN_bd HG.out.d (HG.out.hd ▸ HP.out.1)).1, (timeN_bd HG.out.d (HG.out.hd ▸ HP.out.1)).2, HP.out.1.2.2.2, Int.le_trans HP.out.2.2 (by omega)⟩⟩
  have HMD : Aside0 (0 ≤ m * p.d ∧ m * p.d ≤ 16777216 * 1000 ∧ sm (dsO l0) * p.d ≤ 480000 * 1000) := ⟨by
    have hm := HM.out
    have ht := HT.out
    have hS := HG.out.sums
    exact ⟨Int.mul_nonneg hm.1 (by omega), Int.mul_le_mul hm.2 ht.2.2.2 (by omega) (by omega), Int.mul_le_mul hS.2.2 ht.2.2.2 (by omega) (by omega)⟩⟩
  have C2 : Aside0 (∀ W, Below w.heap.size w W → Calls Try.prog 80 #[.slice A0 l0.length c0, .agg #[.int .i64 ((p).r : Int), .int .i64 (p).n, .int .i64 (p).d]] W fun e w' => e = .returned (.int .i64 (timeN (dsO l0) p)) ∧ Below W.heap.size W w') := ⟨fun W hB => ref_Time.calls A0 c0 l0 p W (Kd.C_below HR0.out hB) HG.out (okl HP.out.1) (Int.le_trans HP.out.2.2 (by omega))⟩
  have e1 : wrap64 (m * p.d) = m * p.d := by have := HMD.out; exact wrp_ (by omega) (by omega)
  have e2 : wrap64 (timeN (dsO l0) p - m * p.d) = timeN (dsO l0) p - m * p.d := by have := HMD.out; have := HT.out; exact wrp_ (by omega) (by omega)
  obtain ⟨M, hM⟩ : ∃ M, (if m * p.d < timeN (dsO l0) p then timeN (dsO l0) p - m * p.d else 0) = M := ⟨_, rfl⟩
  have HN : Aside0 (0 ≤ M ∧ M ≤ sm (dsO l0) * p.d ∧ (M : Rat) / (p.d : Rat) = leftM l0 lv m) := ⟨by
    have ht := HT.out
    have hmd := HMD.out
    have d1 := one_le ht.2.2.1
    have tv : (timeN (dsO l0) p : Rat) / (p.d : Rat) = mT l0 (lv : Rat) := time_conv HG.out.hd HG.out.h.pos HG.out.d.pos HP.out.1 HP.out.2.1
    have lm := le_of_div ht.2.2.1 tv m
    unfold leftM
    by_cases hx : m * p.d < timeN (dsO l0) p
    · rw [if_pos hx] at hM
      subst hM
      refine ⟨by omega, by omega, ?_⟩
      rw [if_neg (fun h => by have := lm.2 h; omega), Rat.intCast_sub, Rat.intCast_mul, ← tv]
      grind
    · rw [if_neg hx] at hM
      subst hM
      refine ⟨by omega, by omega, ?_⟩
      rw [if_pos (lm.1 (by omega))]
      have : ((0 : Int) : Rat) = 0 := rfl
      grind⟩
  have C3 : Aside0 (∀ W, Below w.heap.size w W → Calls Try.prog 92 #[.slice A0 l0.length c0, (.int .i64 M), .int .i64 (p.d)] W (PlaceP W (dsO l0) ((M : Rat) / (p.d : Rat)) (20000 * p.d))) := ⟨fun W hB => ref_AtTime.calls A0 c0 l0 M p.d W (Kd.C_below HR0.out hB) HG.out HN.out.1 HT.out.2.2.1 (by have := HT.out; omega) HN.out.2.1⟩
  replace BKgr := kd_ BKgr
  replace BKgp := kd_ BKgp
  replace HB := bd_ HB
  refine sM_ [13] (fun w' => (w'.cell? ⟨gp, 0, none⟩ = some (.int .i64 ((p.r : Int))) ∧ w'.cell? ⟨gp, 1, none⟩ = some (.int .i64 (p.n)) ∧ w'.cell? ⟨gp, 2, none⟩ = some (.int .i64 (p.d)))) ref_after.tab2 ref_after.bits2 (c3_ BKgp) (fun hHeld HT_ HW_ => ?_)
  generalize w3.drew = w4 at BKgr BKgp HB hHeld ⊢
  refine pM_ HT_ 0 11 1 ?_
  refine pM_ HT_ 1 12 3 ?_
  refine pM_ HT_ 4 15 19 ?_
  refine pM_ HT_ 5 16 51 ?_
  refine pM_ HT_ 10 21 1075 ?_
  refine tM_ HT_ HW_ hHeld 2 13 1079 ?_
  refine tM_ HT_ HW_ hHeld 6 17 1143 ?_
  refine pM_ HT_ 7 18 1271 ?_
  refine tM_ HT_ HW_ hHeld 11 22 3319 ?_
  refine oM_ HT_ 3 (some 14) 3327 (fun K hK => ?_)
  refine gM_ Try.func80 (C2.out _ HB.out) ?_
  rintro e w5 ⟨rfl, hb⟩
  refine ⟨.int .i64 _, rfl, ?_⟩
  replace hb := nb_ HB hb
  replace BKgr := kb_ BKgr hb
  replace BKgp := kb_ BKgp hb
  replace HB := bs_ HB hb
  (try clear hb)
  refine hK.out _ _ (c3_ BKgp) (fun hHeld => ?_)
  clear hK K
  refine nM_ ?_
  refine pM_ HT_ 8 19 3583 ?_
  refine pM_ HT_ 9 20 4095 ?_
  refine oM_ HT_ 12 (some 23) 8191 (fun K hK => ?_)
  refine gM_ Try.func92 (C3.out _ HB.out) ?_
  rintro e w6 ⟨q, rfl, hq1, hq2, hq3, hb⟩
  refine ⟨_, rfl, ?_⟩
  replace hb := nb_ HB hb
  replace BKgr := kb_ BKgr hb
  replace BKgp := kb_ BKgp hb
  replace HB := bs_ HB hb
  have HQ := Aside0.mk (And.intro hq1 (And.intro hq2 hq3))
  clear hq1 hq2 hq3
  (try clear hb)
  refine hK.out _ _ (c3_ BKgp) (fun hHeld => ?_)
  clear hK K
  refine nM_ ?_
  refine lM_ HT_ 13 none 16383 (fun K hK => ?_)
  have hc_ := cf3_ BKgr
  refine sk3_ ?_
  intro ws_ hp_
  clear hc_
  refine hK.out _ _ ?_
  clear hK K
  refine dM_ HT_ ?_
  try go_wp2
  refine bodyPost_ret (results_cell_row rfl _ _ gr 96 #[.int .i64 (q.r : Int), .int .i64 q.n, .int .i64 q.d] (0, 0) _ rfl (pp3_ BKgr hp_).out Try.underlying96 rfl (by kernel_rfl)) rfl ?_
  exact ⟨q, rfl, HQ.out.1, HQ.out.2.1.trans HN.out.2.2, Int.le_trans HQ.out.2.2 (by have := HT.out; omega), (pb3_ GEgr HB hp_).out⟩
end Go.Proofs.Ytlhfclpbodfmcaa.Pr
namespace Go.Proofs.Ytlhfclpbodfmcaa.Pr
open Go.RowKit Go.Proofs.YtlhfclpbodfmcaaW.PrintWords Go.Proofs.YtlhfclpbodfmcaaW.PrintLast Go.Proofs.YtlhfclpbodfmcaaW.PrintMore
open Go.Proofs.Ytlhfclpbodfmcaa.Vm
set_option linter.unusedVariables false
set_option linter.unusedSimpArgs false
attribute [local go_sem] fld79_0 fld79_1 fld79_2 max2_int max_two
/-- How two fractions compare. -/
def cmpI (a b c d : Int) : Int := if a * d < c * b then -1 else if c * b < a * d then 1 else 0
theorem cmp_lt {a b c d : Int} (hb : 1 ≤ b) (hd : 1 ≤ d) (h : a / b < c / d) : cmpI a b c d = -1 := by
  have e1 := Int.emod_add_mul_ediv a b
  have e2 := Int.emod_add_mul_ediv c d
  have x1 := Int.emod_lt_of_pos a (show 0 < b by omega)
  have y0 := Int.emod_nonneg c (show d ≠ 0 by omega)
  unfold cmpI
  rw [if_pos]
  have h1 : a + 1 ≤ b * (c / d) := by
    have := Int.mul_le_mul_of_nonneg_left (show a / b + 1 ≤ c / d by omega) (show 0 ≤ b by omega)
    rw [Int.mul_add] at this
    omega
  have h2 : d * (c / d) ≤ c := by omega
  have h3 := Int.mul_le_mul_of_nonneg_right h1 (show 0 ≤ d by omega)
  have h4 := Int.mul_le_mul_of_nonneg_left h2 (show 0 ≤ b by omega)
  have h5 : b * (c / d) * d = b * (d * (c / d)) := by rw [Int.mul_assoc, Int.mul_comm (c / d) d]
  rw [Int.add_mul, h5] at h3
  rw [Int.mul_comm c b]
  omega
theorem cmp_gt {a b c d : Int} (hb : 1 ≤ b) (hd : 1 ≤ d) (h : c / d < a / b) : cmpI a b c d = 1 := by
  have := cmp_lt hd hb h
  unfold cmpI at this ⊢
  split at this
  · rw [if_neg (by omega), if_pos (by omega)]
  · split at this <;> omega
theorem cmp_eq {a b c d : Int} (h : a / b = c / d) : a * d - c * b = (a % b) * d - (c % d) * b := by
  have e1 := Int.emod_add_mul_ediv a b
  have e2 := Int.emod_add_mul_ediv c d
  have h1 : a * d = (a % b) * d + b * (a / b) * d := by rw [← Int.add_mul, e1]
  have h2 : c * b = (c % d) * b + d * (c / d) * b := by rw [← Int.add_mul, e2]
  have h3 : b * (a / b) * d = d * (c / d) * b := by rw [h, Int.mul_comm b (c / d), Int.mul_assoc, Int.mul_comm d (c / d), Int.mul_assoc, Int.mul_comm b d]
  omega
theorem cmp_turn {a b c d : Int} (h : a * d - c * b = (a % b) * d - (c % d) * b) : cmpI d (c % d) b (a % b) = cmpI a b c d := by
  have e1 := Int.mul_comm (a % b) d
  have e2 := Int.mul_comm (c % d) b
  unfold cmpI
  by_cases k1 : a * d < c * b
  · rw [if_pos k1, if_pos (by omega)]
  · rw [if_neg k1, if_neg (by omega)]
    by_cases k2 : c * b < a * d
    · rw [if_pos k2, if_pos (by omega)]
    · rw [if_neg k2, if_neg (by omega)]
def ref_compare.T1 : Bool × List (List Nat × List Nat) := (true, [([], []), ([], []), ([0, 1], [0, 1]), ([], []), ([], []), ([3, 4], [3, 4]), ([2, 5], [2, 5])])
def ref_compare.B1 : List Nat := [0, 0, 3, 0, 0, 24, 63]
theorem ref_compare.tab1 : rtab .any (opsOf Try.f137 1) = ref_compare.T1 := by kernel_rfl
theorem ref_compare.bits1 : waitsOk ref_compare.T1.2 ref_compare.B1 = true := by kernel_rfl
def ref_compare.T3 : Bool × List (List Nat × List Nat) := (true, [([], []), ([], []), ([0, 1], [0, 1]), ([], []), ([], []), ([3, 4], [3, 4]), ([2, 5], [2, 5])])
def ref_compare.B3 : List Nat := [0, 0, 3, 0, 0, 24, 63]
theorem ref_compare.tab3 : rtab .any (opsOf Try.f137 3) = ref_compare.T3 := by kernel_rfl
theorem ref_compare.bits3 : waitsOk ref_compare.T3.2 ref_compare.B3 = true := by kernel_rfl
def ref_compare.T5 : Bool × List (List Nat × List Nat) := (true, [([], []), ([], []), ([0, 1], [0, 1]), ([], []), ([], []), ([3, 4], [3, 4]), ([2, 0, 1, 2], [2]), ([5, 6, 0, 1, 2, 3, 4, 5, 6], [5])])
def ref_compare.B5 : List Nat := [0, 0, 3, 0, 0, 24, 7, 127]
theorem ref_compare.tab5 : rtab .any (opsOf Try.f137 5) = ref_compare.T5 := by kernel_rfl
theorem ref_compare.bits5 : waitsOk ref_compare.T5.2 ref_compare.B5 = true := by kernel_rfl
set_option maxHeartbeats 1600000 in
set_option maxRecDepth 100000 in
theorem ref_compare.calls : ∀ (k : Nat) (a b c d : Int) (w : World), 0 ≤ a → a ≤ 1000000000000000000 → 1 ≤ b → b ≤ 1000000000000000000 → 0 ≤ c → c ≤ 1000000000000000000 → 1 ≤ d → d ≤ 1000000000000000000 → (b + d).toNat ≤ k →
    Calls Try.prog 137 #[.int .i64 a, .int .i64 b, .int .i64 c, .int .i64 d] w fun e w' => e = .returned (.int .i64 (cmpI a b c d)) ∧ Below w.heap.size w w' := by
  intro k
  induction k with
  | zero => intro a b c d w _ _ hb _ _ _ hd _ hk; omega
  | succ k ih =>
    intro a b c d w a0 a1 b0 b1 c0 c1 d0 d1 hk
    have IH := Aside0.mk ih
    clear ih
    have HB := Aside0.mk (Below.refl w.heap.size w)
    have q0 := Int.ediv_nonneg a0 (show 0 ≤ b by omega)
    have q1 := Int.ediv_le_self b a0
    have q2 := Int.ediv_nonneg c0 (show 0 ≤ d by omega)
    have q3 := Int.ediv_le_self d c0
    have x0 := Int.emod_nonneg a (show b ≠ 0 by omega)
    have x1 := Int.emod_lt_of_pos a (show 0 < b by omega)
    have y0 := Int.emod_nonneg c (show d ≠ 0 by omega)
    have y1 := Int.emod_lt_of_pos c (show 0 < d by omega)
    have t1 : a.tdiv b = a / b := Int.tdiv_eq_ediv_of_nonneg a0
    have t2 : c.tdiv d = c / d := Int.tdiv_eq_ediv_of_nonneg c0
    have t3 : a.tmod b = a % b := Int.tmod_eq_emod_of_nonneg a0
    have t4 : c.tmod d = c % d := Int.tmod_eq_emod_of_nonneg c0
    have w1 : wrap64 (a / b) = a / b := wrp_ (by omega) (by omega)
    have w2 : wrap64 (c / d) = c / d := wrp_ (by omega) (by omega)
    have w3 : wrap64 (a % b) = a % b := wrp_ (by omega) (by omega)
    have w4 : wrap64 (c % d) = c % d := wrp_ (by omega) (by omega)
    have z1 : (b == 0) = false := beq_eq_false_iff_ne.2 (by omega)
    have z2 : ¬ b = 0 := by omega
    have z3 : (d == 0) = false := beq_eq_false_iff_ne.2 (by omega)
    have z4 : ¬ d = 0 := by omega
    have HA : Aside0 (0 ≤ a ∧ a ≤ 1000000000000000000 ∧ 1 ≤ b ∧ b ≤ 1000000000000000000 ∧ 0 ≤ c ∧ c ≤ 1000000000000000000 ∧ 1 ≤ d ∧ d ≤ 1000000000000000000 ∧ (b + d).toNat ≤ k + 1 ∧ 0 ≤ a % b ∧ a % b < b ∧ 0 ≤ c % d ∧ c % d < d) := ⟨⟨a0, a1, b0, b1, c0, c1, d0, d1, hk, x0, x1, y0, y1⟩⟩
    clear a0 a1 b0 b1 c0 c1 d0 d1 hk q0 q1 q2 q3 x0 x1 y0 y1
    go_enter Try.func137, Try.ntmps137
    go_wp2
    replace HB := bd_ HB
    refine sM_ [] (fun w' => True) ref_compare.tab1 ref_compare.bits1 trivial (fun hHeld HT_ HW_ => ?_)
    generalize w.drew = u1 at HB hHeld ⊢
    refine pM_ HT_ 0 11 1 ?_
    refine pM_ HT_ 1 12 3 ?_
    refine pM_ HT_ 2 13 7 ?_
    refine pM_ HT_ 3 14 15 ?_
    refine pM_ HT_ 4 15 31 ?_
    refine pM_ HT_ 5 16 63 ?_
    refine pM_ HT_ 6 17 127 ?_
    refine dM_ HT_ ?_
    by_cases h1 : a / b < c / d
    · have g : decide (a / b < c / d) = true := decide_eq_true h1
      have HX : Aside0 (cmpI a b c d = -1) := ⟨cmp_lt HA.out.2.2.1 HA.out.2.2.2.2.2.2.1 h1⟩
      go_wp2
      go_ret
      exact ⟨by first | (rw [HX.out]; done) | (rw [HX.out]; rfl), HB.out⟩
    · have g : decide (a / b < c / d) = false := decide_eq_false h1
      go_wp2
      replace HB := bd_ HB
      refine sM_ [] (fun w' => True) ref_compare.tab3 ref_compare.bits3 trivial (fun hHeld HT_ HW_ => ?_)
      generalize u1.drew = u2 at HB hHeld ⊢
      refine pM_ HT_ 0 18 1 ?_
      refine pM_ HT_ 1 19 3 ?_
      refine pM_ HT_ 2 20 7 ?_
      refine pM_ HT_ 3 21 15 ?_
      refine pM_ HT_ 4 22 31 ?_
      refine pM_ HT_ 5 23 63 ?_
      refine pM_ HT_ 6 24 127 ?_
      refine dM_ HT_ ?_
      by_cases h2 : c / d < a / b
      · have g0 : decide (c / d < a / b) = true := decide_eq_true h2
        have HX : Aside0 (cmpI a b c d = 1) := ⟨cmp_gt HA.out.2.2.1 HA.out.2.2.2.2.2.2.1 h2⟩
        go_wp2
        go_ret
        exact ⟨by first | (rw [HX.out]; done) | (rw [HX.out]; rfl), HB.out⟩
      · have g0 : decide (c / d < a / b) = false := decide_eq_false h2
        go_wp2
        replace HB := bd_ HB
        refine sM_ [] (fun w' => True) ref_compare.tab5 ref_compare.bits5 trivial (fun hHeld HT_ HW_ => ?_)
        generalize u2.drew = u3 at HB hHeld ⊢
        refine pM_ HT_ 0 25 1 ?_
        refine pM_ HT_ 1 26 3 ?_
        refine pM_ HT_ 2 27 7 ?_
        refine pM_ HT_ 3 28 15 ?_
        refine pM_ HT_ 4 29 31 ?_
        refine pM_ HT_ 5 30 63 ?_
        refine pM_ HT_ 6 9 127 ?_
        refine pM_ HT_ 7 10 255 ?_
        refine dM_ HT_ ?_
        have HQ : Aside0 (a * d - c * b = (a % b) * d - (c % d) * b) := ⟨cmp_eq (by omega)⟩
        clear h1 h2
        by_cases hx : a % b = 0
        · have g1 : (a % b == 0) = true := beq_iff_eq.2 hx
          by_cases hy : c % d = 0
          · have g2 : (c % d == 0) = true := beq_iff_eq.2 hy
            have HX : Aside0 (cmpI a b c d = 0) := ⟨by have h := HQ.out; rw [hx, hy] at h; unfold cmpI; rw [if_neg (by omega), if_neg (by omega)]⟩
            clear hx hy
            go_wp2
            go_ret
            exact ⟨by first | (rw [HX.out]; done) | (rw [HX.out]; rfl), HB.out⟩
          · have g2 : (c % d == 0) = false := beq_eq_false_iff_ne.2 hy
            have HX : Aside0 (cmpI a b c d = -1) := ⟨by have h := HQ.out; have ha := HA.out; rw [hx] at h; have m := Int.mul_le_mul (show 1 ≤ c % d by omega) ha.2.2.1 (by omega) (by omega); unfold cmpI; rw [if_pos (by omega)]⟩
            clear hx hy
            go_wp2
            go_ret
            exact ⟨by first | (rw [HX.out]; done) | (rw [HX.out]; rfl), HB.out⟩
        · have g1 : (a % b == 0) = false := beq_eq_false_iff_ne.2 hx
          by_cases hy : c % d = 0
          · have g2 : (c % d == 0) = true := beq_iff_eq.2 hy
            have HX : Aside0 (cmpI a b c d = 1) := ⟨by have h := HQ.out; have ha := HA.out; rw [hy] at h; have m := Int.mul_le_mul (show 1 ≤ a % b by omega) ha.2.2.2.2.2.2.1 (by omega) (by omega); unfold cmpI; rw [if_neg (by omega), if_pos (by omega)]⟩
            clear hx hy
            go_wp2
            go_ret
            exact ⟨by first | (rw [HX.out]; done) | (rw [HX.out]; rfl), HB.out⟩
          · have g2 : (c % d == 0) = false := beq_eq_false_iff_ne.2 hy
            have HX : Aside0 (cmpI d (c % d) b (a % b) = cmpI a b c d) := ⟨cmp_turn HQ.out⟩
            have CI : Aside0 (∀ W, Calls Try.prog 137 #[.int .i64 d, .int .i64 (c % d), .int .i64 b, .int .i64 (a % b)] W fun e w' => e = .returned (.int .i64 (cmpI d (c % d) b (a % b))) ∧ Below W.heap.size W w') := ⟨fun W => by have ha := HA.out; exact IH.out d (c % d) b (a % b) W (by omega) (by omega) (by omega) (by omega) (by omega) (by omega) (by omega) (by omega) (by omega)⟩
            clear hx hy
            go_wp2_with fail
            refine (CI.out _).mono ?_
            rintro e v1 ⟨rfl, hb⟩
            replace HB := bs_ HB hb
            clear hb
            go_wp2
            go_ret
            exact ⟨by first | (rw [HX.out]; done) | (rw [HX.out]; rfl), HB.out⟩
end Go.Proofs.Ytlhfclpbodfmcaa.Pr
namespace Go.Proofs.Ytlhfclpbodfmcaa.Pr
open Go.RowKit Go.Proofs.YtlhfclpbodfmcaaW.PrintWords Go.Proofs.YtlhfclpbodfmcaaW.PrintLast Go.Proofs.YtlhfclpbodfmcaaW.PrintMore
set_option linter.unusedVariables false
/-- A literal row of numbers. -/
theorem litJ (W : World) (xs : List Int) (hm : xs.length ≤ 1000) : Kd.C (Kd.int .i64) (W.alloc (.cells (xs.map (.int .i64)).toArray 3 (0, 0))) (some ⟨W.heap.size, 0, none⟩) xs.length xs := by
  refine ⟨rfl, by omega, fun _ => ⟨⟨W.heap.size, 0, none⟩, rfl, fun j p hj => ⟨[.int .i64 p], rfl, rfl, fun i u hu => ?_⟩⟩⟩
  rcases i with _ | i
  · simp at hu
    subst hu
    obtain ⟨hl, hp⟩ := List.getElem?_eq_some_iff.1 hj
    have h2 := blk_cell (blk_new W (.cells (xs.map (.int .i64)).toArray 3 (0, 0))) j
    simp [add_plain, show (Kd.int IntKind.i64).sz = 1 from rfl, hj]
  · simp at hu
theorem nw_ (W : World) (C : Obj) : Aside0 ((W.alloc C).heap[W.heap.size]? = some C) := ⟨blk_new W C⟩
theorem ba_ (W : World) (C : Obj) : Below W.heap.size W (W.alloc C) := below_alloc (Below.refl _ _) _
/-- A row of the caller's, later. -/
theorem kc_ {α : Type} {d : Kd α} {w W : World} {A : Option Addr} {l : List α} (h : Aside0 (Kd.C d w A l.length l)) (hb : Aside0 (Below w.heap.size w W)) : Kd.C d W A l.length l := Kd.C_below h.out hb.out
end Go.Proofs.Ytlhfclpbodfmcaa.Pr
namespace Go.Proofs.Ytlhfclpbodfmcaa.Pr
open Go.RowKit Go.Proofs.YtlhfclpbodfmcaaW.PrintWords Go.Proofs.YtlhfclpbodfmcaaW.PrintLast Go.Proofs.YtlhfclpbodfmcaaW.PrintMore
open Go.Proofs.Ytlhfclpbodfmcaa.Vm
set_option linter.unusedVariables false
set_option linter.unusedSimpArgs false
attribute [local go_sem] fld79_0 fld79_1 fld79_2 max2_int max_two
theorem ge_of_div {n d : Int} {x : Rat} (hd : 1 ≤ d) (h : (n : Rat) / (d : Rat) = x) (m : Int) : m * d ≤ n ↔ (m : Rat) ≤ x := by
  have d1 := one_le hd
  rw [← h]
  constructor
  · intro hh
    refine le_div d1 ?_
    have := castLe hh
    rwa [Rat.intCast_mul] at this
  · intro hh
    have h2 := Rat.mul_le_mul_of_nonneg_right hh (c := (d : Rat)) (by grind)
    have h3 : (n : Rat) / (d : Rat) * (d : Rat) = (n : Rat) := by grind
    rw [h3, ← Rat.intCast_mul] at h2
    exact Rat.intCast_le_intCast.1 h2
theorem nn_of_div {n d : Int} {x : Rat} (hd : 1 ≤ d) (h : (n : Rat) / (d : Rat) = x) (hx : 0 ≤ x) : 0 ≤ n := by
  have := (ge_of_div hd h 0).2 (by simpa using hx)
  omega
theorem mulBd_ {a b A B : Int} (a0 : 0 ≤ a) (a1 : a ≤ A) (b0 : 0 ≤ b) (b1 : b ≤ B) : 0 ≤ a * b ∧ a * b ≤ A * B := ⟨Int.mul_nonneg a0 b0, Int.mul_le_mul a1 b1 b0 (by omega)⟩
end Go.Proofs.Ytlhfclpbodfmcaa.Pr
namespace Go.Proofs.Ytlhfclpbodfmcaa.Pr
open Go.RowKit Go.Proofs.YtlhfclpbodfmcaaW.PrintWords Go.Proofs.YtlhfclpbodfmcaaW.PrintLast Go.Proofs.YtlhfclpbodfmcaaW.PrintMore
open Go.Proofs.Ytlhfclpbodfmcaa.Vm
set_option linter.unusedVariables false
set_option linter.unusedSimpArgs false
attribute [local go_sem] fld79_0 fld79_1 fld79_2 max2_int max_two
/-- What has run out, held against the content of a level. -/
def ranC (v u : List S79) (a m x : Int) : Int := if runX v a m < vT u (x : Rat) then -1 else if vT u (x : Rat) < runX v a m then 1 else 0
theorem frac_lt {a b c d : Int} (hb : 1 ≤ b) (hd : 1 ≤ d) : a * d < c * b ↔ (a : Rat) / (b : Rat) < (c : Rat) / (d : Rat) := by
  have b1 := one_le hb
  have d1 := one_le hd
  have h1 : (a : Rat) / (b : Rat) * ((b : Rat) * (d : Rat)) = ((a * d : Int) : Rat) := by rw [Rat.intCast_mul]; grind
  have h2 : (c : Rat) / (d : Rat) * ((b : Rat) * (d : Rat)) = ((c * b : Int) : Rat) := by rw [Rat.intCast_mul]; grind
  have bd : (0 : Rat) < (b : Rat) * (d : Rat) := Rat.mul_pos (by grind) (by grind)
  constructor
  · intro h
    have h3 := castLt h
    rw [← h1, ← h2] at h3
    apply Classical.byContradiction; intro hn
    have := Rat.mul_le_mul_of_nonneg_right (show (c : Rat) / (d : Rat) ≤ (a : Rat) / (b : Rat) by grind) (Rat.le_of_lt bd)
    grind
  · intro h
    have h3 := Rat.mul_lt_mul_of_pos_right h bd
    rw [h1, h2] at h3
    exact Rat.intCast_lt_intCast.1 h3
theorem cmp_v {a b c d : Int} (hb : 1 ≤ b) (hd : 1 ≤ d) {x y : Rat} (hx : (a : Rat) / (b : Rat) = x) (hy : (c : Rat) / (d : Rat) = y) : cmpI a b c d = if x < y then -1 else if y < x then 1 else 0 := by
  unfold cmpI
  have h1 := frac_lt (a := a) (c := c) hb hd
  have h2 := frac_lt (a := c) (c := a) hd hb
  rw [hx, hy] at h1 h2
  by_cases k1 : a * d < c * b
  · rw [if_pos k1, if_pos (h1.1 k1)]
  · rw [if_neg k1, if_neg (fun h => k1 (h1.2 h))]
    by_cases k2 : c * b < a * d
    · rw [if_pos k2, if_pos (h2.1 k2)]
    · rw [if_neg k2, if_neg (fun h => k2 (h2.2 h))]
def ref_ran.T2 : Bool × List (List Nat × List Nat) := (true, [([], []), ([], []), ([0, 1], [0, 1]), ([], []), ([3], [3]), ([2, 4], [2, 4]), ([], []), ([], []), ([6, 7, 2], [6, 7]), ([], []), ([9], [9]), ([8, 10], [8, 10]), ([5, 11], [5, 11]), ([], []), ([13], [13]), ([], []), ([15], [15]), ([14, 16], [14, 16]), ([], []), ([], []), ([18, 19, 8], [18, 19]), ([], []), ([21], [21]), ([12, 17, 20, 22, 20], [12, 17, 20, 22]), ([23, 23, 0, 1, 2, 3, 4, 5, 6, 7, 8, 9, 10, 11, 12, 13, 14, 15, 16, 17, 18, 19, 20, 21, 22, 23], [23])])
def ref_ran.B2 : List Nat := [0, 0, 3, 0, 8, 31, 0, 0, 199, 0, 512, 1991, 4095, 0, 8192, 0, 32768, 122880, 0, 0, 786887, 0, 2097152, 8388607, 16777215]
theorem ref_ran.tab2 : rtab .any (opsOf Try.f102 2) = ref_ran.T2 := by kernel_rfl
theorem ref_ran.bits2 : waitsOk ref_ran.T2.2 ref_ran.B2 = true := by kernel_rfl
set_option maxHeartbeats 1600000 in
set_option maxRecDepth 100000 in
theorem ref_ran.calls (A0 : Option Addr) (c0 : Nat) (l0 : List S79) (A1 : Option Addr) (c1 : Nat) (l1 : List S79) (a m x : Int) (w : World) (hr0 : Kd.C k79 w A0 l0.length l0) (hr1 : Kd.C k79 w A1 l1.length l1) (hL : VL l0 a) (hU : VL l1 x) (m0 : 0 ≤ m) (m1 : m ≤ 16777216) : Calls Try.prog 102 #[.slice A0 l0.length c0, .slice A1 l1.length c1, .int .i64 a, .int .i64 m, .int .i64 x] w fun e w' => e = .returned (.int .i64 (ranC l0 l1 a m x)) ∧ Below w.heap.size w w' := by
  have hu96 := Try.underlying96
  have HR0 := Aside0.mk hr0
  have HR1 := Aside0.mk hr1
  have HL := Aside0.mk hL
  have HU := Aside0.mk hU
  have HG := Aside0.mk hL.gv
  have HG1 := Aside0.mk hU.gv
  have HM := Aside0.mk (And.intro m0 m1)
  clear hr0 hr1 hL hU m0 m1
  have HB := Aside0.mk (Below.refl w.heap.size w)
  have C1 : Aside0 (∀ W, Below w.heap.size w W → Calls Try.prog 78 #[.slice A0 l0.length c0, .int .i64 a] W (PlaceP W (hsO l0) (a : Rat) (1000 * 1))) := ⟨fun W hB => by
    have h := ref_AtLevel.calls A0 c0 l0 a W (Kd.C_below HR0.out hB) HG.out HL.out.h0 (by have := HL.out.h1; omega)
    rwa [div_one_] at h⟩
  have C2 : Aside0 (∀ W, Below w.heap.size w W → Calls Try.prog 84 #[.slice A0 l0.length c0, .int .i64 a, .int .i64 m] W (PlaceP W (dsO l0) (leftM l0 a m) 20000000)) := ⟨fun W hB => ref_after.calls A0 c0 l0 a m W (Kd.C_below HR0.out hB) HL.out HM.out.1 HM.out.2⟩
  have C3 : Aside0 (∀ W, Below w.heap.size w W → Calls Try.prog 78 #[.slice A1 l1.length c1, .int .i64 x] W (PlaceP W (hsO l1) (x : Rat) (1000 * 1))) := ⟨fun W hB => by
    have h := ref_AtLevel.calls A1 c1 l1 x W (Kd.C_below HR1.out hB) HG1.out HU.out.h0 (by have := HU.out.h1; omega)
    rwa [div_one_] at h⟩
  go_enter Try.func102, Try.ntmps102
  go_wp2_with fail
  refine (C1.out _ HB.out).mono ?_
  rintro e w1 ⟨p, rfl, hp_, hv_, hd_, hb⟩
  have HP := Aside0.mk (And.intro hp_ (And.intro hv_ hd_))
  clear hp_ hv_ hd_
  replace hb := nb_ HB hb
  replace HB := bs_ HB hb
  clear hb C1
  go_wp2_with fail
  refine (C2.out _ HB.out).mono ?_
  rintro e w2 ⟨q, rfl, hp_, hv_, hd_, hb⟩
  have HQ := Aside0.mk (And.intro hp_ (And.intro hv_ hd_))
  clear hp_ hv_ hd_
  replace hb := nb_ HB hb
  replace HB := bs_ HB hb
  clear hb C2
  go_wp2_with fail
  refine (C3.out _ HB.out).mono ?_
  rintro e w3 ⟨r, rfl, hp_, hv_, hd_, hb⟩
  have HZ := Aside0.mk (And.intro hp_ (And.intro hv_ hd_))
  clear hp_ hv_ hd_
  replace hb := nb_ HB hb
  replace HB := bs_ HB hb
  clear hb C3
  go_wp2_with (first | ((with_reducible refine gate_dst (N := 11) rfl ?_); refine bx_ 11 #[.int .i64 0, .int .i64 0, .int .i64 0] 96 ?_; intro gp hg w4 hbox hb; have GEgp := ge_ hg HB; replace hb := nb_ HB hb; replace HB := bs_ HB hb; have BKgp := Aside0.mk hbox; clear hb hbox hg) | ((with_reducible refine gate_dst (N := 12) rfl ?_); refine bx_ 12 #[.int .i64 0, .int .i64 0, .int .i64 0] 96 ?_; intro gq hg w5 hbox hb; have GEgq := ge_ hg HB; have NEgp_gq := ne_ hg BKgp; replace hb := nb_ HB hb; replace BKgp := kb_ BKgp hb; replace HB := bs_ HB hb; have BKgq := Aside0.mk hbox; clear hb hbox hg) | ((with_reducible refine gate_dst (N := 13) rfl ?_); refine bx_ 13 #[.int .i64 0, .int .i64 0, .int .i64 0] 96 ?_; intro gr hg w6 hbox hb; have GEgr := ge_ hg HB; have NEgp_gr := ne_ hg BKgp; have NEgq_gr := ne_ hg BKgq; replace hb := nb_ HB hb; replace BKgp := kb_ BKgp hb; replace BKgq := kb_ BKgq hb; replace HB := bs_ HB hb; have BKgr := Aside0.mk hbox; clear hb hbox hg) | ((with_reducible refine gate_store (t := 96) (p := 11) rfl ?_); have hc_ := cf3_ BKgp; refine st3_ ?_; intro w7 hp_; clear hc_; replace BKgp := pp3_ BKgp hp_; replace BKgq := pf3r_ NEgp_gq BKgq hp_; replace BKgr := pf3r_ NEgp_gr BKgr hp_; replace HB := pb3_ GEgp HB hp_; clear hp_) | ((with_reducible refine gate_store (t := 96) (p := 12) rfl ?_); have hc_ := cf3_ BKgq; refine st3_ ?_; intro w8 hp_; clear hc_; replace BKgp := pf3_ NEgp_gq BKgp hp_; replace BKgq := pp3_ BKgq hp_; replace BKgr := pf3r_ NEgq_gr BKgr hp_; replace HB := pb3_ GEgq HB hp_; clear hp_) | ((with_reducible refine gate_store (t := 96) (p := 13) rfl ?_); have hc_ := cf3_ BKgr; refine st3_ ?_; intro w9 hp_; clear hc_; replace BKgp := pf3_ NEgp_gr BKgp hp_; replace BKgq := pf3_ NEgq_gr BKgq hp_; replace BKgr := pp3_ BKgr hp_; replace HB := pb3_ GEgr HB hp_; clear hp_))
  have TA := Aside0.mk (timeN_bd HG.out.v (p := p) (by have h := okl HP.out.1; simpa using h))
  have TB := Aside0.mk (timeN_bd HG.out.v (p := q) (by have h := okl HQ.out.1; simpa using h))
  have TC := Aside0.mk (timeN_bd HG1.out.v (p := r) (by have h := okl HZ.out.1; simpa using h))
  have HD : Aside0 (1 ≤ p.d ∧ p.d ≤ 1000 ∧ 1 ≤ q.d ∧ q.d ≤ 20000000 ∧ 1 ≤ r.d ∧ r.d ≤ 1000) := ⟨⟨HP.out.1.2.2.2, Int.le_trans HP.out.2.2 (by omega), HQ.out.1.2.2.2, HQ.out.2.2, HZ.out.1.2.2.2, Int.le_trans HZ.out.2.2 (by omega)⟩⟩
  have HX : Aside0 (((timeN (vsO l0) p * q.d - timeN (vsO l0) q * p.d : Int) : Rat) / ((p.d * q.d : Int) : Rat) = runX l0 a m) := ⟨by
    rw [less_v HD.out.1 HD.out.2.2.1, time_conv HG.out.hv HG.out.h.pos HG.out.v.pos HP.out.1 HP.out.2.1, time_conv (HG.out.hd.symm.trans HG.out.hv) HG.out.d.pos HG.out.v.pos HQ.out.1 HQ.out.2.1]
    rfl⟩
  have HY : Aside0 (((timeN (vsO l1) r : Int) : Rat) / ((r.d : Int) : Rat) = vT l1 (x : Rat)) := ⟨time_conv HG1.out.hv HG1.out.h.pos HG1.out.v.pos HZ.out.1 HZ.out.2.1⟩
  have HBD : Aside0 (0 ≤ timeN (vsO l0) p * q.d - timeN (vsO l0) q * p.d ∧ 1 ≤ p.d * q.d ∧ p.d * q.d ≤ 1000 * 20000000 ∧ timeN (vsO l0) p * q.d ≤ 2400000000 * 20000000 ∧ 0 ≤ timeN (vsO l0) q * p.d ∧ 0 ≤ timeN (vsO l1) r ∧ timeN (vsO l1) r ≤ 2400000000) := ⟨by
    have hd := HD.out
    have ta := TA.out
    have tb := TB.out
    have tc := TC.out
    have hS := HG.out.sums
    have hS1 := HG1.out.sums
    have v0 := HG.out.v.pos.sum
    have v1 := HG1.out.v.pos.sum
    have b1 := mulBd_ v0 hS.2.1 (show 0 ≤ p.d by omega) hd.2.1
    have b2 := mulBd_ ta.1 (show timeN (vsO l0) p ≤ 2400000000 by omega) (show 0 ≤ q.d by omega) hd.2.2.2.1
    have b3 := mulBd_ v1 hS1.2.1 (show 0 ≤ r.d by omega) hd.2.2.2.2.2
    have pq := Int.mul_le_mul hd.1 hd.2.2.1 (by omega) (by omega)
    have pq2 := Int.mul_le_mul hd.2.1 hd.2.2.2.1 (by omega) (by omega)
    have m := Int.mul_nonneg tb.1 (show 0 ≤ p.d by omega)
    exact ⟨nn_of_div (by omega) HX.out (run_bd HL.out HM.out.1).1, by omega, pq2, b2.2, m, tc.1, by omega⟩⟩
  have HF : Aside0 (cmpI (timeN (vsO l0) p * q.d - timeN (vsO l0) q * p.d) (p.d * q.d) (timeN (vsO l1) r) r.d = ranC l0 l1 a m x) := ⟨cmp_v HBD.out.2.1 HD.out.2.2.2.2.1 HX.out HY.out⟩
  have e1 : wrap64 (timeN (vsO l0) p * q.d) = timeN (vsO l0) p * q.d := by have := HBD.out; exact wrp_ (by omega) (by omega)
  have e2 : wrap64 (timeN (vsO l0) q * p.d) = timeN (vsO l0) q * p.d := by have := HBD.out; exact wrp_ (by omega) (by omega)
  have HE3 : Aside0 (wrap64 (timeN (vsO l0) p * q.d - timeN (vsO l0) q * p.d) = timeN (vsO l0) p * q.d - timeN (vsO l0) q * p.d ∧ wrap64 (p.d * q.d) = p.d * q.d) := ⟨by have := HBD.out; exact ⟨wrp_ (by omega) (by omega), wrp_ (by omega) (by omega)⟩⟩
  have C6 : Aside0 (∀ W, Below w.heap.size w W → Calls Try.prog 94 #[.slice A0 l0.length c0, .agg #[.int .i64 ((p).r : Int), .int .i64 (p).n, .int .i64 (p).d]] W fun e w' => e = .returned (.int .i64 (timeN (vsO l0) p)) ∧ Below W.heap.size W w') := ⟨fun W hB => ref_Volume.calls A0 c0 l0 p W (Kd.C_below HR0.out hB) HG.out (okl HP.out.1) (Int.le_trans HP.out.2.2 (by omega))⟩
  have C7 : Aside0 (∀ W, Below w.heap.size w W → Calls Try.prog 94 #[.slice A0 l0.length c0, .agg #[.int .i64 ((q).r : Int), .int .i64 (q).n, .int .i64 (q).d]] W fun e w' => e = .returned (.int .i64 (timeN (vsO l0) q)) ∧ Below W.heap.size W w') := ⟨fun W hB => ref_Volume.calls A0 c0 l0 q W (Kd.C_below HR0.out hB) HG.out (okl HQ.out.1) (Int.le_trans HQ.out.2.2 (by omega))⟩
  have C8 : Aside0 (∀ W, Below w.heap.size w W → Calls Try.prog 94 #[.slice A1 l1.length c1, .agg #[.int .i64 ((r).r : Int), .int .i64 (r).n, .int .i64 (r).d]] W fun e w' => e = .returned (.int .i64 (timeN (vsO l1) r)) ∧ Below W.heap.size W w') := ⟨fun W hB => ref_Volume.calls A1 c1 l1 r W (Kd.C_below HR1.out hB) HG1.out (okl HZ.out.1) (Int.le_trans HZ.out.2.2 (by omega))⟩
  have C9 : Aside0 (∀ W, Calls Try.prog 137 #[.int .i64 (wrap64 (timeN (vsO l0) p * q.d - timeN (vsO l0) q * p.d)), .int .i64 (wrap64 (p.d * q.d)), .int .i64 (timeN (vsO l1) r), .int .i64 (r.d)] W fun e w' => e = .returned (.int .i64 (cmpI (timeN (vsO l0) p * q.d - timeN (vsO l0) q * p.d) (p.d * q.d) (timeN (vsO l1) r) r.d)) ∧ Below W.heap.size W w') := ⟨fun W => by
    have h := HBD.out
    have hd := HD.out
    rw [HE3.out.1, HE3.out.2]
    exact ref_compare.calls _ _ _ _ _ W h.1 (by omega) h.2.1 (by omega) h.2.2.2.2.2.1 (by omega) hd.2.2.2.2.1 (by omega) (Nat.le_refl _)⟩
  replace BKgp := kd_ BKgp
  replace BKgq := kd_ BKgq
  replace BKgr := kd_ BKgr
  replace HB := bd_ HB
  refine sM_ [] (fun w' => (w'.cell? ⟨gp, 0, none⟩ = some (.int .i64 ((p.r : Int))) ∧ w'.cell? ⟨gp, 1, none⟩ = some (.int .i64 (p.n)) ∧ w'.cell? ⟨gp, 2, none⟩ = some (.int .i64 (p.d))) ∧ (w'.cell? ⟨gq, 0, none⟩ = some (.int .i64 ((q.r : Int))) ∧ w'.cell? ⟨gq, 1, none⟩ = some (.int .i64 (q.n)) ∧ w'.cell? ⟨gq, 2, none⟩ = some (.int .i64 (q.d))) ∧ (w'.cell? ⟨gr, 0, none⟩ = some (.int .i64 ((r.r : Int))) ∧ w'.cell? ⟨gr, 1, none⟩ = some (.int .i64 (r.n)) ∧ w'.cell? ⟨gr, 2, none⟩ = some (.int .i64 (r.d)))) ref_ran.tab2 ref_ran.bits2 ⟨c3_ BKgp, c3_ BKgq, c3_ BKgr⟩ (fun hHeld HT_ HW_ => ?_)
  generalize w9.drew = z1 at BKgp BKgq BKgr HB hHeld ⊢
  refine pM_ HT_ 0 24 1 ?_
  refine pM_ HT_ 3 27 9 ?_
  refine pM_ HT_ 6 30 73 ?_
  refine pM_ HT_ 9 33 585 ?_
  refine pM_ HT_ 13 37 8777 ?_
  refine pM_ HT_ 15 39 41545 ?_
  refine pM_ HT_ 18 42 303689 ?_
  refine pM_ HT_ 21 45 2400841 ?_
  refine tM_ HT_ HW_ hHeld 1 25 2400843 ?_
  refine tM_ HT_ HW_ hHeld 4 28 2400859 ?_
  refine tM_ HT_ HW_ hHeld 7 31 2400987 ?_
  refine tM_ HT_ HW_ hHeld 10 34 2402011 ?_
  refine tM_ HT_ HW_ hHeld 14 38 2418395 ?_
  refine tM_ HT_ HW_ hHeld 16 40 2483931 ?_
  refine pM_ HT_ 17 41 2615003 ?_
  refine tM_ HT_ HW_ hHeld 19 43 3139291 ?_
  refine tM_ HT_ HW_ hHeld 22 46 7333595 ?_
  refine oM_ HT_ 2 (some 26) 7333599 (fun K hK => ?_)
  refine gM_ Try.func94 (C6.out _ HB.out) ?_
  rintro e z2 ⟨rfl, hb⟩
  refine ⟨.int .i64 _, rfl, ?_⟩
  replace hb := nb_ HB hb
  replace BKgp := kb_ BKgp hb
  replace BKgq := kb_ BKgq hb
  replace BKgr := kb_ BKgr hb
  replace HB := bs_ HB hb
  (try clear hb)
  refine hK.out _ _ ⟨c3_ BKgp, c3_ BKgq, c3_ BKgr⟩ (fun hHeld => ?_)
  clear hK K
  refine nM_ ?_
  refine pM_ HT_ 5 29 7333631 ?_
  refine oM_ HT_ 8 (some 32) 7333887 (fun K hK => ?_)
  refine gM_ Try.func94 (C7.out _ HB.out) ?_
  rintro e z3 ⟨rfl, hb⟩
  refine ⟨.int .i64 _, rfl, ?_⟩
  replace hb := nb_ HB hb
  replace BKgp := kb_ BKgp hb
  replace BKgq := kb_ BKgq hb
  replace BKgr := kb_ BKgr hb
  replace HB := bs_ HB hb
  (try clear hb)
  refine hK.out _ _ ⟨c3_ BKgp, c3_ BKgq, c3_ BKgr⟩ (fun hHeld => ?_)
  clear hK K
  refine nM_ ?_
  refine pM_ HT_ 11 35 7335935 ?_
  refine pM_ HT_ 12 36 7340031 ?_
  refine oM_ HT_ 20 (some 44) 8388607 (fun K hK => ?_)
  refine gM_ Try.func94 (C8.out _ HB.out) ?_
  rintro e z4 ⟨rfl, hb⟩
  refine ⟨.int .i64 _, rfl, ?_⟩
  replace hb := nb_ HB hb
  replace BKgp := kb_ BKgp hb
  replace BKgq := kb_ BKgq hb
  replace BKgr := kb_ BKgr hb
  replace HB := bs_ HB hb
  (try clear hb)
  refine hK.out _ _ ⟨c3_ BKgp, c3_ BKgq, c3_ BKgr⟩ (fun hHeld => ?_)
  clear hK K
  refine nM_ ?_
  refine oM_ HT_ 23 (some 47) 16777215 (fun K hK => ?_)
  refine gM_ Try.func137 (C9.out _) ?_
  rintro e z5 ⟨rfl, hb⟩
  refine ⟨.int .i64 _, rfl, ?_⟩
  replace hb := nb_ HB hb
  replace BKgp := kb_ BKgp hb
  replace BKgq := kb_ BKgq hb
  replace BKgr := kb_ BKgr hb
  replace HB := bs_ HB hb
  (try clear hb)
  refine hK.out _ _ ⟨c3_ BKgp, c3_ BKgq, c3_ BKgr⟩ (fun hHeld => ?_)
  clear hK K
  refine nM_ ?_
  refine pM_ HT_ 24 10 33554431 ?_
  refine dM_ HT_ ?_
  go_wp2
  go_ret
  exact ⟨by first | (rw [HF.out]; done) | (rw [HF.out]; rfl), HB.out⟩
end Go.Proofs.Ytlhfclpbodfmcaa.Pr
namespace Go.Proofs.Ytlhfclpbodfmcaa.Pr
open Go.RowKit Go.Proofs.YtlhfclpbodfmcaaW.PrintWords Go.Proofs.YtlhfclpbodfmcaaW.PrintLast Go.Proofs.YtlhfclpbodfmcaaW.PrintMore
open Go.Proofs.Ytlhfclpbodfmcaa.Vm
set_option linter.unusedVariables false
set_option linter.unusedSimpArgs false
attribute [local go_sem] fld79_0 fld79_1 fld79_2 max2_int max_two
theorem vT_top {u : List S79} {x : Int} (h : VL u x) : vT u (sm (hsO u) : Rat) = (sm (vsO u) : Rat) := by
  have g := h.gv
  have v0 := castLe g.v.pos.sum
  have h0 := castLe g.h.pos.sum
  have z : ((0 : Int) : Rat) = 0 := rfl
  have b1 := hV_bd h (x := (sm (vsO u) : Rat)) (by grind) Rat.le_refl
  have b2 := vT_bd h (x := (sm (hsO u) : Rat)) (by grind) Rat.le_refl
  have e : vT u (hV u (sm (vsO u) : Rat)) = (sm (vsO u) : Rat) := conv_back g.hv.symm g.v.pos g.h.pos (by grind) Rat.le_refl
  have m := (vT_le h b1.1 b1.2 (by grind) Rat.le_refl).2 b1.2
  rw [e] at m
  grind
theorem VL.top {u : List S79} (h : validB u = true) : VL u (sm (hsO u)) := ⟨h, (valid_GV h).h.pos.sum, Int.le_refl _⟩
theorem ranC_nn {v u : List S79} {a m x : Int} : 0 ≤ ranC v u a m x ↔ vT u (x : Rat) ≤ runX v a m := by
  unfold ranC
  by_cases h : runX v a m < vT u (x : Rat)
  · rw [if_pos h]; exact ⟨fun h => by omega, fun h2 => by grind⟩
  · rw [if_neg h]; refine ⟨fun _ => by grind, fun _ => ?_⟩; split <;> omega
theorem ranC_zero {v u : List S79} {a m x : Int} : ranC v u a m x = 0 ↔ runX v a m = vT u (x : Rat) := by
  unfold ranC
  by_cases h : runX v a m < vT u (x : Rat)
  · rw [if_pos h]; exact ⟨fun h => by omega, fun h2 => by grind⟩
  · rw [if_neg h]
    by_cases h2 : vT u (x : Rat) < runX v a m
    · rw [if_pos h2]; exact ⟨fun h => by omega, fun h2 => by grind⟩
    · rw [if_neg h2]; exact ⟨fun _ => by grind, fun _ => rfl⟩
theorem ranC_pos {v u : List S79} {a m x : Int} : 0 < ranC v u a m x ↔ vT u (x : Rat) < runX v a m := by
  unfold ranC
  by_cases h : runX v a m < vT u (x : Rat)
  · rw [if_pos h]; exact ⟨fun h => by omega, fun h2 => by grind⟩
  · rw [if_neg h]
    by_cases h2 : vT u (x : Rat) < runX v a m
    · rw [if_pos h2]; exact ⟨fun _ => h2, fun _ => by omega⟩
    · rw [if_neg h2]; exact ⟨fun h => by omega, fun h => (h2 h).elim⟩
theorem fl_int (n : Int) : ((n : Rat)).floor = n := Rat.floor_intCast n
theorem ce_int (n : Int) : ((n : Rat)).ceil = n := Rat.ceil_intCast n
theorem casc_fin {v u : List S79} {a m lo : Int} (hL : VL v a) (hu : VL u lo) (m0 : 0 ≤ m) (m1 : m ≤ 16777216) (hr : runX v a m ≤ (sm (vsO u) : Rat)) (h1 : vT u (lo : Rat) ≤ runX v a m) (h2 : lo < sm (hsO u) → runX v a m < vT u ((lo + 1 : Int) : Rat)) :
    CascadeF v u a m = (lo, if ranC v u a m lo = 0 then lo else lo + 1, 0) := by
  have r0 := (run_bd hL m0).1
  have f1 := (level_iff hu r0 hr).2 h1
  have f2 : (hV u (runX v a m)).floor ≤ lo := by
    by_cases hh : lo < sm (hsO u)
    · have hu2 : VL u (lo + 1) := ⟨hu.v, by have := hu.h0; omega, by omega⟩
      apply Classical.byContradiction; intro hn
      have := (level_iff hu2 r0 hr).1 (by omega)
      have := h2 hh
      grind
    · have b := (hV_bd hu r0 hr).2
      have := fl_le b
      have := hu.h1
      omega
  have fe : (hV u (runX v a m)).floor = lo := by omega
  rw [cascade_val hL hu.v m0 m1, if_neg (by grind)]
  have rb := rnd_bd (hV u (runX v a m))
  have ce : (hV u (runX v a m)).ceil = if ranC v u a m lo = 0 then lo else lo + 1 := by
    by_cases hz : ranC v u a m lo = 0
    · rw [if_pos hz, ranC_zero.1 hz, hV_vT hu hu.c0 hu.c1, ce_int]
    · rw [if_neg hz]
      apply Classical.byContradiction; intro hn
      have hc : (hV u (runX v a m)).ceil ≤ lo := by omega
      have hx := Rat.ceil_le_iff.1 hc
      have vb := vT_bd hu hu.c0 hu.c1
      rw [← hV_vT hu hu.c0 hu.c1, hV_le hu r0 hr vb.1 vb.2] at hx
      exact hz (ranC_zero.2 (by grind))
  unfold rnd
  rw [fe, ce]
theorem mV_uT {l : List S79} {lv : Int} (h : VL l lv) {x : Rat} (h0 : 0 ≤ x) (h1 : x ≤ (sm (dsO l) : Rat)) : mV l (uT l x) = x := conv_back (h.gv.hd.symm.trans h.gv.hv) h.gv.d.pos h.gv.v.pos h0 h1
theorem run_all {v : List S79} {a : Int} (hL : VL v a) : runX v a (sm (dsO v)) = vT v (a : Rat) := by
  have b := mT_bd hL hL.c0 hL.c1
  unfold runX leftM
  rw [if_pos b.2, uT_zero hL]
  grind
/-- What the search comes to. -/
def recX (v u : List S79) (a x : Int) : Rat := mT v (a : Rat) - mV v (vT v (a : Rat) - vT u (x : Rat))
theorem rec_ceil {v u : List S79} {a x lo : Int} (hL : VL v a) (hu : VL u x) (hc : vT u (x : Rat) ≤ vT v (a : Rat)) (l0 : 0 ≤ lo) (h1 : vT u (x : Rat) ≤ runX v a lo) (h2 : 0 < lo → runX v a (lo - 1) < vT u (x : Rat)) : (recX v u a x).ceil = lo := by
  have c0 := (vT_bd hu hu.c0 hu.c1).1
  have i1 := (received_iff hL l0 c0 hc).1 h1
  by_cases hz : 0 < lo
  · have i2 := received_iff hL (show 0 ≤ lo - 1 by omega) c0 hc
    have i3 : ¬ (mT v (a : Rat) - mV v (vT v (a : Rat) - vT u (x : Rat))).ceil ≤ lo - 1 := fun h => by have := i2.2 h; have := h2 hz; grind
    unfold recX
    omega
  · have v1 := vT_bd hL hL.c0 hL.c1
    have e : mV v (vT v (a : Rat)) = mT v (a : Rat) := conv_conv hL.gv.hv (hL.gv.hv.symm.trans hL.gv.hd) hL.gv.h.pos hL.gv.v.pos hL.gv.d.pos hL.c0 hL.c1
    have nn := (mV_le hL (x := vT v (a : Rat) - vT u (x : Rat)) (y := vT v (a : Rat)) (by grind) (by grind) v1.1 v1.2).2 (by grind)
    have := ce_nn (x := mT v (a : Rat) - mV v (vT v (a : Rat) - vT u (x : Rat))) (by grind)
    unfold recX
    omega
theorem rec_fin {v u : List S79} {a x lo : Int} (hL : VL v a) (hu : VL u x) (hc : vT u (x : Rat) ≤ vT v (a : Rat)) (l0 : 0 ≤ lo) (h1 : vT u (x : Rat) ≤ runX v a lo) (h2 : 0 < lo → runX v a (lo - 1) < vT u (x : Rat)) :
    ReceivedF v u a x = if ranC v u a lo x = 0 then (if (mT v (a : Rat)).floor < lo then ((mT v (a : Rat)).floor, (mT v (a : Rat)).ceil, 0) else (lo, lo, 0)) else (lo - 1, lo, 0) := by
  have ce := rec_ceil hL hu hc l0 h1 h2
  have rb := rnd_bd (recX v u a x)
  have v1 := vT_bd hL hL.c0 hL.c1
  have c0 := (vT_bd hu hu.c0 hu.c1).1
  have tb := mT_bd hL hL.c0 hL.c1
  have lr : (0 : Rat) ≤ (lo : Rat) := by have := castLe l0; simpa using this
  rw [received_val hL hu, if_neg (by grind)]
  show rnd (recX v u a x) = _
  by_cases hz : ranC v u a lo x = 0
  · rw [if_pos hz]
    have hz := ranC_zero.1 hz
    unfold runX at hz
    by_cases hf : (mT v (a : Rat)).floor < lo
    · rw [if_pos hf]
      have hm := Rat.floor_lt_iff.1 hf
      unfold leftM at hz
      rw [if_pos (by grind), uT_zero hL] at hz
      have e : vT v (a : Rat) - vT u (x : Rat) = 0 := by grind
      have z0 : mV v 0 = 0 := conv_zero hL.gv.v.pos
      unfold recX rnd
      rw [e, z0]
      have : mT v (a : Rat) - 0 = mT v (a : Rat) := by grind
      rw [this]
    · rw [if_neg hf]
      have hm : (lo : Rat) ≤ mT v (a : Rat) := Rat.le_floor_iff.1 (by omega)
      have lf : leftM v a lo = mT v (a : Rat) - (lo : Rat) := by unfold leftM; split <;> grind
      rw [lf] at hz
      have e : vT v (a : Rat) - vT u (x : Rat) = uT v (mT v (a : Rat) - (lo : Rat)) := by grind
      unfold recX rnd
      rw [e, mV_uT hL (by grind) (by grind)]
      have : mT v (a : Rat) - (mT v (a : Rat) - (lo : Rat)) = (lo : Rat) := by grind
      rw [this, fl_int, ce_int]
  · rw [if_neg hz]
    have fe : (recX v u a x).floor = lo - 1 := by
      apply Classical.byContradiction; intro hn
      have hfl : lo ≤ (recX v u a x).floor := by omega
      have hlo := Rat.le_floor_iff.1 hfl
      have hce := Rat.ceil_le_iff.1 (show (recX v u a x).ceil ≤ lo by omega)
      have hX : recX v u a x = (lo : Rat) := by grind
      unfold recX at hX
      have r0 : 0 ≤ vT v (a : Rat) - vT u (x : Rat) := by grind
      have r1 : vT v (a : Rat) - vT u (x : Rat) ≤ (sm (vsO v) : Rat) := by grind
      have mb := mV_bd hL r0 r1
      have lf : leftM v a lo = mV v (vT v (a : Rat) - vT u (x : Rat)) := by unfold leftM; split <;> grind
      exact hz (ranC_zero.2 (by unfold runX; rw [lf, uT_mV hL r0 r1]; grind))
    unfold rnd
    rw [fe, ce]
theorem casc_err {v u : List S79} {a m c : Int} (hv : validB v = true) (hu : validB u = true) (hc : readyC v m [a] = c) (hne : c ≠ 0) : CascadeF v u a m = (0, 0, c) := by
  unfold readyC at hc
  unfold CascadeF
  cases h2 : lvB v a <;> cases h3 : manyB m <;> simp [hv, hu, h2, h3] at hc ⊢ <;> first | (subst hc; rfl) | (exact absurd hc.symm hne)
set_option maxHeartbeats 1600000 in
set_option maxRecDepth 100000 in
theorem ref_Cascade.calls (A0 : Option Addr) (c0 : Nat) (l0 : List S79) (A1 : Option Addr) (c1 : Nat) (l1 : List S79) (a m : Int) (w : World) (hr0 : Kd.C k79 w A0 l0.length l0) (hr1 : Kd.C k79 w A1 l1.length l1) : Calls Try.prog 34 #[.slice A0 l0.length c0, .slice A1 l1.length c1, .int .i64 a, .int .i64 m] w fun e w' => e = .returned (.tuple #[.agg #[.int .i64 (CascadeF l0 l1 a m).1, .int .i64 (CascadeF l0 l1 a m).2.1], .int .i64 (CascadeF l0 l1 a m).2.2]) ∧ Below w.heap.size w w' := by
  have hu27 := Try.underlying27
  have hu96 := Try.underlying96
  have HR0 := Aside0.mk hr0
  have HR1 := Aside0.mk hr1
  clear hr0 hr1
  have HB := Aside0.mk (Below.refl w.heap.size w)
  have K0 : Aside0 (∀ W, Below w.heap.size w W → Calls Try.prog 53 #[.slice A0 l0.length c0] W fun e w' => e = .returned (.int .i64 (checkF l0)) ∧ Below W.heap.size W w') := ⟨fun W hB => ref_Check.calls A0 c0 l0 W (Kd.C_below HR0.out hB)⟩
  have K1 : Aside0 (∀ W, Below w.heap.size w W → Calls Try.prog 53 #[.slice A1 l1.length c1] W fun e w' => e = .returned (.int .i64 (checkF l1)) ∧ Below W.heap.size W w') := ⟨fun W hB => ref_Check.calls A1 c1 l1 W (Kd.C_below HR1.out hB)⟩
  go_enter Try.func34, Try.ntmps34
  go_wp2_with (first | ((with_reducible refine gate_dst (N := 8) rfl ?_); refine bx_ 8 #[.int .i64 0, .int .i64 0] 27 ?_; intro gb hg w1 hbox hb; have GEgb := ge_ hg HB; replace hb := nb_ HB hb; replace HB := bs_ HB hb; have BKgb := Aside0.mk hbox; clear hb hbox hg))
  cases hv : validB l0
  · have HF : Aside0 (CascadeF l0 l1 a m = (0, 0, 20)) := ⟨by unfold CascadeF; rw [hv]; rfl⟩
    have hc_ : checkF l0 = 20 := by unfold checkF; rw [hv]; rfl
    have h_ := K0.out
    rw [hc_] at h_
    have K0v := Aside0.mk h_
    clear h_ hc_ K0
    clear hv
    go_wp2_with fail
    refine (K0v.out _ HB.out).mono ?_
    rintro e w2 ⟨rfl, hb⟩
    replace hb := nb_ HB hb
    replace BKgb := kb_ BKgb hb
    replace HB := bs_ HB hb
    clear hb
    go_wp2_with (first | ((with_reducible refine gate_store (t := 27) (p := 8) rfl ?_); have hc_ := cf2_ BKgb; refine st2_ ?_; intro w3 hp_; clear hc_; replace BKgb := pp2_ BKgb hp_; replace HB := pb2_ GEgb HB hp_; clear hp_))
    try go_wp2
    refine bodyPost_ret (results_ct rfl _ _ gb 27 #[.int .i64 0, .int .i64 0] (0, 0) _ rfl BKgb.out Try.underlying27 rfl (by kernel_rfl)) rfl ?_
    exact ⟨by first | (rw [HF.out]; done) | (rw [HF.out]; rfl), HB.out⟩
  · have hc_ : checkF l0 = 0 := by unfold checkF; rw [hv]; rfl
    have h_ := K0.out
    rw [hc_] at h_
    have K0v := Aside0.mk h_
    clear h_ hc_ K0
    have HV := Aside0.mk hv
    have HG : Aside0 (GV (hsO l0) (vsO l0) (dsO l0)) := ⟨valid_GV hv⟩
    clear hv
    go_wp2_with fail
    refine (K0v.out _ HB.out).mono ?_
    rintro e w2 ⟨rfl, hb⟩
    replace hb := nb_ HB hb
    replace BKgb := kb_ BKgb hb
    replace HB := bs_ HB hb
    clear hb
    cases hu : validB l1
    · have HF : Aside0 (CascadeF l0 l1 a m = (0, 0, 20)) := ⟨by unfold CascadeF; rw [HV.out, hu]; rfl⟩
      have hc_ : checkF l1 = 20 := by unfold checkF; rw [hu]; rfl
      have h_ := K1.out
      rw [hc_] at h_
      have K1v := Aside0.mk h_
      clear h_ hc_ K1
      clear hu
      go_wp2_with fail
      refine (K1v.out _ HB.out).mono ?_
      rintro e w3 ⟨rfl, hb⟩
      replace hb := nb_ HB hb
      replace BKgb := kb_ BKgb hb
      replace HB := bs_ HB hb
      clear hb
      go_wp2_with (first | ((with_reducible refine gate_store (t := 27) (p := 8) rfl ?_); have hc_ := cf2_ BKgb; refine st2_ ?_; intro w4 hp_; clear hc_; replace BKgb := pp2_ BKgb hp_; replace HB := pb2_ GEgb HB hp_; clear hp_))
      try go_wp2
      refine bodyPost_ret (results_ct rfl _ _ gb 27 #[.int .i64 0, .int .i64 0] (0, 0) _ rfl BKgb.out Try.underlying27 rfl (by kernel_rfl)) rfl ?_
      exact ⟨by first | (rw [HF.out]; done) | (rw [HF.out]; rfl), HB.out⟩
    · have hc_ : checkF l1 = 0 := by unfold checkF; rw [hu]; rfl
      have h_ := K1.out
      rw [hc_] at h_
      have K1v := Aside0.mk h_
      clear h_ hc_ K1
      have HU := Aside0.mk hu
      have HG1 : Aside0 (GV (hsO l1) (vsO l1) (dsO l1)) := ⟨valid_GV hu⟩
      clear hu
      go_wp2_with fail
      refine (K1v.out _ HB.out).mono ?_
      rintro e w3 ⟨rfl, hb⟩
      replace hb := nb_ HB hb
      replace BKgb := kb_ BKgb hb
      replace HB := bs_ HB hb
      clear hb
      rcases ready_cases l0 m [a] with ⟨c, hc, hne⟩ | ⟨hc, hv, ha, hm⟩
      · have HF : Aside0 (CascadeF l0 l1 a m = (0, 0, c)) := ⟨casc_err HV.out HU.out hc hne⟩
        have HCR := Aside0.mk hc
        have h1 : (c != 0) = true := bne_iff_ne.2 hne
        have h2 : (c == 0) = false := beq_eq_false_iff_ne.2 hne
        clear hc hne
        go_wp2_with fail
        have K2 : Kd.C (Kd.int .i64) (w3.alloc (.cells #[.int .i64 a] 3 (0, 0))) (some ⟨w3.heap.size, 0, none⟩) 1 [a] := litJ w3 [a] (by simp)
        have CR := ref_ready.calls A0 c0 l0 m (some ⟨w3.heap.size, 0, none⟩) 1 [a] _ (Kd.C_below HR0.out (below_alloc HB.out _)) K2 (by simp)
        rw [HCR.out] at CR
        refine CR.mono ?_
        rintro e w4 ⟨rfl, hb⟩
        clear CR K2
        replace hb := below_step (ba_ _ _) hb
        replace hb := nb_ HB hb
        replace BKgb := kb_ BKgb hb
        replace HB := bs_ HB hb
        clear hb
        go_wp2_with (first | ((with_reducible refine gate_store (t := 27) (p := 8) rfl ?_); have hc_ := cf2_ BKgb; refine st2_ ?_; intro w5 hp_; clear hc_; replace BKgb := pp2_ BKgb hp_; replace HB := pb2_ GEgb HB hp_; clear hp_))
        try go_wp2
        refine bodyPost_ret (results_ct rfl _ _ gb 27 #[.int .i64 0, .int .i64 0] (0, 0) _ rfl BKgb.out Try.underlying27 rfl (by kernel_rfl)) rfl ?_
        exact ⟨by first | (rw [HF.out]; done) | (rw [HF.out]; rfl), HB.out⟩
      · have HCR := Aside0.mk hc
        have HL : Aside0 (VL l0 a) := ⟨⟨hv, (lvB_iff.1 (by have h := ha; simp at h; exact h)).1, (lvB_iff.1 (by have h := ha; simp at h; exact h)).2⟩⟩
        have HM := Aside0.mk (manyB_iff.1 hm)
        clear hc hv ha hm
        go_wp2_with fail
        have K2 : Kd.C (Kd.int .i64) (w3.alloc (.cells #[.int .i64 a] 3 (0, 0))) (some ⟨w3.heap.size, 0, none⟩) 1 [a] := litJ w3 [a] (by simp)
        have CR := ref_ready.calls A0 c0 l0 m (some ⟨w3.heap.size, 0, none⟩) 1 [a] _ (Kd.C_below HR0.out (below_alloc HB.out _)) K2 (by simp)
        rw [HCR.out] at CR
        refine CR.mono ?_
        rintro e w4 ⟨rfl, hb⟩
        clear CR K2
        replace hb := below_step (ba_ _ _) hb
        replace hb := nb_ HB hb
        replace BKgb := kb_ BKgb hb
        replace HB := bs_ HB hb
        clear hb
        have C4 : Aside0 (∀ W, Below w.heap.size w W → Calls Try.prog 103 #[.slice A1 l1.length c1] W fun e w' => e = .returned (.int .i64 (sm (hsO l1))) ∧ Below W.heap.size W w') := ⟨fun W hB => ref_high.calls A1 c1 l1 W (Kd.C_below HR1.out hB) HG1.out⟩
        have C5 : Aside0 (∀ W, Below w.heap.size w W → Calls Try.prog 102 #[.slice A0 l0.length c0, .slice A1 l1.length c1, .int .i64 a, .int .i64 m, .int .i64 (sm (hsO l1))] W fun e w' => e = .returned (.int .i64 (ranC l0 l1 a (m) (sm (hsO l1)))) ∧ Below W.heap.size W w') := ⟨fun W hB => ref_ran.calls A0 c0 l0 A1 c1 l1 a (m) (sm (hsO l1)) W (Kd.C_below HR0.out hB) (Kd.C_below HR1.out hB) HL.out (VL.top HU.out) HM.out.1 HM.out.2⟩
        go_wp2_with fail
        refine (C4.out _ HB.out).mono ?_
        rintro e w5 ⟨rfl, hb⟩
        replace hb := nb_ HB hb
        replace BKgb := kb_ BKgb hb
        replace HB := bs_ HB hb
        clear hb
        go_wp2_with fail
        refine (C5.out _ HB.out).mono ?_
        rintro e w6 ⟨rfl, hb⟩
        replace hb := nb_ HB hb
        replace BKgb := kb_ BKgb hb
        replace HB := bs_ HB hb
        clear hb
        clear C5
        by_cases hp : 0 < ranC l0 l1 a m (sm (hsO l1))
        · have HF : Aside0 (CascadeF l0 l1 a m = (0, 0, 4)) := ⟨by rw [cascade_val HL.out HU.out HM.out.1 HM.out.2, if_pos (by have := ranC_pos.1 hp; rwa [vT_top (VL.top HU.out)] at this)]; rfl⟩
          have hpd : decide (0 < ranC l0 l1 a m (sm (hsO l1))) = true := decide_eq_true hp
          clear hp
          go_wp2_with (first | ((with_reducible refine gate_store (t := 27) (p := 8) rfl ?_); have hc_ := cf2_ BKgb; refine st2_ ?_; intro w7 hp_; clear hc_; replace BKgb := pp2_ BKgb hp_; replace HB := pb2_ GEgb HB hp_; clear hp_))
          try go_wp2
          refine bodyPost_ret (results_ct rfl _ _ gb 27 #[.int .i64 0, .int .i64 0] (0, 0) _ rfl BKgb.out Try.underlying27 rfl (by kernel_rfl)) rfl ?_
          exact ⟨by first | (rw [HF.out]; done) | (rw [HF.out]; rfl), HB.out⟩
        · have hpd : decide (0 < ranC l0 l1 a m (sm (hsO l1))) = false := decide_eq_false hp
          have HR : Aside0 (runX l0 a m ≤ (sm (vsO l1) : Rat)) := ⟨by have h := fun x => hp (ranC_pos.2 x); rw [vT_top (VL.top HU.out)] at h; grind⟩
          have HS := Aside0.mk (And.intro HG1.out.h.pos.sum HG1.out.sums.1)
          clear hp
          go_wp2_with fail
          refine (C4.out _ HB.out).mono ?_
          rintro e w7 ⟨rfl, hb⟩
          replace hb := nb_ HB hb
          replace BKgb := kb_ BKgb hb
          replace HB := bs_ HB hb
          clear hb
          clear C4
          go_wp2
          clear hpd
          go_loopg [13, 14] (sm (hsO l1)).toNat (fun kq v13 v14 w' => ∃ lo hi : Int, v13 = .int .i64 lo ∧ v14 = .int .i64 hi ∧ Aside0 (0 ≤ lo ∧ lo ≤ hi ∧ hi ≤ sm (hsO l1) ∧ vT l1 (lo : Rat) ≤ runX l0 a m ∧ (hi < sm (hsO l1) → runX l0 a m < vT l1 ((hi + 1 : Int) : Rat)) ∧ (hi - lo).toNat ≤ kq) ∧ Aside0 (w'.heap[gb]? = some (.cells #[.int .i64 0, .int .i64 0] 27 (0, 0))) ∧ Aside0 (Below w.heap.size w w'))
          case atStart => exact ⟨0, _, rfl, rfl, ⟨by omega, HS.out.1, by omega, by have h := (run_bd HL.out HM.out.1).1; have e : vT l1 ((0 : Int) : Rat) = 0 := conv_zero HG1.out.h.pos; rw [e]; exact h, fun h => by omega, by omega⟩, BKgb, HB⟩
          case round =>
            clear BKgb HB
            obtain ⟨lo, hi, rfl, rfl, HI, BKgb, HB⟩ := hrel
            by_cases hlt : lo < hi
            · have hd : decide (lo < hi) = true := decide_eq_true hlt
              have HQ : Aside0 (lo < (lo + hi + 1) / 2 ∧ (lo + hi + 1) / 2 ≤ hi ∧ lo < hi) := ⟨by omega⟩
              have e1 : wrap64 (lo + hi) = lo + hi := by have h := HI.out; have := HS.out; exact wrp_ (by omega) (by omega)
              have e2 : wrap64 (lo + hi + 1) = lo + hi + 1 := by have h := HI.out; have := HS.out; exact wrp_ (by omega) (by omega)
              have e3 : (lo + hi + 1).tdiv 2 = (lo + hi + 1) / 2 := Int.tdiv_eq_ediv_of_nonneg (by have h := HI.out; omega)
              have e4 : wrap64 ((lo + hi + 1) / 2) = (lo + hi + 1) / 2 := by have h := HI.out; have := HS.out; exact wrp_ (by omega) (by omega)
              have e5 : wrap64 ((lo + hi + 1) / 2 - 1) = (lo + hi + 1) / 2 - 1 := by have h := HI.out; have := HS.out; exact wrp_ (by omega) (by omega)
              have q0 : 0 ≤ lo + hi := by have h := HI.out; omega
              have q1 : 0 ≤ lo + hi + 1 := by have h := HI.out; omega
              have C5 : Aside0 (∀ W, Below w.heap.size w W → Calls Try.prog 102 #[.slice A0 l0.length c0, .slice A1 l1.length c1, .int .i64 a, .int .i64 m, .int .i64 ((lo + hi + 1) / 2)] W fun e w' => e = .returned (.int .i64 (ranC l0 l1 a (m) ((lo + hi + 1) / 2))) ∧ Below W.heap.size W w') := ⟨fun W hB => ref_ran.calls A0 c0 l0 A1 c1 l1 a (m) ((lo + hi + 1) / 2) W (Kd.C_below HR0.out hB) (Kd.C_below HR1.out hB) HL.out ⟨HU.out, by have h := HI.out; have := HQ.out; omega, by have h := HI.out; have := HQ.out; omega⟩ HM.out.1 HM.out.2⟩
              clear hlt
              go_wp2_with fail
              refine (C5.out _ HB.out).mono ?_
              rintro e v1 ⟨rfl, hb⟩
              replace hb := nb_ HB hb
              replace BKgb := kb_ BKgb hb
              replace HB := bs_ HB hb
              clear hb
              clear C5
              by_cases hc : 0 ≤ ranC l0 l1 a m ((lo + hi + 1) / 2)
              · have hcd : decide (0 ≤ ranC l0 l1 a m ((lo + hi + 1) / 2)) = true := decide_eq_true hc
                have HX := Aside0.mk (ranC_nn.1 hc)
                clear hc
                go_wp2
                go_roundg (gk - 1)
                case measure => have := HI.out; have := HQ.out; omega
                case rel => exact ⟨(lo + hi + 1) / 2, hi, by first | rfl | (simp only [*]; done), rfl, ⟨by have := HI.out; omega, HQ.out.2.1, HI.out.2.2.1, HX.out, HI.out.2.2.2.2.1, by have := HI.out; have := HQ.out; omega⟩, BKgb, HB⟩
              · have hcd : decide (0 ≤ ranC l0 l1 a m ((lo + hi + 1) / 2)) = false := decide_eq_false hc
                have HX : Aside0 (runX l0 a m < vT l1 (((lo + hi + 1) / 2 : Int) : Rat)) := ⟨by have h := fun x => hc (ranC_nn.2 x); grind⟩
                clear hc
                go_wp2
                go_roundg (gk - 1)
                case measure => have := HI.out; have := HQ.out; omega
                case rel => exact ⟨lo, (lo + hi + 1) / 2 - 1, rfl, by first | rfl | (simp only [*]; done), ⟨HI.out.1, by have := HQ.out; omega, by have := HI.out; have := HQ.out; omega, HI.out.2.2.2.1, fun _ => (by rw [show (lo + hi + 1) / 2 - 1 + 1 = (lo + hi + 1) / 2 by omega]; exact HX.out), by have := HI.out; have := HQ.out; omega⟩, BKgb, HB⟩
            · have hd : decide (lo < hi) = false := decide_eq_false hlt
              have HV2 : Aside0 (VL l1 lo) := ⟨⟨HU.out, HI.out.1, by have := HI.out; omega⟩⟩
              have HF0 : Aside0 (CascadeF l0 l1 a m = (lo, if ranC l0 l1 a m lo = 0 then lo else lo + 1, 0)) := ⟨by
                have e : lo = hi := by have := HI.out; omega
                have h5 := HI.out.2.2.2.2.1
                rw [← e] at h5
                exact casc_fin HL.out HV2.out HM.out.1 HM.out.2 HR.out HI.out.2.2.2.1 h5⟩
              have C5 : Aside0 (∀ W, Below w.heap.size w W → Calls Try.prog 102 #[.slice A0 l0.length c0, .slice A1 l1.length c1, .int .i64 a, .int .i64 m, .int .i64 lo] W fun e w' => e = .returned (.int .i64 (ranC l0 l1 a (m) (lo))) ∧ Below W.heap.size W w') := ⟨fun W hB => ref_ran.calls A0 c0 l0 A1 c1 l1 a (m) (lo) W (Kd.C_below HR0.out hB) (Kd.C_below HR1.out hB) HL.out HV2.out HM.out.1 HM.out.2⟩
              have e1 : wrap64 (lo + 1) = lo + 1 := by have h := HI.out; have := HS.out; exact wrp_ (by omega) (by omega)
              clear hlt
              go_wp2_with fail
              refine (C5.out _ HB.out).mono ?_
              rintro e v1 ⟨rfl, hb⟩
              replace hb := nb_ HB hb
              replace BKgb := kb_ BKgb hb
              replace HB := bs_ HB hb
              clear hb
              clear C5
              by_cases hc : ranC l0 l1 a m lo = 0
              · have hcd : (ranC l0 l1 a m lo == 0) = true := beq_iff_eq.2 hc
                have HF : Aside0 (CascadeF l0 l1 a m = (lo, lo, 0)) := ⟨by rw [HF0.out, if_pos hc]⟩
                clear hc
                go_wp2_with (first | ((with_reducible refine gate_store (t := 27) (p := 8) rfl ?_); have hc_ := cf2_ BKgb; refine st2_ ?_; intro v2 hp_; clear hc_; replace BKgb := pp2_ BKgb hp_; replace HB := pb2_ GEgb HB hp_; clear hp_))
                try go_wp2
                refine bodyPost_ret (results_ct rfl _ _ gb 27 #[.int .i64 lo, .int .i64 lo] (0, 0) _ rfl BKgb.out Try.underlying27 rfl (by kernel_rfl)) rfl ?_
                exact ⟨by first | (rw [HF.out]; done) | (rw [HF.out]; rfl), HB.out⟩
              · have hcd : (ranC l0 l1 a m lo == 0) = false := beq_eq_false_iff_ne.2 hc
                have HF : Aside0 (CascadeF l0 l1 a m = (lo, lo + 1, 0)) := ⟨by rw [HF0.out, if_neg hc]⟩
                clear hc
                go_wp2_with (first | ((with_reducible refine gate_store (t := 27) (p := 8) rfl ?_); have hc_ := cf2_ BKgb; refine st2_ ?_; intro v2 hp_; clear hc_; replace BKgb := pp2_ BKgb hp_; replace HB := pb2_ GEgb HB hp_; clear hp_))
                try go_wp2
                refine bodyPost_ret (results_ct rfl _ _ gb 27 #[.int .i64 lo, .int .i64 (lo + 1)] (0, 0) _ rfl BKgb.out Try.underlying27 rfl (by kernel_rfl)) rfl ?_
                exact ⟨by first | (rw [HF.out]; done) | (rw [HF.out]; rfl), HB.out⟩
end Go.Proofs.Ytlhfclpbodfmcaa.Pr
