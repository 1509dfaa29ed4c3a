/- A part of the proof: Lw1. -/
import Derived.Test.YtlhfclpbodfmcaaZLb
import Derived.Test.YtlhfclpbodfmcaaZRt
import Derived.Test.YtlhfclpbodfmcaaZSn
namespace Go.Proofs.Ytlhfclpbodfmcaa.Pr
open Go.RowKit Go.Proofs.YtlhfclpbodfmcaaW.PrintWords Go.Proofs.YtlhfclpbodfmcaaW.PrintLast Go.Proofs.YtlhfclpbodfmcaaW.PrintMore
open Go.Proofs.Ytlhfclpbodfmcaa.Vm
set_option linter.unusedVariables false
set_option linter.unusedSimpArgs false
/-- A literal row of numbers. -/
theorem litI (W : World) (xs : List Int) (hm : xs.length ≤ 1000) : Kd.C (Kd.int .i64) (W.alloc (.cells (xs.map (.int .i64)).toArray 3 (0, 0))) (some ⟨W.heap.size, 0, none⟩) xs.length xs := by
  refine ⟨rfl, by omega, fun _ => ⟨⟨W.heap.size, 0, none⟩, rfl, fun j p hj => ⟨[.int .i64 p], rfl, rfl, fun i u hu => ?_⟩⟩⟩
  rcases i with _ | i
  · simp at hu
    subst hu
    obtain ⟨hl, hp⟩ := List.getElem?_eq_some_iff.1 hj
    have h2 := blk_cell (blk_new W (.cells (xs.map (.int .i64)).toArray 3 (0, 0))) j
    simp [add_plain, show (Kd.int IntKind.i64).sz = 1 from rfl, hj]
  · simp at hu
theorem right_iff {l0 : List S79} {l1 l2 : List Int} (h : rightB l0 l1 l2 = true) : validB l0 = true ∧ (∀ n ∈ l2, 0 ≤ n ∧ n ≤ sm (hsO l0)) ∧ (∀ n ∈ l1, 0 ≤ n ∧ n ≤ 8388608) ∧ l0.length ≤ 40 := by
  unfold rightB fewB lvlB at h
  simp only [Bool.and_eq_true, decide_eq_true_eq, List.all_eq_true] at h
  exact ⟨h.2.1, h.2.2.1, h.2.2.2, h.1⟩
set_option maxHeartbeats 1600000 in
set_option maxRecDepth 100000 in
theorem bothWays.walk (A0 : Option Addr) (c0 : Nat) (l0 : List S79) (a b m : Int) (w : World) (hr0 : Kd.C k79 w A0 l0.length l0) (hc0 : l0.length ≤ c0) :
    Calls Try.prog 6 #[.slice A0 l0.length c0, .int .i64 a, .int .i64 b, .int .i64 m] w fun e w' => e = .returned (.bool true) ∧ Below w.heap.size w w' := by
  have hu27 := Try.underlying27
  have HR0 := Aside0.mk hr0
  have HC0 := Aside0.mk hc0
  clear hr0 hc0
  have HB := Aside0.mk (Below.refl w.heap.size w)
  cases hR : rightB l0 [m] [a, b] with
  | false =>
    have HRT : Aside0 (waterhourlaw02_right.f l0 [m] [a, b] = some false) := ⟨by simp [waterhourlaw02_right.f, hR]⟩
    clear hR
    go_enter Try.func6, Try.ntmps6
    go_wp2_with fail
    refine (waterhourlaw02_sane.calls true _ rfl).mono ?_
    rintro e w1 ⟨rfl, hb⟩
    replace hb := nb_ HB hb
    replace HB := bs_ HB hb
    clear hb
    go_wp2_with fail
    have K1 : Kd.C (Kd.int .i64) ((w1.alloc (.cells #[.int .i64 m] 3 (0, 0))).alloc (.cells #[.int .i64 a, .int .i64 b] 3 (0, 0))) (some ⟨w1.heap.size, 0, none⟩) 1 [m] := Kd.C_below (litI w1 [m] (by simp)) (below_alloc (Below.refl _ _) _)
    have K2 : Kd.C (Kd.int .i64) ((w1.alloc (.cells #[.int .i64 m] 3 (0, 0))).alloc (.cells #[.int .i64 a, .int .i64 b] 3 (0, 0))) (some ⟨w1.heap.size + 1, 0, none⟩) 2 [a, b] := by have h2 := litI (w1.alloc (.cells #[.int .i64 m] 3 (0, 0))) [a, b] (by simp); rwa [World.size_alloc] at h2
    refine (waterhourlaw02_right.calls A0 c0 l0 _ 1 [m] _ 2 [a, b] false _ (Kd.C_below HR0.out (below_alloc (below_alloc HB.out _) _)) HC0.out K1 (Nat.le_refl _) K2 (Nat.le_refl _) HRT.out).mono ?_
    rintro e w2 ⟨rfl, hb⟩
    replace hb := below_step (below_alloc (below_alloc (Below.refl _ w1) _) _) hb
    replace hb := nb_ HB hb
    replace HB := bs_ HB hb
    clear hb
    clear K1 K2
    go_wp2
    go_ret
    exact ⟨by first | rfl | (simp; done), HB.out⟩
  | true =>
    have HRT : Aside0 (waterhourlaw02_right.f l0 [m] [a, b] = some true) := ⟨by simp [waterhourlaw02_right.f, hR]⟩
    by_cases hab : a < b
    · have hd : decide (a < b) = true := decide_eq_true hab
      clear hR
      go_enter Try.func6, Try.ntmps6
      go_wp2_with fail
      refine (waterhourlaw02_sane.calls true _ rfl).mono ?_
      rintro e w1 ⟨rfl, hb⟩
      replace hb := nb_ HB hb
      replace HB := bs_ HB hb
      clear hb
      go_wp2_with fail
      have K1 : Kd.C (Kd.int .i64) ((w1.alloc (.cells #[.int .i64 m] 3 (0, 0))).alloc (.cells #[.int .i64 a, .int .i64 b] 3 (0, 0))) (some ⟨w1.heap.size, 0, none⟩) 1 [m] := Kd.C_below (litI w1 [m] (by simp)) (below_alloc (Below.refl _ _) _)
      have K2 : Kd.C (Kd.int .i64) ((w1.alloc (.cells #[.int .i64 m] 3 (0, 0))).alloc (.cells #[.int .i64 a, .int .i64 b] 3 (0, 0))) (some ⟨w1.heap.size + 1, 0, none⟩) 2 [a, b] := by have h2 := litI (w1.alloc (.cells #[.int .i64 m] 3 (0, 0))) [a, b] (by simp); rwa [World.size_alloc] at h2
      refine (waterhourlaw02_right.calls A0 c0 l0 _ 1 [m] _ 2 [a, b] true _ (Kd.C_below HR0.out (below_alloc (below_alloc HB.out _) _)) HC0.out K1 (Nat.le_refl _) K2 (Nat.le_refl _) HRT.out).mono ?_
      rintro e w2 ⟨rfl, hb⟩
      replace hb := below_step (below_alloc (below_alloc (Below.refl _ w1) _) _) hb
      replace hb := nb_ HB hb
      replace HB := bs_ HB hb
      clear hb
      clear K1 K2
      go_wp2
      go_ret
      exact ⟨by first | rfl | (simp; done), HB.out⟩
    · have hd : decide (a < b) = false := decide_eq_false hab
      obtain ⟨hv, hl, hn, _⟩ := right_iff hR
      have va : VL l0 a := ⟨hv, (hl a (by simp)).1, (hl a (by simp)).2⟩
      have vb : VL l0 b := ⟨hv, (hl b (by simp)).1, (hl b (by simp)).2⟩
      have m0 := (hn m (by simp)).1
      have m1 := (hn m (by simp)).2
      obtain ⟨g1, g2⟩ := bothWays_law va vb (by omega) m0
      have ea := after_val va m0 (by omega)
      have es := sink_val va vb (by omega)
      have ba := rnd_bd (afterX l0 a m)
      have bs := rnd_bd (mT l0 (a : Rat) - mT l0 (b : Rat))
      have bA : 0 ≤ (afterX l0 a m).floor ∧ (afterX l0 a m).floor ≤ 24000 := ⟨Rat.le_floor_iff.2 (after_bd va m0).1, by have h1 := va.gv.sums.1; have h2 := (after_bd va m0).2; have h3 := castLe h1; have h4 := Rat.floor_le (afterX l0 a m); exact Rat.intCast_le_intCast.1 (by grind)⟩
      have bS : -1 ≤ (mT l0 (a : Rat) - mT l0 (b : Rat)).floor ∧ (mT l0 (a : Rat) - mT l0 (b : Rat)).floor ≤ 480000 := by
        have h1 := va.gv.sums.2.2
        have h2 := mT_bd va va.c0 va.c1
        have h3 := mT_bd va vb.c0 vb.c1
        have h5 := (mT_le va vb.c0 vb.c1 va.c0 va.c1).2 (castLe (by omega))
        refine ⟨Int.le_trans (by decide) (Rat.le_floor_iff.2 (show ((0 : Int) : Rat) ≤ _ by have : ((0 : Int) : Rat) = 0 := rfl; grind)), ?_⟩
        have h3 := castLe h1
        have h4 := Rat.floor_le (mT l0 (a : Rat) - mT l0 (b : Rat))
        exact Rat.intCast_le_intCast.1 (by grind)
      have HA : Aside0 (vessel_After.f l0 a m = some ((afterX l0 a m).floor, (afterX l0 a m).ceil, 0)) := ⟨congrArg some ea⟩
      have HS : Aside0 (vessel_Sinking.f l0 a b = some ((mT l0 (a : Rat) - mT l0 (b : Rat)).floor, (mT l0 (a : Rat) - mT l0 (b : Rat)).ceil, 0)) := ⟨congrArg some es⟩
      generalize (afterX l0 a m).floor = p at *
      generalize (afterX l0 a m).ceil = p' at *
      generalize (mT l0 (a : Rat) - mT l0 (b : Rat)).floor = s at *
      generalize (mT l0 (a : Rat) - mT l0 (b : Rat)).ceil = s' at *
      clear hR ea es va vb hl hn hv
      have d1 : decide (p' < p) = false := decide_eq_false (by omega)
      have d2 : decide (p + 1 < p') = false := decide_eq_false (by omega)
      have d3 : decide (s' < s) = false := decide_eq_false (by omega)
      have d4 : decide (s + 1 < s') = false := decide_eq_false (by omega)
      have e1 : wrap64 (p + 1) = p + 1 := by unfold wrap64; omega
      have e2 : wrap64 (s + 1) = s + 1 := by unfold wrap64; omega
      have x1 : decide (s' ≤ m) = decide (p' ≤ b) := by rw [decide_eq_decide]; exact g2.symm
      have x0 : (b == 0) = true ∨ ((b == 0) = false ∧ decide (m ≤ s) = decide (b ≤ p)) := by
        by_cases hz : b = 0
        · exact .inl (beq_iff_eq.2 hz)
        · exact .inr ⟨beq_eq_false_iff_ne.2 hz, by rw [decide_eq_decide]; exact (g1.resolve_left hz).symm⟩
      clear g1 g2 ba bs bA bS
      cases hp : decide (p' ≤ b)
      all_goals rw [hp] at x1
      all_goals rcases x0 with hz | ⟨hz, x0⟩
      all_goals try (cases hq : decide (b ≤ p) <;> rw [hq] at x0)
      all_goals (
        go_enter Try.func6, Try.ntmps6
        go_wp2_with fail
        refine (waterhourlaw02_sane.calls true _ rfl).mono ?_
        rintro e w1 ⟨rfl, hb⟩
        replace hb := nb_ HB hb
        replace HB := bs_ HB hb
        clear hb
        go_wp2_with fail
        have K1 : Kd.C (Kd.int .i64) ((w1.alloc (.cells #[.int .i64 m] 3 (0, 0))).alloc (.cells #[.int .i64 a, .int .i64 b] 3 (0, 0))) (some ⟨w1.heap.size, 0, none⟩) 1 [m] := Kd.C_below (litI w1 [m] (by simp)) (below_alloc (Below.refl _ _) _)
        have K2 : Kd.C (Kd.int .i64) ((w1.alloc (.cells #[.int .i64 m] 3 (0, 0))).alloc (.cells #[.int .i64 a, .int .i64 b] 3 (0, 0))) (some ⟨w1.heap.size + 1, 0, none⟩) 2 [a, b] := by have h2 := litI (w1.alloc (.cells #[.int .i64 m] 3 (0, 0))) [a, b] (by simp); rwa [World.size_alloc] at h2
        refine (waterhourlaw02_right.calls A0 c0 l0 _ 1 [m] _ 2 [a, b] true _ (Kd.C_below HR0.out (below_alloc (below_alloc HB.out _) _)) HC0.out K1 (Nat.le_refl _) K2 (Nat.le_refl _) HRT.out).mono ?_
        rintro e w2 ⟨rfl, hb⟩
        replace hb := below_step (below_alloc (below_alloc (Below.refl _ w1) _) _) hb
        replace hb := nb_ HB hb
        replace HB := bs_ HB hb
        clear hb
        clear K1 K2
        go_wp2_with fail
        refine (vessel_After.calls A0 c0 l0 a m p p' 0 _ (Kd.C_below HR0.out HB.out) HC0.out HA.out).mono ?_
        rintro e w3 ⟨rfl, hb⟩
        replace hb := nb_ HB hb
        replace HB := bs_ HB hb
        clear hb
        go_wp2_with fail
        have BKga := Aside0.mk (blk_new w3 (.cells #[.int .i64 p, .int .i64 (p')] 27 (0, 0)))
        have HB := Aside0.mk (below_alloc HB.out (.cells #[.int .i64 p, .int .i64 (p')] 27 (0, 0)))
        generalize w3.alloc (.cells #[.int .i64 p, .int .i64 (p')] 27 (0, 0)) = w4 at BKga HB ⊢
        generalize w3.heap.size = ga at BKga ⊢
        refine (vessel_Sinking.calls A0 c0 l0 a b s s' 0 _ (Kd.C_below HR0.out HB.out) HC0.out HS.out).mono ?_
        rintro e w5 ⟨rfl, hb⟩
        replace hb := nb_ HB hb
        replace BKga := kb_ BKga hb
        replace HB := bs_ HB hb
        obtain ⟨Oga_0, Oga_1⟩ := c2_ BKga
        clear hb
        go_wp2_with (first | ((with_reducible refine gate_dst (N := 11) rfl ?_); refine bx_ 11 #[.int .i64 0, .int .i64 0] 27 ?_; intro gb hg w6 hbox hb; have GEgb := ge_ hg HB; have NEga_gb := ne_ hg BKga; replace hb := nb_ HB hb; replace BKga := kb_ BKga hb; replace HB := bs_ HB hb; clear Oga_0 Oga_1; obtain ⟨Oga_0, Oga_1⟩ := c2_ BKga; have BKgb := Aside0.mk hbox; clear Oga_0 Oga_1; obtain ⟨Oga_0, Oga_1⟩ := c2_ BKga; obtain ⟨Ogb_0, Ogb_1⟩ := c2_ BKgb; clear hb hbox hg) | ((with_reducible refine gate_store (t := 27) (p := 11) rfl ?_); have hc_ := cf2_ BKgb; refine st2_ ?_; intro w7 hp_; clear hc_; clear Oga_0 Oga_1 Ogb_0 Ogb_1; replace BKga := pf2_ NEga_gb BKga hp_; replace BKgb := pp2_ BKgb hp_; replace HB := pb2_ GEgb HB hp_; clear hp_; obtain ⟨Oga_0, Oga_1⟩ := c2_ BKga; obtain ⟨Ogb_0, Ogb_1⟩ := c2_ BKgb))
        go_wp2
        go_ret
        exact ⟨by first | rfl | (simp; done), HB.out⟩
        )
end Go.Proofs.Ytlhfclpbodfmcaa.Pr
