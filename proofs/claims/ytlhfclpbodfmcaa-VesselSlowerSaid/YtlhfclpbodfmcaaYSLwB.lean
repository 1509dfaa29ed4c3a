/- A part of the proof: LwB. -/
import Derived.Test.YtlhfclpbodfmcaaYSWMore
import Derived.Test.YtlhfclpbodfmcaaYSKq
import Derived.Test.YtlhfclpbodfmcaaXLb
import Derived.Test.YtlhfclpbodfmcaaXRt
import Derived.WalkMore
import Derived.Test.YtlhfclpbodfmcaaXSn
namespace Go.Proofs.Ytlhfclpbodfmcaa.Pr
open Go.RowKit Go.Proofs.YtlhfclpbodfmcaaW.PrintWords Go.Proofs.YtlhfclpbodfmcaaW.PrintLast Go.Proofs.YtlhfclpbodfmcaaW.PrintMore
open Go.Proofs.Ytlhfclpbodfmcaa.Vm
set_option linter.unusedVariables false
set_option linter.unusedSimpArgs false
set_option maxHeartbeats 1600000 in
set_option maxRecDepth 100000 in
theorem slower.walk (A0 : Option Addr) (c0 : Nat) (l0 : List S79) (A1 : Option Addr) (c1 : Nat) (l1 : List S79) (A2 : Option Addr) (c2 : Nat) (l2 : List S79) (a m : Int) (w : World) (hr0 : Kd.C k79 w A0 l0.length l0) (hc0 : l0.length ≤ c0) (hr1 : Kd.C k79 w A1 l1.length l1) (hc1 : l1.length ≤ c1) (hr2 : Kd.C k79 w A2 l2.length l2) (hc2 : l2.length ≤ c2) :
    Calls Try.prog 16 #[.slice A0 l0.length c0, .slice A1 l1.length c1, .slice A2 l2.length c2, .int .i64 a, .int .i64 m] w fun e w' => e = .returned (.bool true) ∧ Below w.heap.size w w' := by
  have hu27 := Try.underlying27
  have HR0 := Aside0.mk hr0
  have HC0 := Aside0.mk hc0
  have HR1 := Aside0.mk hr1
  have HC1 := Aside0.mk hc1
  have HR2 := Aside0.mk hr2
  have HC2 := Aside0.mk hc2
  clear hr0 hc0 hr1 hc1 hr2 hc2
  have HB := Aside0.mk (Below.refl w.heap.size w)
  cases hR0 : rightB l0 [m] [] with
  | false =>
    have HRU : Aside0 (waterhourlaw02_right.f l0 [m] [] = some false) := ⟨by simp [waterhourlaw02_right.f, hR0]⟩
    clear hR0
    go_enter Try.func16, Try.ntmps16
    go_wp2_with fail
    refine (waterhourlaw02_sane.calls true _ rfl).mono ?_
    rintro e w1 ⟨rfl, hb⟩
    replace hb := nb_ HB hb
    replace HB := bs_ HB hb
    clear hb
    go_wp2_with fail
    have K2 : Kd.C (Kd.int .i64) (w1.alloc (.cells #[.int .i64 m] 3 (0, 0))) none 0 [] := Kd.C_nil _ _
    have K1 : Kd.C (Kd.int .i64) (w1.alloc (.cells #[.int .i64 m] 3 (0, 0))) (some ⟨w1.heap.size, 0, none⟩) 1 [m] := litJ w1 [m] (by simp)
    refine (waterhourlaw02_right.calls A0 c0 l0 _ 1 [m] _ 0 [] false _ (Kd.C_below (kc_ HR0 HB) (ba_ _ _)) HC0.out K1 (Nat.le_refl _) K2 (Nat.le_refl _) HRU.out).mono ?_
    rintro e w2 ⟨rfl, hb⟩
    replace hb := below_step (below_alloc (Below.refl _ w1) _) hb
    replace hb := nb_ HB hb
    replace HB := bs_ HB hb
    clear hb
    clear K1 K2
    go_wp2
    go_ret
    exact ⟨by first | rfl | (simp; done), by first | exact HB.out | exact fb_ HB⟩
  | true =>
    have HRU : Aside0 (waterhourlaw02_right.f l0 [m] [] = some true) := ⟨by simp [waterhourlaw02_right.f, hR0]⟩
    cases hR1 : rightB l1 [] [a] with
    | false =>
      have HRV : Aside0 (waterhourlaw02_right.f l1 [] [a] = some false) := ⟨by simp [waterhourlaw02_right.f, hR1]⟩
      clear hR0 hR1
      go_enter Try.func16, Try.ntmps16
      go_wp2_with fail
      refine (waterhourlaw02_sane.calls true _ rfl).mono ?_
      rintro e w1 ⟨rfl, hb⟩
      replace hb := nb_ HB hb
      replace HB := bs_ HB hb
      clear hb
      go_wp2_with fail
      have K2 : Kd.C (Kd.int .i64) (w1.alloc (.cells #[.int .i64 m] 3 (0, 0))) none 0 [] := Kd.C_nil _ _
      have K1 : Kd.C (Kd.int .i64) (w1.alloc (.cells #[.int .i64 m] 3 (0, 0))) (some ⟨w1.heap.size, 0, none⟩) 1 [m] := litJ w1 [m] (by simp)
      refine (waterhourlaw02_right.calls A0 c0 l0 _ 1 [m] _ 0 [] true _ (Kd.C_below (kc_ HR0 HB) (ba_ _ _)) HC0.out K1 (Nat.le_refl _) K2 (Nat.le_refl _) HRU.out).mono ?_
      rintro e w2 ⟨rfl, hb⟩
      replace hb := below_step (below_alloc (Below.refl _ w1) _) hb
      replace hb := nb_ HB hb
      replace HB := bs_ HB hb
      clear hb
      clear K1 K2
      go_wp2_with fail
      have K1 : Kd.C (Kd.int .i64) (w2.alloc (.cells #[.int .i64 a] 3 (0, 0))) none 0 [] := Kd.C_nil _ _
      have K2 : Kd.C (Kd.int .i64) (w2.alloc (.cells #[.int .i64 a] 3 (0, 0))) (some ⟨w2.heap.size, 0, none⟩) 1 [a] := litJ w2 [a] (by simp)
      refine (waterhourlaw02_right.calls A1 c1 l1 _ 0 [] _ 1 [a] false _ (Kd.C_below (kc_ HR1 HB) (ba_ _ _)) HC1.out K1 (Nat.le_refl _) K2 (Nat.le_refl _) HRV.out).mono ?_
      rintro e w3 ⟨rfl, hb⟩
      replace hb := below_step (below_alloc (Below.refl _ w2) _) hb
      replace hb := nb_ HB hb
      replace HB := bs_ HB hb
      clear hb
      clear K1 K2
      go_wp2
      go_ret
      exact ⟨by first | rfl | (simp; done), by first | exact HB.out | exact fb_ HB⟩
    | true =>
      have HRV : Aside0 (waterhourlaw02_right.f l1 [] [a] = some true) := ⟨by simp [waterhourlaw02_right.f, hR1]⟩
      cases hR2 : rightB l2 [] [a] with
      | false =>
        have HRW : Aside0 (waterhourlaw02_right.f l2 [] [a] = some false) := ⟨by simp [waterhourlaw02_right.f, hR2]⟩
        clear hR0 hR1 hR2
        go_enter Try.func16, Try.ntmps16
        go_wp2_with fail
        refine (waterhourlaw02_sane.calls true _ rfl).mono ?_
        rintro e w1 ⟨rfl, hb⟩
        replace hb := nb_ HB hb
        replace HB := bs_ HB hb
        clear hb
        go_wp2_with fail
        have K2 : Kd.C (Kd.int .i64) (w1.alloc (.cells #[.int .i64 m] 3 (0, 0))) none 0 [] := Kd.C_nil _ _
        have K1 : Kd.C (Kd.int .i64) (w1.alloc (.cells #[.int .i64 m] 3 (0, 0))) (some ⟨w1.heap.size, 0, none⟩) 1 [m] := litJ w1 [m] (by simp)
        refine (waterhourlaw02_right.calls A0 c0 l0 _ 1 [m] _ 0 [] true _ (Kd.C_below (kc_ HR0 HB) (ba_ _ _)) HC0.out K1 (Nat.le_refl _) K2 (Nat.le_refl _) HRU.out).mono ?_
        rintro e w2 ⟨rfl, hb⟩
        replace hb := below_step (below_alloc (Below.refl _ w1) _) hb
        replace hb := nb_ HB hb
        replace HB := bs_ HB hb
        clear hb
        clear K1 K2
        go_wp2_with fail
        have K1 : Kd.C (Kd.int .i64) (w2.alloc (.cells #[.int .i64 a] 3 (0, 0))) none 0 [] := Kd.C_nil _ _
        have K2 : Kd.C (Kd.int .i64) (w2.alloc (.cells #[.int .i64 a] 3 (0, 0))) (some ⟨w2.heap.size, 0, none⟩) 1 [a] := litJ w2 [a] (by simp)
        refine (waterhourlaw02_right.calls A1 c1 l1 _ 0 [] _ 1 [a] true _ (Kd.C_below (kc_ HR1 HB) (ba_ _ _)) HC1.out K1 (Nat.le_refl _) K2 (Nat.le_refl _) HRV.out).mono ?_
        rintro e w3 ⟨rfl, hb⟩
        replace hb := below_step (below_alloc (Below.refl _ w2) _) hb
        replace hb := nb_ HB hb
        replace HB := bs_ HB hb
        clear hb
        clear K1 K2
        go_wp2_with fail
        have K1 : Kd.C (Kd.int .i64) (w3.alloc (.cells #[.int .i64 a] 3 (0, 0))) none 0 [] := Kd.C_nil _ _
        have K2 : Kd.C (Kd.int .i64) (w3.alloc (.cells #[.int .i64 a] 3 (0, 0))) (some ⟨w3.heap.size, 0, none⟩) 1 [a] := litJ w3 [a] (by simp)
        refine (waterhourlaw02_right.calls A2 c2 l2 _ 0 [] _ 1 [a] false _ (Kd.C_below (kc_ HR2 HB) (ba_ _ _)) HC2.out K1 (Nat.le_refl _) K2 (Nat.le_refl _) HRW.out).mono ?_
        rintro e w4 ⟨rfl, hb⟩
        replace hb := below_step (below_alloc (Below.refl _ w3) _) hb
        replace hb := nb_ HB hb
        replace HB := bs_ HB hb
        clear hb
        clear K1 K2
        go_wp2
        go_ret
        exact ⟨by first | rfl | (simp; done), by first | exact HB.out | exact fb_ HB⟩
      | true =>
        have HRW : Aside0 (waterhourlaw02_right.f l2 [] [a] = some true) := ⟨by simp [waterhourlaw02_right.f, hR2]⟩
        obtain ⟨uv, vw, uw, hu, hu1, hu2, hv, hv1, hv2, hw, hw1, hw2, xl, xh, yl, yh, g0, g1, g2, g3, g4, g5, g6, g7, g8, g9, gA⟩ := slow_says hR0 hR1 hR2
        clear hR0 hR1 hR2
        have S0 : Aside0 (vessel_Slower.f l1 l1 = some (true, 0)) := ⟨congrArg some g0⟩
        have S1 : Aside0 (vessel_Slower.f l0 l1 = some (uv, 0)) := ⟨congrArg some g1⟩
        have S2 : Aside0 (vessel_Slower.f l1 l2 = some (vw, 0)) := ⟨congrArg some g2⟩
        have S3 : Aside0 (vessel_Slower.f l0 l2 = some (uw, 0)) := ⟨congrArg some g3⟩
        have Z0 : Aside0 (vessel_Sizes.f l0 = some (hu, hu1, hu2, 0)) := ⟨congrArg some g4⟩
        have Z1 : Aside0 (vessel_Sizes.f l1 = some (hv, hv1, hv2, 0)) := ⟨congrArg some g5⟩
        have Z2 : Aside0 (vessel_Sizes.f l2 = some (hw, hw1, hw2, 0)) := ⟨congrArg some g6⟩
        have H1 : Aside0 (vessel_After.f l1 a m = some (xl, xh, 0)) := ⟨congrArg some g7⟩
        have H2 : Aside0 (vessel_After.f l2 a m = some (yl, yh, 0)) := ⟨congrArg some g8⟩
        have HX := Aside0.mk g9
        have HY := Aside0.mk gA
        clear g0 g1 g2 g3 g4 g5 g6 g7 g8 g9 gA
        rcases HY.out with rfl | ⟨rfl, k1, k2⟩
        · clear HY
          go_enter Try.func16, Try.ntmps16
          go_wp2_with fail
          refine (waterhourlaw02_sane.calls true _ rfl).mono ?_
          rintro e w1 ⟨rfl, hb⟩
          replace hb := nb_ HB hb
          replace HB := bs_ HB hb
          clear hb
          go_wp2_with fail
          have K2 : Kd.C (Kd.int .i64) (w1.alloc (.cells #[.int .i64 m] 3 (0, 0))) none 0 [] := Kd.C_nil _ _
          have K1 : Kd.C (Kd.int .i64) (w1.alloc (.cells #[.int .i64 m] 3 (0, 0))) (some ⟨w1.heap.size, 0, none⟩) 1 [m] := litJ w1 [m] (by simp)
          refine (waterhourlaw02_right.calls A0 c0 l0 _ 1 [m] _ 0 [] true _ (Kd.C_below (kc_ HR0 HB) (ba_ _ _)) HC0.out K1 (Nat.le_refl _) K2 (Nat.le_refl _) HRU.out).mono ?_
          rintro e w2 ⟨rfl, hb⟩
          replace hb := below_step (below_alloc (Below.refl _ w1) _) hb
          replace hb := nb_ HB hb
          replace HB := bs_ HB hb
          clear hb
          clear K1 K2
          go_wp2_with fail
          have K1 : Kd.C (Kd.int .i64) (w2.alloc (.cells #[.int .i64 a] 3 (0, 0))) none 0 [] := Kd.C_nil _ _
          have K2 : Kd.C (Kd.int .i64) (w2.alloc (.cells #[.int .i64 a] 3 (0, 0))) (some ⟨w2.heap.size, 0, none⟩) 1 [a] := litJ w2 [a] (by simp)
          refine (waterhourlaw02_right.calls A1 c1 l1 _ 0 [] _ 1 [a] true _ (Kd.C_below (kc_ HR1 HB) (ba_ _ _)) HC1.out K1 (Nat.le_refl _) K2 (Nat.le_refl _) HRV.out).mono ?_
          rintro e w3 ⟨rfl, hb⟩
          replace hb := below_step (below_alloc (Below.refl _ w2) _) hb
          replace hb := nb_ HB hb
          replace HB := bs_ HB hb
          clear hb
          clear K1 K2
          go_wp2_with fail
          have K1 : Kd.C (Kd.int .i64) (w3.alloc (.cells #[.int .i64 a] 3 (0, 0))) none 0 [] := Kd.C_nil _ _
          have K2 : Kd.C (Kd.int .i64) (w3.alloc (.cells #[.int .i64 a] 3 (0, 0))) (some ⟨w3.heap.size, 0, none⟩) 1 [a] := litJ w3 [a] (by simp)
          refine (waterhourlaw02_right.calls A2 c2 l2 _ 0 [] _ 1 [a] true _ (Kd.C_below (kc_ HR2 HB) (ba_ _ _)) HC2.out K1 (Nat.le_refl _) K2 (Nat.le_refl _) HRW.out).mono ?_
          rintro e w4 ⟨rfl, hb⟩
          replace hb := below_step (below_alloc (Below.refl _ w3) _) hb
          replace hb := nb_ HB hb
          replace HB := bs_ HB hb
          clear hb
          clear K1 K2
          go_wp2_with fail
          refine (vessel_Slower.calls A1 c1 l1 A1 c1 l1 true 0 _ (kc_ HR1 HB) HC1.out (kc_ HR1 HB) HC1.out S0.out).mono ?_
          rintro e w5 ⟨rfl, hb⟩
          replace hb := nb_ HB hb
          replace HB := bs_ HB hb
          clear hb
          go_wp2_with fail
          refine (vessel_Slower.calls A0 c0 l0 A1 c1 l1 uv 0 _ (kc_ HR0 HB) HC0.out (kc_ HR1 HB) HC1.out S1.out).mono ?_
          rintro e w6 ⟨rfl, hb⟩
          replace hb := nb_ HB hb
          replace HB := bs_ HB hb
          clear hb
          go_wp2_with fail
          refine (vessel_Slower.calls A1 c1 l1 A2 c2 l2 false 0 _ (kc_ HR1 HB) HC1.out (kc_ HR2 HB) HC2.out S2.out).mono ?_
          rintro e w7 ⟨rfl, hb⟩
          replace hb := nb_ HB hb
          replace HB := bs_ HB hb
          clear hb
          go_wp2_with fail
          refine (vessel_Slower.calls A0 c0 l0 A2 c2 l2 uw 0 _ (kc_ HR0 HB) HC0.out (kc_ HR2 HB) HC2.out S3.out).mono ?_
          rintro e w8 ⟨rfl, hb⟩
          replace hb := nb_ HB hb
          replace HB := bs_ HB hb
          clear hb
          go_wp2_with fail
          refine (vessel_Sizes.calls A0 c0 l0 hu hu1 hu2 0 _ (kc_ HR0 HB) HC0.out Z0.out).mono ?_
          rintro e w9 ⟨rfl, hb⟩
          replace hb := nb_ HB hb
          replace HB := bs_ HB hb
          clear hb
          go_wp2_with fail
          refine (vessel_Sizes.calls A1 c1 l1 hv hv1 hv2 0 _ (kc_ HR1 HB) HC1.out Z1.out).mono ?_
          rintro e w10 ⟨rfl, hb⟩
          replace hb := nb_ HB hb
          replace HB := bs_ HB hb
          clear hb
          go_wp2_with fail
          refine (vessel_Sizes.calls A2 c2 l2 hw hw1 hw2 0 _ (kc_ HR2 HB) HC2.out Z2.out).mono ?_
          rintro e w11 ⟨rfl, hb⟩
          replace hb := nb_ HB hb
          replace HB := bs_ HB hb
          clear hb
          clear S0 S1 S2 S3 Z0 Z1 Z2
          go_upto_region 14 with (fail)
          rcases HX.out with k | ⟨rfl, k | ⟨rfl, rfl | ⟨rfl, k | ⟨k, rfl⟩⟩⟩⟩
          all_goals clear HX
          · have kb : (hu == hv) = false := beq_eq_false_iff_ne.2 k
            clear k
            go_wp2_with fail
            refine (vessel_After.calls A1 c1 l1 a m xl xh 0 _ (kc_ HR1 HB) HC1.out H1.out).mono ?_
            rintro e w12 ⟨rfl, hb⟩
            replace hb := nb_ HB hb
            replace HB := bs_ HB hb
            clear hb
            go_upto_region 17 with (fail)
            have BKga := nw_ w12 (.cells #[.int .i64 xl, .int .i64 xh] 27 (0, 0))
            have hb := ba_ w12 (.cells #[.int .i64 xl, .int .i64 xh] 27 (0, 0))
            replace HB := bs_ HB hb
            clear hb
            generalize w12.alloc (.cells #[.int .i64 xl, .int .i64 xh] 27 (0, 0)) = w13 at BKga HB ⊢
            generalize w12.heap.size = ga at BKga ⊢
            go_wp2_with fail
            refine (vessel_After.calls A2 c2 l2 a m yl yh 0 _ (kc_ HR2 HB) HC2.out H2.out).mono ?_
            rintro e w14 ⟨rfl, hb⟩
            replace hb := nb_ HB hb
            replace BKga := kb_ BKga hb
            replace HB := bs_ HB hb
            clear hb
            go_upto_region 18 with (fail)
            have BKgb := nw_ w14 (.cells #[.int .i64 yl, .int .i64 yh] 27 (0, 0))
            have hb := ba_ w14 (.cells #[.int .i64 yl, .int .i64 yh] 27 (0, 0))
            replace BKga := kb_ BKga hb
            replace HB := bs_ HB hb
            clear hb
            generalize w14.alloc (.cells #[.int .i64 yl, .int .i64 yh] 27 (0, 0)) = w15 at BKgb BKga HB ⊢
            generalize w14.heap.size = gb at BKgb ⊢
            obtain ⟨Oga_0, Oga_1⟩ := c2_ BKga
            obtain ⟨Ogb_0, Ogb_1⟩ := c2_ BKgb
            go_wp2
            go_ret
            exact ⟨by first | rfl | (simp; done), by first | exact HB.out | exact fb_ HB⟩
          · have kb : (hu == hw) = false := beq_eq_false_iff_ne.2 k
            clear k
            go_wp2_with fail
            refine (vessel_After.calls A1 c1 l1 a m xl xh 0 _ (kc_ HR1 HB) HC1.out H1.out).mono ?_
            rintro e w12 ⟨rfl, hb⟩
            replace hb := nb_ HB hb
            replace HB := bs_ HB hb
            clear hb
            go_upto_region 17 with (fail)
            have BKga := nw_ w12 (.cells #[.int .i64 xl, .int .i64 xh] 27 (0, 0))
            have hb := ba_ w12 (.cells #[.int .i64 xl, .int .i64 xh] 27 (0, 0))
            replace HB := bs_ HB hb
            clear hb
            generalize w12.alloc (.cells #[.int .i64 xl, .int .i64 xh] 27 (0, 0)) = w13 at BKga HB ⊢
            generalize w12.heap.size = ga at BKga ⊢
            go_wp2_with fail
            refine (vessel_After.calls A2 c2 l2 a m yl yh 0 _ (kc_ HR2 HB) HC2.out H2.out).mono ?_
            rintro e w14 ⟨rfl, hb⟩
            replace hb := nb_ HB hb
            replace BKga := kb_ BKga hb
            replace HB := bs_ HB hb
            clear hb
            go_upto_region 18 with (fail)
            have BKgb := nw_ w14 (.cells #[.int .i64 yl, .int .i64 yh] 27 (0, 0))
            have hb := ba_ w14 (.cells #[.int .i64 yl, .int .i64 yh] 27 (0, 0))
            replace BKga := kb_ BKga hb
            replace HB := bs_ HB hb
            clear hb
            generalize w14.alloc (.cells #[.int .i64 yl, .int .i64 yh] 27 (0, 0)) = w15 at BKgb BKga HB ⊢
            generalize w14.heap.size = gb at BKgb ⊢
            obtain ⟨Oga_0, Oga_1⟩ := c2_ BKga
            obtain ⟨Ogb_0, Ogb_1⟩ := c2_ BKgb
            go_wp2
            go_ret
            exact ⟨by first | rfl | (simp; done), by first | exact HB.out | exact fb_ HB⟩
          · go_wp2_with fail
            refine (vessel_After.calls A1 c1 l1 a m xl xh 0 _ (kc_ HR1 HB) HC1.out H1.out).mono ?_
            rintro e w12 ⟨rfl, hb⟩
            replace hb := nb_ HB hb
            replace HB := bs_ HB hb
            clear hb
            go_upto_region 17 with (fail)
            have BKga := nw_ w12 (.cells #[.int .i64 xl, .int .i64 xh] 27 (0, 0))
            have hb := ba_ w12 (.cells #[.int .i64 xl, .int .i64 xh] 27 (0, 0))
            replace HB := bs_ HB hb
            clear hb
            generalize w12.alloc (.cells #[.int .i64 xl, .int .i64 xh] 27 (0, 0)) = w13 at BKga HB ⊢
            generalize w12.heap.size = ga at BKga ⊢
            go_wp2_with fail
            refine (vessel_After.calls A2 c2 l2 a m yl yh 0 _ (kc_ HR2 HB) HC2.out H2.out).mono ?_
            rintro e w14 ⟨rfl, hb⟩
            replace hb := nb_ HB hb
            replace BKga := kb_ BKga hb
            replace HB := bs_ HB hb
            clear hb
            go_upto_region 18 with (fail)
            have BKgb := nw_ w14 (.cells #[.int .i64 yl, .int .i64 yh] 27 (0, 0))
            have hb := ba_ w14 (.cells #[.int .i64 yl, .int .i64 yh] 27 (0, 0))
            replace BKga := kb_ BKga hb
            replace HB := bs_ HB hb
            clear hb
            generalize w14.alloc (.cells #[.int .i64 yl, .int .i64 yh] 27 (0, 0)) = w15 at BKgb BKga HB ⊢
            generalize w14.heap.size = gb at BKgb ⊢
            obtain ⟨Oga_0, Oga_1⟩ := c2_ BKga
            obtain ⟨Ogb_0, Ogb_1⟩ := c2_ BKgb
            go_wp2
            go_ret
            exact ⟨by first | rfl | (simp; done), by first | exact HB.out | exact fb_ HB⟩
          · clear k
            go_wp2_with fail
            refine (vessel_After.calls A1 c1 l1 a m xl xh 0 _ (kc_ HR1 HB) HC1.out H1.out).mono ?_
            rintro e w12 ⟨rfl, hb⟩
            replace hb := nb_ HB hb
            replace HB := bs_ HB hb
            clear hb
            go_upto_region 17 with (fail)
            have BKga := nw_ w12 (.cells #[.int .i64 xl, .int .i64 xh] 27 (0, 0))
            have hb := ba_ w12 (.cells #[.int .i64 xl, .int .i64 xh] 27 (0, 0))
            replace HB := bs_ HB hb
            clear hb
            generalize w12.alloc (.cells #[.int .i64 xl, .int .i64 xh] 27 (0, 0)) = w13 at BKga HB ⊢
            generalize w12.heap.size = ga at BKga ⊢
            go_wp2_with fail
            refine (vessel_After.calls A2 c2 l2 a m yl yh 0 _ (kc_ HR2 HB) HC2.out H2.out).mono ?_
            rintro e w14 ⟨rfl, hb⟩
            replace hb := nb_ HB hb
            replace BKga := kb_ BKga hb
            replace HB := bs_ HB hb
            clear hb
            go_upto_region 18 with (fail)
            have BKgb := nw_ w14 (.cells #[.int .i64 yl, .int .i64 yh] 27 (0, 0))
            have hb := ba_ w14 (.cells #[.int .i64 yl, .int .i64 yh] 27 (0, 0))
            replace BKga := kb_ BKga hb
            replace HB := bs_ HB hb
            clear hb
            generalize w14.alloc (.cells #[.int .i64 yl, .int .i64 yh] 27 (0, 0)) = w15 at BKgb BKga HB ⊢
            generalize w14.heap.size = gb at BKgb ⊢
            obtain ⟨Oga_0, Oga_1⟩ := c2_ BKga
            obtain ⟨Ogb_0, Ogb_1⟩ := c2_ BKgb
            go_wp2
            go_ret
            exact ⟨by first | rfl | (simp; done), by first | exact HB.out | exact fb_ HB⟩
          · cases k
        · have d1 : decide (xl ≤ yl) = true := decide_eq_true k1
          have d2 : decide (xh ≤ yh) = true := decide_eq_true k2
          clear k1 k2
          clear HY
          go_enter Try.func16, Try.ntmps16
          go_wp2_with fail
          refine (waterhourlaw02_sane.calls true _ rfl).mono ?_
          rintro e w1 ⟨rfl, hb⟩
          replace hb := nb_ HB hb
          replace HB := bs_ HB hb
          clear hb
          go_wp2_with fail
          have K2 : Kd.C (Kd.int .i64) (w1.alloc (.cells #[.int .i64 m] 3 (0, 0))) none 0 [] := Kd.C_nil _ _
          have K1 : Kd.C (Kd.int .i64) (w1.alloc (.cells #[.int .i64 m] 3 (0, 0))) (some ⟨w1.heap.size, 0, none⟩) 1 [m] := litJ w1 [m] (by simp)
          refine (waterhourlaw02_right.calls A0 c0 l0 _ 1 [m] _ 0 [] true _ (Kd.C_below (kc_ HR0 HB) (ba_ _ _)) HC0.out K1 (Nat.le_refl _) K2 (Nat.le_refl _) HRU.out).mono ?_
          rintro e w2 ⟨rfl, hb⟩
          replace hb := below_step (below_alloc (Below.refl _ w1) _) hb
          replace hb := nb_ HB hb
          replace HB := bs_ HB hb
          clear hb
          clear K1 K2
          go_wp2_with fail
          have K1 : Kd.C (Kd.int .i64) (w2.alloc (.cells #[.int .i64 a] 3 (0, 0))) none 0 [] := Kd.C_nil _ _
          have K2 : Kd.C (Kd.int .i64) (w2.alloc (.cells #[.int .i64 a] 3 (0, 0))) (some ⟨w2.heap.size, 0, none⟩) 1 [a] := litJ w2 [a] (by simp)
          refine (waterhourlaw02_right.calls A1 c1 l1 _ 0 [] _ 1 [a] true _ (Kd.C_below (kc_ HR1 HB) (ba_ _ _)) HC1.out K1 (Nat.le_refl _) K2 (Nat.le_refl _) HRV.out).mono ?_
          rintro e w3 ⟨rfl, hb⟩
          replace hb := below_step (below_alloc (Below.refl _ w2) _) hb
          replace hb := nb_ HB hb
          replace HB := bs_ HB hb
          clear hb
          clear K1 K2
          go_wp2_with fail
          have K1 : Kd.C (Kd.int .i64) (w3.alloc (.cells #[.int .i64 a] 3 (0, 0))) none 0 [] := Kd.C_nil _ _
          have K2 : Kd.C (Kd.int .i64) (w3.alloc (.cells #[.int .i64 a] 3 (0, 0))) (some ⟨w3.heap.size, 0, none⟩) 1 [a] := litJ w3 [a] (by simp)
          refine (waterhourlaw02_right.calls A2 c2 l2 _ 0 [] _ 1 [a] true _ (Kd.C_below (kc_ HR2 HB) (ba_ _ _)) HC2.out K1 (Nat.le_refl _) K2 (Nat.le_refl _) HRW.out).mono ?_
          rintro e w4 ⟨rfl, hb⟩
          replace hb := below_step (below_alloc (Below.refl _ w3) _) hb
          replace hb := nb_ HB hb
          replace HB := bs_ HB hb
          clear hb
          clear K1 K2
          go_wp2_with fail
          refine (vessel_Slower.calls A1 c1 l1 A1 c1 l1 true 0 _ (kc_ HR1 HB) HC1.out (kc_ HR1 HB) HC1.out S0.out).mono ?_
          rintro e w5 ⟨rfl, hb⟩
          replace hb := nb_ HB hb
          replace HB := bs_ HB hb
          clear hb
          go_wp2_with fail
          refine (vessel_Slower.calls A0 c0 l0 A1 c1 l1 uv 0 _ (kc_ HR0 HB) HC0.out (kc_ HR1 HB) HC1.out S1.out).mono ?_
          rintro e w6 ⟨rfl, hb⟩
          replace hb := nb_ HB hb
          replace HB := bs_ HB hb
          clear hb
          go_wp2_with fail
          refine (vessel_Slower.calls A1 c1 l1 A2 c2 l2 true 0 _ (kc_ HR1 HB) HC1.out (kc_ HR2 HB) HC2.out S2.out).mono ?_
          rintro e w7 ⟨rfl, hb⟩
          replace hb := nb_ HB hb
          replace HB := bs_ HB hb
          clear hb
          go_wp2_with fail
          refine (vessel_Slower.calls A0 c0 l0 A2 c2 l2 uw 0 _ (kc_ HR0 HB) HC0.out (kc_ HR2 HB) HC2.out S3.out).mono ?_
          rintro e w8 ⟨rfl, hb⟩
          replace hb := nb_ HB hb
          replace HB := bs_ HB hb
          clear hb
          go_wp2_with fail
          refine (vessel_Sizes.calls A0 c0 l0 hu hu1 hu2 0 _ (kc_ HR0 HB) HC0.out Z0.out).mono ?_
          rintro e w9 ⟨rfl, hb⟩
          replace hb := nb_ HB hb
          replace HB := bs_ HB hb
          clear hb
          go_wp2_with fail
          refine (vessel_Sizes.calls A1 c1 l1 hv hv1 hv2 0 _ (kc_ HR1 HB) HC1.out Z1.out).mono ?_
          rintro e w10 ⟨rfl, hb⟩
          replace hb := nb_ HB hb
          replace HB := bs_ HB hb
          clear hb
          go_wp2_with fail
          refine (vessel_Sizes.calls A2 c2 l2 hw hw1 hw2 0 _ (kc_ HR2 HB) HC2.out Z2.out).mono ?_
          rintro e w11 ⟨rfl, hb⟩
          replace hb := nb_ HB hb
          replace HB := bs_ HB hb
          clear hb
          clear S0 S1 S2 S3 Z0 Z1 Z2
          go_upto_region 14 with (fail)
          rcases HX.out with k | ⟨rfl, k | ⟨rfl, rfl | ⟨rfl, k | ⟨k, rfl⟩⟩⟩⟩
          all_goals clear HX
          · have kb : (hu == hv) = false := beq_eq_false_iff_ne.2 k
            clear k
            go_wp2_with fail
            refine (vessel_After.calls A1 c1 l1 a m xl xh 0 _ (kc_ HR1 HB) HC1.out H1.out).mono ?_
            rintro e w12 ⟨rfl, hb⟩
            replace hb := nb_ HB hb
            replace HB := bs_ HB hb
            clear hb
            go_upto_region 17 with (fail)
            have BKga := nw_ w12 (.cells #[.int .i64 xl, .int .i64 xh] 27 (0, 0))
            have hb := ba_ w12 (.cells #[.int .i64 xl, .int .i64 xh] 27 (0, 0))
            replace HB := bs_ HB hb
            clear hb
            generalize w12.alloc (.cells #[.int .i64 xl, .int .i64 xh] 27 (0, 0)) = w13 at BKga HB ⊢
            generalize w12.heap.size = ga at BKga ⊢
            go_wp2_with fail
            refine (vessel_After.calls A2 c2 l2 a m yl yh 0 _ (kc_ HR2 HB) HC2.out H2.out).mono ?_
            rintro e w14 ⟨rfl, hb⟩
            replace hb := nb_ HB hb
            replace BKga := kb_ BKga hb
            replace HB := bs_ HB hb
            clear hb
            go_upto_region 18 with (fail)
            have BKgb := nw_ w14 (.cells #[.int .i64 yl, .int .i64 yh] 27 (0, 0))
            have hb := ba_ w14 (.cells #[.int .i64 yl, .int .i64 yh] 27 (0, 0))
            replace BKga := kb_ BKga hb
            replace HB := bs_ HB hb
            clear hb
            generalize w14.alloc (.cells #[.int .i64 yl, .int .i64 yh] 27 (0, 0)) = w15 at BKgb BKga HB ⊢
            generalize w14.heap.size = gb at BKgb ⊢
            obtain ⟨Oga_0, Oga_1⟩ := c2_ BKga
            obtain ⟨Ogb_0, Ogb_1⟩ := c2_ BKgb
            go_wp2
            go_ret
            exact ⟨by first | rfl | (simp; done), by first | exact HB.out | exact fb_ HB⟩
          · have kb : (hu == hw) = false := beq_eq_false_iff_ne.2 k
            clear k
            go_wp2_with fail
            refine (vessel_After.calls A1 c1 l1 a m xl xh 0 _ (kc_ HR1 HB) HC1.out H1.out).mono ?_
            rintro e w12 ⟨rfl, hb⟩
            replace hb := nb_ HB hb
            replace HB := bs_ HB hb
            clear hb
            go_upto_region 17 with (fail)
            have BKga := nw_ w12 (.cells #[.int .i64 xl, .int .i64 xh] 27 (0, 0))
            have hb := ba_ w12 (.cells #[.int .i64 xl, .int .i64 xh] 27 (0, 0))
            replace HB := bs_ HB hb
            clear hb
            generalize w12.alloc (.cells #[.int .i64 xl, .int .i64 xh] 27 (0, 0)) = w13 at BKga HB ⊢
            generalize w12.heap.size = ga at BKga ⊢
            go_wp2_with fail
            refine (vessel_After.calls A2 c2 l2 a m yl yh 0 _ (kc_ HR2 HB) HC2.out H2.out).mono ?_
            rintro e w14 ⟨rfl, hb⟩
            replace hb := nb_ HB hb
            replace BKga := kb_ BKga hb
            replace HB := bs_ HB hb
            clear hb
            go_upto_region 18 with (fail)
            have BKgb := nw_ w14 (.cells #[.int .i64 yl, .int .i64 yh] 27 (0, 0))
            have hb := ba_ w14 (.cells #[.int .i64 yl, .int .i64 yh] 27 (0, 0))
            replace BKga := kb_ BKga hb
            replace HB := bs_ HB hb
            clear hb
            generalize w14.alloc (.cells #[.int .i64 yl, .int .i64 yh] 27 (0, 0)) = w15 at BKgb BKga HB ⊢
            generalize w14.heap.size = gb at BKgb ⊢
            obtain ⟨Oga_0, Oga_1⟩ := c2_ BKga
            obtain ⟨Ogb_0, Ogb_1⟩ := c2_ BKgb
            go_wp2
            go_ret
            exact ⟨by first | rfl | (simp; done), by first | exact HB.out | exact fb_ HB⟩
          · go_wp2_with fail
            refine (vessel_After.calls A1 c1 l1 a m xl xh 0 _ (kc_ HR1 HB) HC1.out H1.out).mono ?_
            rintro e w12 ⟨rfl, hb⟩
            replace hb := nb_ HB hb
            replace HB := bs_ HB hb
            clear hb
            go_upto_region 17 with (fail)
            have BKga := nw_ w12 (.cells #[.int .i64 xl, .int .i64 xh] 27 (0, 0))
            have hb := ba_ w12 (.cells #[.int .i64 xl, .int .i64 xh] 27 (0, 0))
            replace HB := bs_ HB hb
            clear hb
            generalize w12.alloc (.cells #[.int .i64 xl, .int .i64 xh] 27 (0, 0)) = w13 at BKga HB ⊢
            generalize w12.heap.size = ga at BKga ⊢
            go_wp2_with fail
            refine (vessel_After.calls A2 c2 l2 a m yl yh 0 _ (kc_ HR2 HB) HC2.out H2.out).mono ?_
            rintro e w14 ⟨rfl, hb⟩
            replace hb := nb_ HB hb
            replace BKga := kb_ BKga hb
            replace HB := bs_ HB hb
            clear hb
            go_upto_region 18 with (fail)
            have BKgb := nw_ w14 (.cells #[.int .i64 yl, .int .i64 yh] 27 (0, 0))
            have hb := ba_ w14 (.cells #[.int .i64 yl, .int .i64 yh] 27 (0, 0))
            replace BKga := kb_ BKga hb
            replace HB := bs_ HB hb
            clear hb
            generalize w14.alloc (.cells #[.int .i64 yl, .int .i64 yh] 27 (0, 0)) = w15 at BKgb BKga HB ⊢
            generalize w14.heap.size = gb at BKgb ⊢
            obtain ⟨Oga_0, Oga_1⟩ := c2_ BKga
            obtain ⟨Ogb_0, Ogb_1⟩ := c2_ BKgb
            go_wp2
            go_ret
            exact ⟨by first | rfl | (simp; done), by first | exact HB.out | exact fb_ HB⟩
          · cases k
          · clear k
            go_wp2_with fail
            refine (vessel_After.calls A1 c1 l1 a m xl xh 0 _ (kc_ HR1 HB) HC1.out H1.out).mono ?_
            rintro e w12 ⟨rfl, hb⟩
            replace hb := nb_ HB hb
            replace HB := bs_ HB hb
            clear hb
            go_upto_region 17 with (fail)
            have BKga := nw_ w12 (.cells #[.int .i64 xl, .int .i64 xh] 27 (0, 0))
            have hb := ba_ w12 (.cells #[.int .i64 xl, .int .i64 xh] 27 (0, 0))
            replace HB := bs_ HB hb
            clear hb
            generalize w12.alloc (.cells #[.int .i64 xl, .int .i64 xh] 27 (0, 0)) = w13 at BKga HB ⊢
            generalize w12.heap.size = ga at BKga ⊢
            go_wp2_with fail
            refine (vessel_After.calls A2 c2 l2 a m yl yh 0 _ (kc_ HR2 HB) HC2.out H2.out).mono ?_
            rintro e w14 ⟨rfl, hb⟩
            replace hb := nb_ HB hb
            replace BKga := kb_ BKga hb
            replace HB := bs_ HB hb
            clear hb
            go_upto_region 18 with (fail)
            have BKgb := nw_ w14 (.cells #[.int .i64 yl, .int .i64 yh] 27 (0, 0))
            have hb := ba_ w14 (.cells #[.int .i64 yl, .int .i64 yh] 27 (0, 0))
            replace BKga := kb_ BKga hb
            replace HB := bs_ HB hb
            clear hb
            generalize w14.alloc (.cells #[.int .i64 yl, .int .i64 yh] 27 (0, 0)) = w15 at BKgb BKga HB ⊢
            generalize w14.heap.size = gb at BKgb ⊢
            obtain ⟨Oga_0, Oga_1⟩ := c2_ BKga
            obtain ⟨Ogb_0, Ogb_1⟩ := c2_ BKgb
            go_wp2
            go_ret
            exact ⟨by first | rfl | (simp; done), by first | exact HB.out | exact fb_ HB⟩
end Go.Proofs.Ytlhfclpbodfmcaa.Pr
