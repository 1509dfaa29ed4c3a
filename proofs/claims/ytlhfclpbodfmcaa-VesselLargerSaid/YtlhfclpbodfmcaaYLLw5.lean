/- A part of the proof: Lw5. -/
import Derived.Test.YtlhfclpbodfmcaaYLVm
import Derived.Test.YtlhfclpbodfmcaaYLWWords
import Derived.Test.YtlhfclpbodfmcaaYLKq
import Derived.Test.YtlhfclpbodfmcaaZLb
import Derived.Test.YtlhfclpbodfmcaaZRt
import Derived.Test.YtlhfclpbodfmcaaZSn
namespace Go.Proofs.Ytlhfclpbodfmcaa.Pr
open Go.RowKit Go.Proofs.YtlhfclpbodfmcaaW.PrintWords Go.Proofs.YtlhfclpbodfmcaaW.PrintLast Go.Proofs.YtlhfclpbodfmcaaW.PrintMore
open Go.Proofs.Ytlhfclpbodfmcaa.Vm
set_option linter.unusedVariables false
set_option linter.unusedSimpArgs false
set_option maxHeartbeats 1600000 in
set_option maxRecDepth 100000 in
theorem larger.walk (A0 : Option Addr) (c0 : Nat) (l0 : List S79) (a b m k : Int) (w : World) (hr0 : Kd.C k79 w A0 l0.length l0) (hc0 : l0.length ≤ c0) :
    Calls Try.prog 11 #[.slice A0 l0.length c0, .int .i64 a, .int .i64 b, .int .i64 m, .int .i64 k] w fun e w' => e = .returned (.bool true) ∧ Below w.heap.size w w' := by
  have hu27 := Try.underlying27
  have HR0 := Aside0.mk hr0
  have HC0 := Aside0.mk hc0
  clear hr0 hc0
  have HB := Aside0.mk (Below.refl w.heap.size w)
  cases hR : rightB l0 [m] [a, b] with
  | false =>
    have HRT : Aside0 (waterhourlaw02_right.f l0 [m] [a, b] = some false) := ⟨by simp [waterhourlaw02_right.f, hR]⟩
    clear hR
    go_enter Try.func11, Try.ntmps11
    go_wp2_with fail
    refine (waterhourlaw02_sane.calls true _ rfl).mono ?_
    rintro e w1 ⟨rfl, hb⟩
    replace hb := nb_ HB hb
    replace HB := bs_ HB hb
    clear hb
    go_wp2_with fail
    have K1 : Kd.C (Kd.int .i64) ((w1.alloc (.cells #[.int .i64 m] 3 (0, 0))).alloc (.cells #[.int .i64 a, .int .i64 b] 3 (0, 0))) (some ⟨w1.heap.size, 0, none⟩) 1 [m] := Kd.C_below (litJ w1 [m] (by simp)) (ba_ _ _)
    have K2 : Kd.C (Kd.int .i64) ((w1.alloc (.cells #[.int .i64 m] 3 (0, 0))).alloc (.cells #[.int .i64 a, .int .i64 b] 3 (0, 0))) (some ⟨w1.heap.size + 1, 0, none⟩) 2 [a, b] := by have h2 := litJ (w1.alloc (.cells #[.int .i64 m] 3 (0, 0))) [a, b] (by simp); rwa [World.size_alloc] at h2
    refine (waterhourlaw02_right.calls A0 c0 l0 _ 1 [m] _ 2 [a, b] false _ (Kd.C_below (kc_ HR0 HB) (below_alloc (ba_ _ _) _)) HC0.out K1 (Nat.le_refl _) K2 (Nat.le_refl _) HRT.out).mono ?_
    rintro e w2 ⟨rfl, hb⟩
    replace hb := below_step (below_alloc (below_alloc (Below.refl _ w1) _) _) hb
    replace hb := nb_ HB hb
    replace HB := bs_ HB hb
    clear hb
    clear K1 K2
    go_wp2
    go_ret
    exact ⟨by first | rfl | (simp; done), by first | exact HB.out | exact fb_ HB⟩
  | true =>
    have HRT : Aside0 (waterhourlaw02_right.f l0 [m] [a, b] = some true) := ⟨by simp [waterhourlaw02_right.f, hR]⟩
    have hc : a < b ∨ b ≤ a ∧ (k < 1 ∨ 1 ≤ k ∧ (1000 < k ∨ k ≤ 1000)) := by omega
    rcases hc with hab | ⟨hab, k0 | ⟨k0, k1 | k1⟩⟩
    · clear hR
      have d1 : decide (a < b) = true := decide_eq_true (by omega)
      go_enter Try.func11, Try.ntmps11
      go_wp2_with fail
      refine (waterhourlaw02_sane.calls true _ rfl).mono ?_
      rintro e w1 ⟨rfl, hb⟩
      replace hb := nb_ HB hb
      replace HB := bs_ HB hb
      clear hb
      go_wp2_with fail
      have K1 : Kd.C (Kd.int .i64) ((w1.alloc (.cells #[.int .i64 m] 3 (0, 0))).alloc (.cells #[.int .i64 a, .int .i64 b] 3 (0, 0))) (some ⟨w1.heap.size, 0, none⟩) 1 [m] := Kd.C_below (litJ w1 [m] (by simp)) (ba_ _ _)
      have K2 : Kd.C (Kd.int .i64) ((w1.alloc (.cells #[.int .i64 m] 3 (0, 0))).alloc (.cells #[.int .i64 a, .int .i64 b] 3 (0, 0))) (some ⟨w1.heap.size + 1, 0, none⟩) 2 [a, b] := by have h2 := litJ (w1.alloc (.cells #[.int .i64 m] 3 (0, 0))) [a, b] (by simp); rwa [World.size_alloc] at h2
      refine (waterhourlaw02_right.calls A0 c0 l0 _ 1 [m] _ 2 [a, b] true _ (Kd.C_below (kc_ HR0 HB) (below_alloc (ba_ _ _) _)) HC0.out K1 (Nat.le_refl _) K2 (Nat.le_refl _) HRT.out).mono ?_
      rintro e w2 ⟨rfl, hb⟩
      replace hb := below_step (below_alloc (below_alloc (Below.refl _ w1) _) _) hb
      replace hb := nb_ HB hb
      replace HB := bs_ HB hb
      clear hb
      clear K1 K2
      go_wp2
      go_ret
      exact ⟨by first | rfl | (simp; done), by first | exact HB.out | exact fb_ HB⟩
    · clear hR
      have d1 : decide (a < b) = false := decide_eq_false (by omega)
      have d2 : decide (k < 1) = true := decide_eq_true (by omega)
      go_enter Try.func11, Try.ntmps11
      go_wp2_with fail
      refine (waterhourlaw02_sane.calls true _ rfl).mono ?_
      rintro e w1 ⟨rfl, hb⟩
      replace hb := nb_ HB hb
      replace HB := bs_ HB hb
      clear hb
      go_wp2_with fail
      have K1 : Kd.C (Kd.int .i64) ((w1.alloc (.cells #[.int .i64 m] 3 (0, 0))).alloc (.cells #[.int .i64 a, .int .i64 b] 3 (0, 0))) (some ⟨w1.heap.size, 0, none⟩) 1 [m] := Kd.C_below (litJ w1 [m] (by simp)) (ba_ _ _)
      have K2 : Kd.C (Kd.int .i64) ((w1.alloc (.cells #[.int .i64 m] 3 (0, 0))).alloc (.cells #[.int .i64 a, .int .i64 b] 3 (0, 0))) (some ⟨w1.heap.size + 1, 0, none⟩) 2 [a, b] := by have h2 := litJ (w1.alloc (.cells #[.int .i64 m] 3 (0, 0))) [a, b] (by simp); rwa [World.size_alloc] at h2
      refine (waterhourlaw02_right.calls A0 c0 l0 _ 1 [m] _ 2 [a, b] true _ (Kd.C_below (kc_ HR0 HB) (below_alloc (ba_ _ _) _)) HC0.out K1 (Nat.le_refl _) K2 (Nat.le_refl _) HRT.out).mono ?_
      rintro e w2 ⟨rfl, hb⟩
      replace hb := below_step (below_alloc (below_alloc (Below.refl _ w1) _) _) hb
      replace hb := nb_ HB hb
      replace HB := bs_ HB hb
      clear hb
      clear K1 K2
      go_wp2
      go_ret
      exact ⟨by first | rfl | (simp; done), by first | exact HB.out | exact fb_ HB⟩
    · clear hR
      have d1 : decide (a < b) = false := decide_eq_false (by omega)
      have d2 : decide (k < 1) = false := decide_eq_false (by omega)
      have d3 : decide (1000 < k) = true := decide_eq_true (by omega)
      go_enter Try.func11, Try.ntmps11
      go_wp2_with fail
      refine (waterhourlaw02_sane.calls true _ rfl).mono ?_
      rintro e w1 ⟨rfl, hb⟩
      replace hb := nb_ HB hb
      replace HB := bs_ HB hb
      clear hb
      go_wp2_with fail
      have K1 : Kd.C (Kd.int .i64) ((w1.alloc (.cells #[.int .i64 m] 3 (0, 0))).alloc (.cells #[.int .i64 a, .int .i64 b] 3 (0, 0))) (some ⟨w1.heap.size, 0, none⟩) 1 [m] := Kd.C_below (litJ w1 [m] (by simp)) (ba_ _ _)
      have K2 : Kd.C (Kd.int .i64) ((w1.alloc (.cells #[.int .i64 m] 3 (0, 0))).alloc (.cells #[.int .i64 a, .int .i64 b] 3 (0, 0))) (some ⟨w1.heap.size + 1, 0, none⟩) 2 [a, b] := by have h2 := litJ (w1.alloc (.cells #[.int .i64 m] 3 (0, 0))) [a, b] (by simp); rwa [World.size_alloc] at h2
      refine (waterhourlaw02_right.calls A0 c0 l0 _ 1 [m] _ 2 [a, b] true _ (Kd.C_below (kc_ HR0 HB) (below_alloc (ba_ _ _) _)) HC0.out K1 (Nat.le_refl _) K2 (Nat.le_refl _) HRT.out).mono ?_
      rintro e w2 ⟨rfl, hb⟩
      replace hb := below_step (below_alloc (below_alloc (Below.refl _ w1) _) _) hb
      replace hb := nb_ HB hb
      replace HB := bs_ HB hb
      clear hb
      clear K1 K2
      go_wp2
      go_ret
      exact ⟨by first | rfl | (simp; done), by first | exact HB.out | exact fb_ HB⟩
    · obtain ⟨xl, xh, sl, sh, rl, rh, h1, h2, h3, hD, hV, hH, e1, e2, e3, e4, e5, e6, e7, e8, e9⟩ := larg_says hR hab k0 k1
      clear hR
      have d1 : decide (a < b) = false := decide_eq_false (by omega)
      have d2 : decide (k < 1) = false := decide_eq_false (by omega)
      have d3 : decide (1000 < k) = false := decide_eq_false (by omega)
      clear hab k0 k1
      have H1 : Aside0 (vessel_After.f l0 a m = some (xl, xh, 0)) := ⟨congrArg some h1⟩
      have H2 : Aside0 (vessel_Sinking.f l0 a b = some (sl, sh, 0)) := ⟨congrArg some h2⟩
      have H3 : Aside0 (vessel_Run.f l0 a m = some (rl, rh, 0)) := ⟨congrArg some h3⟩
      have HD := Aside0.mk hD
      have HV := Aside0.mk hV
      have HH := Aside0.mk hH
      clear h1 h2 h3 hD hV hH
      go_enter Try.func11, Try.ntmps11
      go_wp2_with fail
      refine (waterhourlaw02_sane.calls true _ rfl).mono ?_
      rintro e w1 ⟨rfl, hb⟩
      replace hb := nb_ HB hb
      replace HB := bs_ HB hb
      clear hb
      go_wp2_with fail
      have K1 : Kd.C (Kd.int .i64) ((w1.alloc (.cells #[.int .i64 m] 3 (0, 0))).alloc (.cells #[.int .i64 a, .int .i64 b] 3 (0, 0))) (some ⟨w1.heap.size, 0, none⟩) 1 [m] := Kd.C_below (litJ w1 [m] (by simp)) (ba_ _ _)
      have K2 : Kd.C (Kd.int .i64) ((w1.alloc (.cells #[.int .i64 m] 3 (0, 0))).alloc (.cells #[.int .i64 a, .int .i64 b] 3 (0, 0))) (some ⟨w1.heap.size + 1, 0, none⟩) 2 [a, b] := by have h2 := litJ (w1.alloc (.cells #[.int .i64 m] 3 (0, 0))) [a, b] (by simp); rwa [World.size_alloc] at h2
      refine (waterhourlaw02_right.calls A0 c0 l0 _ 1 [m] _ 2 [a, b] true _ (Kd.C_below (kc_ HR0 HB) (below_alloc (ba_ _ _) _)) HC0.out K1 (Nat.le_refl _) K2 (Nat.le_refl _) HRT.out).mono ?_
      rintro e w2 ⟨rfl, hb⟩
      replace hb := below_step (below_alloc (below_alloc (Below.refl _ w1) _) _) hb
      replace hb := nb_ HB hb
      replace HB := bs_ HB hb
      clear hb
      clear K1 K2
      go_wp2_with fail
      refine (vessel_After.calls A0 c0 l0 a m xl xh 0 _ (kc_ HR0 HB) HC0.out H1.out).mono ?_
      rintro e w3 ⟨rfl, hb⟩
      replace hb := nb_ HB hb
      replace HB := bs_ HB hb
      clear hb
      clear d1 d2 d3
      go_upto_region 6 with (fail)
      have BKga := nw_ w3 (.cells #[.int .i64 xl, .int .i64 xh] 27 (0, 0))
      have hb := ba_ w3 (.cells #[.int .i64 xl, .int .i64 xh] 27 (0, 0))
      replace HB := bs_ HB hb
      clear hb
      generalize w3.alloc (.cells #[.int .i64 xl, .int .i64 xh] 27 (0, 0)) = w4 at BKga HB ⊢
      generalize w3.heap.size = ga at BKga ⊢
      go_wp2_with fail
      refine (vessel_Sinking.calls A0 c0 l0 a b sl sh 0 _ (kc_ HR0 HB) HC0.out H2.out).mono ?_
      rintro e w5 ⟨rfl, hb⟩
      replace hb := nb_ HB hb
      replace BKga := kb_ BKga hb
      replace HB := bs_ HB hb
      clear hb
      go_upto_region 7 with (fail)
      have BKgb := nw_ w5 (.cells #[.int .i64 sl, .int .i64 sh] 27 (0, 0))
      have hb := ba_ w5 (.cells #[.int .i64 sl, .int .i64 sh] 27 (0, 0))
      replace BKga := kb_ BKga hb
      replace HB := bs_ HB hb
      clear hb
      generalize w5.alloc (.cells #[.int .i64 sl, .int .i64 sh] 27 (0, 0)) = w6 at BKgb BKga HB ⊢
      generalize w5.heap.size = gb at BKgb ⊢
      go_wp2_with fail
      refine (vessel_Run.calls A0 c0 l0 a m rl rh 0 _ (kc_ HR0 HB) HC0.out H3.out).mono ?_
      rintro e w7 ⟨rfl, hb⟩
      replace hb := nb_ HB hb
      replace BKga := kb_ BKga hb
      replace BKgb := kb_ BKgb hb
      replace HB := bs_ HB hb
      clear hb
      go_upto_region 8 with (fail)
      have BKgc := nw_ w7 (.cells #[.int .i64 rl, .int .i64 rh] 27 (0, 0))
      have hb := ba_ w7 (.cells #[.int .i64 rl, .int .i64 rh] 27 (0, 0))
      replace BKga := kb_ BKga hb
      replace BKgb := kb_ BKgb hb
      replace HB := bs_ HB hb
      clear hb
      generalize w7.alloc (.cells #[.int .i64 rl, .int .i64 rh] 27 (0, 0)) = w8 at BKgc BKga BKgb HB ⊢
      generalize w7.heap.size = gc at BKgc ⊢
      go_upto_region 10 with (fail)
      obtain ⟨zd, hz, hk⟩ := HD.out
      clear HD
      have HZd := Aside0.mk hz
      have HKd := Aside0.mk hk
      clear hz hk
      go_wp2_with fail
      refine (waterhourlaw02_larger.calls 2000 A0 c0 l0 1 1 k zd _ (kc_ HR0 HB) HC0.out HZd.out).mono ?_
      rintro e w9 ⟨v1, rfl, ho, hb⟩
      obtain ⟨Ad, cd, rfl, hc1, k1⟩ := Kd.R_reads ho
      have Cd := Aside0.mk hc1
      have KLd := Aside0.mk k1
      clear ho hc1 k1
      replace hb := nb_ HB hb
      replace BKga := kb_ BKga hb
      replace BKgb := kb_ BKgb hb
      replace BKgc := kb_ BKgc hb
      replace HB := bs_ HB hb
      clear hb
      clear HZd
      rcases HKd.out with hk | ⟨hk, hm | ⟨hm, yl, yh, y1, y2, y3, y4⟩⟩
      all_goals clear HKd
      focus
        have HC := Aside0.mk hk
        clear hk
        go_wp2_with fail
        refine (vessel_Check.calls 30 Ad cd zd 20 _ KLd.out Cd.out HC.out).mono ?_
        rintro e w10 ⟨rfl, hb⟩
        replace hb := nb_ HB hb
        replace BKga := kb_ BKga hb
        replace BKgb := kb_ BKgb hb
        replace BKgc := kb_ BKgc hb
        replace KLd := Aside0.mk (Kd.C_below KLd.out hb)
        replace HB := bs_ HB hb
        clear hb
        go_upto_region 16 with (fail)
        clear HC KLd Cd
        rename World => wj10
      rotate_left
      focus
        have HC := Aside0.mk hk
        have d4 : decide (k * m ≤ 16777216) = false := decide_eq_false (by omega)
        clear hk hm
        go_wp2_with fail
        refine (vessel_Check.calls 30 Ad cd zd 0 _ KLd.out Cd.out HC.out).mono ?_
        rintro e w10 ⟨rfl, hb⟩
        replace hb := nb_ HB hb
        replace BKga := kb_ BKga hb
        replace BKgb := kb_ BKgb hb
        replace BKgc := kb_ BKgc hb
        replace KLd := Aside0.mk (Kd.C_below KLd.out hb)
        replace HB := bs_ HB hb
        clear hb
        go_upto_region 16 with (fail)
        clear HC KLd Cd d4
        rename World => wj10
      rotate_left
      focus
        have HC := Aside0.mk hk
        have d4 : decide (k * m ≤ 16777216) = true := decide_eq_true (by omega)
        have Y1 : Aside0 (vessel_After.f zd a (k * m) = some (xl, xh, 0)) := ⟨congrArg some y1⟩
        have Y2 : Aside0 (vessel_Sinking.f zd a b = some (yl, yh, 0)) := ⟨congrArg some y2⟩
        have d5 : decide (yl < k * sl) = false := decide_eq_false (by omega)
        have d6 : decide (k * sh < yh) = false := decide_eq_false (by omega)
        clear hk hm y1 y2 y3 y4
        go_wp2_with fail
        refine (vessel_Check.calls 30 Ad cd zd 0 _ KLd.out Cd.out HC.out).mono ?_
        rintro e w10 ⟨rfl, hb⟩
        replace hb := nb_ HB hb
        replace BKga := kb_ BKga hb
        replace BKgb := kb_ BKgb hb
        replace BKgc := kb_ BKgc hb
        replace KLd := Aside0.mk (Kd.C_below KLd.out hb)
        replace HB := bs_ HB hb
        clear hb
        go_wp2_with fail
        refine (vessel_After.calls Ad cd zd a (k * m) xl xh 0 _ KLd.out Cd.out Y1.out).mono ?_
        rintro e w11 ⟨rfl, hb⟩
        replace hb := nb_ HB hb
        replace BKga := kb_ BKga hb
        replace BKgb := kb_ BKgb hb
        replace BKgc := kb_ BKgc hb
        replace KLd := Aside0.mk (Kd.C_below KLd.out hb)
        replace HB := bs_ HB hb
        clear hb
        go_upto_region 13 with (fail)
        have BKgd := nw_ w11 (.cells #[.int .i64 xl, .int .i64 xh] 27 (0, 0))
        have hb := ba_ w11 (.cells #[.int .i64 xl, .int .i64 xh] 27 (0, 0))
        replace BKga := kb_ BKga hb
        replace BKgb := kb_ BKgb hb
        replace BKgc := kb_ BKgc hb
        replace KLd := Aside0.mk (Kd.C_below KLd.out hb)
        replace HB := bs_ HB hb
        clear hb
        generalize w11.alloc (.cells #[.int .i64 xl, .int .i64 xh] 27 (0, 0)) = w12 at BKgd BKga BKgb BKgc KLd HB ⊢
        generalize w11.heap.size = gd at BKgd ⊢
        go_wp2_with fail
        refine (vessel_Sinking.calls Ad cd zd a b yl yh 0 _ KLd.out Cd.out Y2.out).mono ?_
        rintro e w13 ⟨rfl, hb⟩
        replace hb := nb_ HB hb
        replace BKga := kb_ BKga hb
        replace BKgb := kb_ BKgb hb
        replace BKgc := kb_ BKgc hb
        replace BKgd := kb_ BKgd hb
        replace KLd := Aside0.mk (Kd.C_below KLd.out hb)
        replace HB := bs_ HB hb
        clear hb
        go_upto_region 14 with (fail)
        have BKge := nw_ w13 (.cells #[.int .i64 yl, .int .i64 yh] 27 (0, 0))
        have hb := ba_ w13 (.cells #[.int .i64 yl, .int .i64 yh] 27 (0, 0))
        replace BKga := kb_ BKga hb
        replace BKgb := kb_ BKgb hb
        replace BKgc := kb_ BKgc hb
        replace BKgd := kb_ BKgd hb
        replace KLd := Aside0.mk (Kd.C_below KLd.out hb)
        replace HB := bs_ HB hb
        clear hb
        generalize w13.alloc (.cells #[.int .i64 yl, .int .i64 yh] 27 (0, 0)) = w14 at BKge BKga BKgb BKgc BKgd KLd HB ⊢
        generalize w13.heap.size = ge at BKge ⊢
        obtain ⟨Oga_0, Oga_1⟩ := c2_ BKga
        obtain ⟨Ogb_0, Ogb_1⟩ := c2_ BKgb
        obtain ⟨Ogd_0, Ogd_1⟩ := c2_ BKgd
        obtain ⟨Oge_0, Oge_1⟩ := c2_ BKge
        go_upto_region 16 with (fail)
        clear Oga_0 Oga_1 Ogb_0 Ogb_1 Ogd_0 Ogd_1 Oge_0 Oge_1
        clear BKgd
        clear BKge
        clear HC KLd Cd d4 d5 d6 Y1 Y2
        rename World => wj10
      rotate_left
      all_goals (
        obtain ⟨zv, hz, hk⟩ := HV.out
        clear HV
        have HZv := Aside0.mk hz
        have HKv := Aside0.mk hk
        clear hz hk
        go_wp2_with fail
        refine (waterhourlaw02_larger.calls 2000 A0 c0 l0 1 k 1 zv _ (kc_ HR0 HB) HC0.out HZv.out).mono ?_
        rintro e w11 ⟨v1, rfl, ho, hb⟩
        obtain ⟨Av, cv, rfl, hc1, k1⟩ := Kd.R_reads ho
        have Cv := Aside0.mk hc1
        have KLv := Aside0.mk k1
        clear ho hc1 k1
        replace hb := nb_ HB hb
        replace BKga := kb_ BKga hb
        replace BKgb := kb_ BKgb hb
        replace BKgc := kb_ BKgc hb
        replace HB := bs_ HB hb
        clear hb
        clear HZv
        rcases HKv.out with hk | ⟨hk, yl, yh, y1, y2, y3, y4⟩
        all_goals clear HKv
        focus
          have HC := Aside0.mk hk
          clear hk
          go_wp2_with fail
          refine (vessel_Check.calls 30 Av cv zv 20 _ KLv.out Cv.out HC.out).mono ?_
          rintro e w12 ⟨rfl, hb⟩
          replace hb := nb_ HB hb
          replace BKga := kb_ BKga hb
          replace BKgb := kb_ BKgb hb
          replace BKgc := kb_ BKgc hb
          replace KLv := Aside0.mk (Kd.C_below KLv.out hb)
          replace HB := bs_ HB hb
          clear hb
          go_upto_region 22 with (fail)
          clear HC KLv Cv
          rename World => wj12
        rotate_left
        focus
          have HC := Aside0.mk hk
          have Y1 : Aside0 (vessel_After.f zv a m = some (xl, xh, 0)) := ⟨congrArg some y1⟩
          have Y2 : Aside0 (vessel_Run.f zv a m = some (yl, yh, 0)) := ⟨congrArg some y2⟩
          have d5 : decide (yl < k * rl) = false := decide_eq_false (by omega)
          have d6 : decide (k * rh < yh) = false := decide_eq_false (by omega)
          clear hk y1 y2 y3 y4
          go_wp2_with fail
          refine (vessel_Check.calls 30 Av cv zv 0 _ KLv.out Cv.out HC.out).mono ?_
          rintro e w12 ⟨rfl, hb⟩
          replace hb := nb_ HB hb
          replace BKga := kb_ BKga hb
          replace BKgb := kb_ BKgb hb
          replace BKgc := kb_ BKgc hb
          replace KLv := Aside0.mk (Kd.C_below KLv.out hb)
          replace HB := bs_ HB hb
          clear hb
          go_wp2_with fail
          refine (vessel_After.calls Av cv zv a m xl xh 0 _ KLv.out Cv.out Y1.out).mono ?_
          rintro e w13 ⟨rfl, hb⟩
          replace hb := nb_ HB hb
          replace BKga := kb_ BKga hb
          replace BKgb := kb_ BKgb hb
          replace BKgc := kb_ BKgc hb
          replace KLv := Aside0.mk (Kd.C_below KLv.out hb)
          replace HB := bs_ HB hb
          clear hb
          go_upto_region 19 with (fail)
          have BKgd := nw_ w13 (.cells #[.int .i64 xl, .int .i64 xh] 27 (0, 0))
          have hb := ba_ w13 (.cells #[.int .i64 xl, .int .i64 xh] 27 (0, 0))
          replace BKga := kb_ BKga hb
          replace BKgb := kb_ BKgb hb
          replace BKgc := kb_ BKgc hb
          replace KLv := Aside0.mk (Kd.C_below KLv.out hb)
          replace HB := bs_ HB hb
          clear hb
          generalize w13.alloc (.cells #[.int .i64 xl, .int .i64 xh] 27 (0, 0)) = w14 at BKgd BKga BKgb BKgc KLv HB ⊢
          generalize w13.heap.size = gd at BKgd ⊢
          go_wp2_with fail
          refine (vessel_Run.calls Av cv zv a m yl yh 0 _ KLv.out Cv.out Y2.out).mono ?_
          rintro e w15 ⟨rfl, hb⟩
          replace hb := nb_ HB hb
          replace BKga := kb_ BKga hb
          replace BKgb := kb_ BKgb hb
          replace BKgc := kb_ BKgc hb
          replace BKgd := kb_ BKgd hb
          replace KLv := Aside0.mk (Kd.C_below KLv.out hb)
          replace HB := bs_ HB hb
          clear hb
          go_upto_region 20 with (fail)
          have BKge := nw_ w15 (.cells #[.int .i64 yl, .int .i64 yh] 27 (0, 0))
          have hb := ba_ w15 (.cells #[.int .i64 yl, .int .i64 yh] 27 (0, 0))
          replace BKga := kb_ BKga hb
          replace BKgb := kb_ BKgb hb
          replace BKgc := kb_ BKgc hb
          replace BKgd := kb_ BKgd hb
          replace KLv := Aside0.mk (Kd.C_below KLv.out hb)
          replace HB := bs_ HB hb
          clear hb
          generalize w15.alloc (.cells #[.int .i64 yl, .int .i64 yh] 27 (0, 0)) = w16 at BKge BKga BKgb BKgc BKgd KLv HB ⊢
          generalize w15.heap.size = ge at BKge ⊢
          obtain ⟨Oga_0, Oga_1⟩ := c2_ BKga
          obtain ⟨Ogc_0, Ogc_1⟩ := c2_ BKgc
          obtain ⟨Ogd_0, Ogd_1⟩ := c2_ BKgd
          obtain ⟨Oge_0, Oge_1⟩ := c2_ BKge
          go_upto_region 22 with (fail)
          clear Oga_0 Oga_1 Ogc_0 Ogc_1 Ogd_0 Ogd_1 Oge_0 Oge_1
          clear BKgd
          clear BKge
          clear HC KLv Cv d5 d6 Y1 Y2
          rename World => wj12
        rotate_left)
      all_goals (
        obtain ⟨zh, hz, hk⟩ := HH.out
        clear HH
        have HZh := Aside0.mk hz
        have HKh := Aside0.mk hk
        clear hz hk
        go_wp2_with fail
        refine (waterhourlaw02_larger.calls 2000 A0 c0 l0 k 1 1 zh _ (kc_ HR0 HB) HC0.out HZh.out).mono ?_
        rintro e w13 ⟨v1, rfl, ho, hb⟩
        obtain ⟨Ah, ch, rfl, hc1, k1⟩ := Kd.R_reads ho
        have Ch := Aside0.mk hc1
        have KLh := Aside0.mk k1
        clear ho hc1 k1
        replace hb := nb_ HB hb
        replace BKga := kb_ BKga hb
        replace BKgb := kb_ BKgb hb
        replace BKgc := kb_ BKgc hb
        replace HB := bs_ HB hb
        clear hb
        clear HZh
        rcases HKh.out with hk | ⟨hk, yl, yh, y1, y2, y3, y4⟩
        all_goals clear HKh
        · have HC := Aside0.mk hk
          clear hk
          go_wp2_with fail
          refine (vessel_Check.calls 30 Ah ch zh 20 _ KLh.out Ch.out HC.out).mono ?_
          rintro e w14 ⟨rfl, hb⟩
          replace hb := nb_ HB hb
          replace BKga := kb_ BKga hb
          replace BKgb := kb_ BKgb hb
          replace BKgc := kb_ BKgc hb
          replace KLh := Aside0.mk (Kd.C_below KLh.out hb)
          replace HB := bs_ HB hb
          clear hb
          go_wp2
          go_ret
          exact ⟨by first | rfl | (simp; done), by first | exact HB.out | exact fb_ HB⟩
        · have HC := Aside0.mk hk
          have Y1 : Aside0 (vessel_After.f zh (k * a) m = some (yl, yh, 0)) := ⟨congrArg some y1⟩
          have Y2 : Aside0 (vessel_Sinking.f zh (k * a) (k * b) = some (sl, sh, 0)) := ⟨congrArg some y2⟩
          have d5 : decide (yl < k * xl) = false := decide_eq_false (by omega)
          have d6 : decide (k * xh < yh) = false := decide_eq_false (by omega)
          clear hk y1 y2 y3 y4
          go_wp2_with fail
          refine (vessel_Check.calls 30 Ah ch zh 0 _ KLh.out Ch.out HC.out).mono ?_
          rintro e w14 ⟨rfl, hb⟩
          replace hb := nb_ HB hb
          replace BKga := kb_ BKga hb
          replace BKgb := kb_ BKgb hb
          replace BKgc := kb_ BKgc hb
          replace KLh := Aside0.mk (Kd.C_below KLh.out hb)
          replace HB := bs_ HB hb
          clear hb
          go_wp2_with fail
          refine (vessel_After.calls Ah ch zh (k * a) m yl yh 0 _ KLh.out Ch.out Y1.out).mono ?_
          rintro e w15 ⟨rfl, hb⟩
          replace hb := nb_ HB hb
          replace BKga := kb_ BKga hb
          replace BKgb := kb_ BKgb hb
          replace BKgc := kb_ BKgc hb
          replace KLh := Aside0.mk (Kd.C_below KLh.out hb)
          replace HB := bs_ HB hb
          clear hb
          go_upto_region 25 with (fail)
          have BKgd := nw_ w15 (.cells #[.int .i64 yl, .int .i64 yh] 27 (0, 0))
          have hb := ba_ w15 (.cells #[.int .i64 yl, .int .i64 yh] 27 (0, 0))
          replace BKga := kb_ BKga hb
          replace BKgb := kb_ BKgb hb
          replace BKgc := kb_ BKgc hb
          replace KLh := Aside0.mk (Kd.C_below KLh.out hb)
          replace HB := bs_ HB hb
          clear hb
          generalize w15.alloc (.cells #[.int .i64 yl, .int .i64 yh] 27 (0, 0)) = w16 at BKgd BKga BKgb BKgc KLh HB ⊢
          generalize w15.heap.size = gd at BKgd ⊢
          go_wp2_with fail
          refine (vessel_Sinking.calls Ah ch zh (k * a) (k * b) sl sh 0 _ KLh.out Ch.out Y2.out).mono ?_
          rintro e w17 ⟨rfl, hb⟩
          replace hb := nb_ HB hb
          replace BKga := kb_ BKga hb
          replace BKgb := kb_ BKgb hb
          replace BKgc := kb_ BKgc hb
          replace BKgd := kb_ BKgd hb
          replace KLh := Aside0.mk (Kd.C_below KLh.out hb)
          replace HB := bs_ HB hb
          clear hb
          go_upto_region 26 with (fail)
          have BKge := nw_ w17 (.cells #[.int .i64 sl, .int .i64 sh] 27 (0, 0))
          have hb := ba_ w17 (.cells #[.int .i64 sl, .int .i64 sh] 27 (0, 0))
          replace BKga := kb_ BKga hb
          replace BKgb := kb_ BKgb hb
          replace BKgc := kb_ BKgc hb
          replace BKgd := kb_ BKgd hb
          replace KLh := Aside0.mk (Kd.C_below KLh.out hb)
          replace HB := bs_ HB hb
          clear hb
          generalize w17.alloc (.cells #[.int .i64 sl, .int .i64 sh] 27 (0, 0)) = w18 at BKge BKga BKgb BKgc BKgd KLh HB ⊢
          generalize w17.heap.size = ge at BKge ⊢
          obtain ⟨Oga_0, Oga_1⟩ := c2_ BKga
          obtain ⟨Ogb_0, Ogb_1⟩ := c2_ BKgb
          obtain ⟨Ogd_0, Ogd_1⟩ := c2_ BKgd
          obtain ⟨Oge_0, Oge_1⟩ := c2_ BKge
          go_wp2
          go_ret
          exact ⟨by first | rfl | (simp; done), by first | exact HB.out | exact fb_ HB⟩)
end Go.Proofs.Ytlhfclpbodfmcaa.Pr
