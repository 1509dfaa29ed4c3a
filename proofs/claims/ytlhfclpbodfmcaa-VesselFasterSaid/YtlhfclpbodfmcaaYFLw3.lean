/- A part of the proof: Lw3. -/
import Derived.Test.YtlhfclpbodfmcaaYFVm
import Derived.Test.YtlhfclpbodfmcaaYFKq
import Derived.Test.YtlhfclpbodfmcaaZLb
import Derived.Test.YtlhfclpbodfmcaaYFLb
import Derived.Test.YtlhfclpbodfmcaaYFLc
import Derived.Test.YtlhfclpbodfmcaaZRt
import Derived.Test.YtlhfclpbodfmcaaYFLe
import Derived.Test.YtlhfclpbodfmcaaYFKl
import Derived.Test.YtlhfclpbodfmcaaZSn
namespace Go.Proofs.Ytlhfclpbodfmcaa.Pr
open Go.RowKit Go.Proofs.YtlhfclpbodfmcaaW.PrintWords Go.Proofs.YtlhfclpbodfmcaaW.PrintLast Go.Proofs.YtlhfclpbodfmcaaW.PrintMore
open Go.Proofs.Ytlhfclpbodfmcaa.Vm
set_option linter.unusedVariables false
set_option linter.unusedSimpArgs false
set_option maxHeartbeats 1600000 in
set_option maxRecDepth 100000 in
theorem faster.walk (A0 : Option Addr) (c0 : Nat) (l0 : List S79) (a b m : Int) (w : World) (hr0 : Kd.C k79 w A0 l0.length l0) (hc0 : l0.length ≤ c0) :
    Calls Try.prog 9 #[.slice A0 l0.length c0, .int .i64 a, .int .i64 b, .int .i64 m] w fun e w' => e = .returned (.bool true) ∧ Below w.heap.size w w' := by
  have hu27 := Try.underlying27
  have HR0 := Aside0.mk hr0
  have HC0 := Aside0.mk hc0
  clear hr0 hc0
  have HB := Aside0.mk (Below.refl w.heap.size w)
  cases hR : rightB l0 [m] [a, b] with
  | false =>
    have HRT : Aside0 (waterhourlaw02_right.f l0 [m] [a, b] = some false) := ⟨by simp [waterhourlaw02_right.f, hR]⟩
    clear hR
    go_enter Try.func9, Try.ntmps9
    go_wp2_with fail
    refine (waterhourlaw02_sane.calls true _ rfl).mono ?_
    rintro e w1 ⟨rfl, hb⟩
    replace hb := nb_ HB hb
    replace HB := bs_ HB hb
    clear hb
    go_wp2_with fail
    have K1 : Kd.C (Kd.int .i64) ((w1.alloc (.cells #[.int .i64 m] 3 (0, 0))).alloc (.cells #[.int .i64 a, .int .i64 b] 3 (0, 0))) (some ⟨w1.heap.size, 0, none⟩) 1 [m] := Kd.C_below (litJ w1 [m] (by simp)) (ba_ _ _)
    have K2 : Kd.C (Kd.int .i64) ((w1.alloc (.cells #[.int .i64 m] 3 (0, 0))).alloc (.cells #[.int .i64 a, .int .i64 b] 3 (0, 0))) (some ⟨w1.heap.size + 1, 0, none⟩) 2 [a, b] := by have h2 := litJ (w1.alloc (.cells #[.int .i64 m] 3 (0, 0))) [a, b] (by simp); rwa [World.size_alloc] at h2
    refine (waterhourlaw02_right.calls A0 c0 l0 _ 1 [m] _ 2 [a, b] false _ (Kd.C_below (kc_ HR0 HB) (below_alloc (ba_ _ _) _)) HC0.out K1 (Nat.le_refl _) K2 (Nat.le_refl _) HRT.out).mono ?_
    rintro e w2 ⟨rfl, hb⟩
    replace hb := below_step (below_alloc (below_alloc (Below.refl _ w1) _) _) hb
    replace hb := nb_ HB hb
    replace HB := bs_ HB hb
    clear hb
    clear K1 K2
    go_wp2
    go_ret
    exact ⟨by first | rfl | (simp; done), by first | exact HB.out | exact fb_ HB⟩
  | true =>
    have HRT : Aside0 (waterhourlaw02_right.f l0 [m] [a, b] = some true) := ⟨by simp [waterhourlaw02_right.f, hR]⟩
    by_cases hab : a < b
    · clear hR
      have hd : decide (a < b) = true := decide_eq_true (by omega)
      go_enter Try.func9, Try.ntmps9
      go_wp2_with fail
      refine (waterhourlaw02_sane.calls true _ rfl).mono ?_
      rintro e w1 ⟨rfl, hb⟩
      replace hb := nb_ HB hb
      replace HB := bs_ HB hb
      clear hb
      go_wp2_with fail
      have K1 : Kd.C (Kd.int .i64) ((w1.alloc (.cells #[.int .i64 m] 3 (0, 0))).alloc (.cells #[.int .i64 a, .int .i64 b] 3 (0, 0))) (some ⟨w1.heap.size, 0, none⟩) 1 [m] := Kd.C_below (litJ w1 [m] (by simp)) (ba_ _ _)
      have K2 : Kd.C (Kd.int .i64) ((w1.alloc (.cells #[.int .i64 m] 3 (0, 0))).alloc (.cells #[.int .i64 a, .int .i64 b] 3 (0, 0))) (some ⟨w1.heap.size + 1, 0, none⟩) 2 [a, b] := by have h2 := litJ (w1.alloc (.cells #[.int .i64 m] 3 (0, 0))) [a, b] (by simp); rwa [World.size_alloc] at h2
      refine (waterhourlaw02_right.calls A0 c0 l0 _ 1 [m] _ 2 [a, b] true _ (Kd.C_below (kc_ HR0 HB) (below_alloc (ba_ _ _) _)) HC0.out K1 (Nat.le_refl _) K2 (Nat.le_refl _) HRT.out).mono ?_
      rintro e w2 ⟨rfl, hb⟩
      replace hb := below_step (below_alloc (below_alloc (Below.refl _ w1) _) _) hb
      replace hb := nb_ HB hb
      replace HB := bs_ HB hb
      clear hb
      clear K1 K2
      go_wp2
      go_ret
      exact ⟨by first | rfl | (simp; done), by first | exact HB.out | exact fb_ HB⟩
    · obtain ⟨xl, xh, yl, yh, zl, zh, h1, h2, h3, g1, g2, g3, g4, m0, m1, x0, x1⟩ := fast_says hR (by omega)
      clear hR
      have hd : decide (a < b) = false := decide_eq_false (by omega)
      have H1 : Aside0 (vessel_Run.f l0 a m = some (xl, xh, 0)) := ⟨congrArg some h1⟩
      have H2 : Aside0 (vessel_Run.f l0 a (2 * m) = some (yl, yh, 0)) := ⟨congrArg some h2⟩
      have H3 : Aside0 (vessel_Run.f l0 b m = some (zl, zh, 0)) := ⟨congrArg some h3⟩
      have e1 : wrap64 (2 * m) = 2 * m := by unfold wrap64; omega
      have e2 : wrap64 (2 * xh) = 2 * xh := by unfold wrap64; omega
      have d1 : decide (xl ≤ yl) = true := decide_eq_true (by omega)
      have d2 : decide (yl ≤ 2 * xh) = true := decide_eq_true (by omega)
      have d3 : decide (zl ≤ xl) = true := decide_eq_true (by omega)
      have d4 : decide (zh ≤ xh) = true := decide_eq_true (by omega)
      clear h1 h2 h3 g1 g2 g3 g4 m0 m1 x0 x1 hab
      go_enter Try.func9, Try.ntmps9
      go_wp2_with fail
      refine (waterhourlaw02_sane.calls true _ rfl).mono ?_
      rintro e w1 ⟨rfl, hb⟩
      replace hb := nb_ HB hb
      replace HB := bs_ HB hb
      clear hb
      go_wp2_with fail
      have K1 : Kd.C (Kd.int .i64) ((w1.alloc (.cells #[.int .i64 m] 3 (0, 0))).alloc (.cells #[.int .i64 a, .int .i64 b] 3 (0, 0))) (some ⟨w1.heap.size, 0, none⟩) 1 [m] := Kd.C_below (litJ w1 [m] (by simp)) (ba_ _ _)
      have K2 : Kd.C (Kd.int .i64) ((w1.alloc (.cells #[.int .i64 m] 3 (0, 0))).alloc (.cells #[.int .i64 a, .int .i64 b] 3 (0, 0))) (some ⟨w1.heap.size + 1, 0, none⟩) 2 [a, b] := by have h2 := litJ (w1.alloc (.cells #[.int .i64 m] 3 (0, 0))) [a, b] (by simp); rwa [World.size_alloc] at h2
      refine (waterhourlaw02_right.calls A0 c0 l0 _ 1 [m] _ 2 [a, b] true _ (Kd.C_below (kc_ HR0 HB) (below_alloc (ba_ _ _) _)) HC0.out K1 (Nat.le_refl _) K2 (Nat.le_refl _) HRT.out).mono ?_
      rintro e w2 ⟨rfl, hb⟩
      replace hb := below_step (below_alloc (below_alloc (Below.refl _ w1) _) _) hb
      replace hb := nb_ HB hb
      replace HB := bs_ HB hb
      clear hb
      clear K1 K2
      go_wp2_with fail
      refine (vessel_Run.calls A0 c0 l0 a m xl xh 0 _ (kc_ HR0 HB) HC0.out H1.out).mono ?_
      rintro e w3 ⟨rfl, hb⟩
      replace hb := nb_ HB hb
      replace HB := bs_ HB hb
      clear hb
      go_upto_region 6 with (fail)
      have BKga := nw_ w3 (.cells #[.int .i64 xl, .int .i64 xh] 27 (0, 0))
      have hb := ba_ w3 (.cells #[.int .i64 xl, .int .i64 xh] 27 (0, 0))
      replace HB := bs_ HB hb
      clear hb
      generalize w3.alloc (.cells #[.int .i64 xl, .int .i64 xh] 27 (0, 0)) = w4 at BKga HB ⊢
      generalize w3.heap.size = ga at BKga ⊢
      go_wp2_with fail
      refine (vessel_Run.calls A0 c0 l0 a (2 * m) yl yh 0 _ (kc_ HR0 HB) HC0.out H2.out).mono ?_
      rintro e w5 ⟨rfl, hb⟩
      replace hb := nb_ HB hb
      replace BKga := kb_ BKga hb
      replace HB := bs_ HB hb
      clear hb
      go_upto_region 7 with (fail)
      have BKgb := nw_ w5 (.cells #[.int .i64 yl, .int .i64 yh] 27 (0, 0))
      have hb := ba_ w5 (.cells #[.int .i64 yl, .int .i64 yh] 27 (0, 0))
      replace BKga := kb_ BKga hb
      replace HB := bs_ HB hb
      clear hb
      generalize w5.alloc (.cells #[.int .i64 yl, .int .i64 yh] 27 (0, 0)) = w6 at BKgb BKga HB ⊢
      generalize w5.heap.size = gb at BKgb ⊢
      go_wp2_with fail
      refine (vessel_Run.calls A0 c0 l0 b m zl zh 0 _ (kc_ HR0 HB) HC0.out H3.out).mono ?_
      rintro e w7 ⟨rfl, hb⟩
      replace hb := nb_ HB hb
      replace BKga := kb_ BKga hb
      replace BKgb := kb_ BKgb hb
      replace HB := bs_ HB hb
      clear hb
      go_upto_region 8 with (fail)
      have BKgc := nw_ w7 (.cells #[.int .i64 zl, .int .i64 zh] 27 (0, 0))
      have hb := ba_ w7 (.cells #[.int .i64 zl, .int .i64 zh] 27 (0, 0))
      replace BKga := kb_ BKga hb
      replace BKgb := kb_ BKgb hb
      replace HB := bs_ HB hb
      clear hb
      generalize w7.alloc (.cells #[.int .i64 zl, .int .i64 zh] 27 (0, 0)) = w8 at BKgc BKga BKgb HB ⊢
      generalize w7.heap.size = gc at BKgc ⊢
      obtain ⟨Oga_0, Oga_1⟩ := c2_ BKga
      obtain ⟨Ogb_0, Ogb_1⟩ := c2_ BKgb
      obtain ⟨Ogc_0, Ogc_1⟩ := c2_ BKgc
      go_wp2
      go_ret
      exact ⟨by first | rfl | (simp; done), by first | exact HB.out | exact fb_ HB⟩
end Go.Proofs.Ytlhfclpbodfmcaa.Pr
