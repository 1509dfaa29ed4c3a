/- A part of the proof: Lw4. -/
import Derived.Test.YtlhfclpbodfmcaaYCKq
import Derived.Test.YtlhfclpbodfmcaaYCTp
import Derived.Test.YtlhfclpbodfmcaaZLb
import Derived.Test.YtlhfclpbodfmcaaYCLb
import Derived.Test.YtlhfclpbodfmcaaYCLc
import Derived.Test.YtlhfclpbodfmcaaZRt
import Derived.Test.YtlhfclpbodfmcaaYCLe
import Derived.Test.YtlhfclpbodfmcaaYCKl
import Derived.Test.YtlhfclpbodfmcaaZSn
namespace Go.Proofs.Ytlhfclpbodfmcaa.Pr
open Go.RowKit Go.Proofs.YtlhfclpbodfmcaaW.PrintWords Go.Proofs.YtlhfclpbodfmcaaW.PrintLast Go.Proofs.YtlhfclpbodfmcaaW.PrintMore
open Go.Proofs.Ytlhfclpbodfmcaa.Vm
set_option linter.unusedVariables false
set_option linter.unusedSimpArgs false
set_option maxHeartbeats 1600000 in
set_option maxRecDepth 100000 in
theorem cascade.walk (A0 : Option Addr) (c0 : Nat) (l0 : List S79) (A1 : Option Addr) (c1 : Nat) (l1 : List S79) (a m x n : Int) (w : World) (hr0 : Kd.C k79 w A0 l0.length l0) (hc0 : l0.length ≤ c0) (hr1 : Kd.C k79 w A1 l1.length l1) (hc1 : l1.length ≤ c1) :
    Calls Try.prog 10 #[.slice A0 l0.length c0, .slice A1 l1.length c1, .int .i64 a, .int .i64 m, .int .i64 x, .int .i64 n] w fun e w' => e = .returned (.bool true) ∧ Below w.heap.size w w' := by
  have hu27 := Try.underlying27
  have HR0 := Aside0.mk hr0
  have HC0 := Aside0.mk hc0
  have HR1 := Aside0.mk hr1
  have HC1 := Aside0.mk hc1
  clear hr0 hc0 hr1 hc1
  have HB := Aside0.mk (Below.refl w.heap.size w)
  cases hR : rightB l0 [m, n] [a] with
  | false =>
    have HRT : Aside0 (waterhourlaw02_right.f l0 [m, n] [a] = some false) := ⟨by simp [waterhourlaw02_right.f, hR]⟩
    clear hR
    go_enter Try.func10, Try.ntmps10
    go_wp2_with fail
    refine (waterhourlaw02_sane.calls true _ rfl).mono ?_
    rintro e w1 ⟨rfl, hb⟩
    replace hb := nb_ HB hb
    replace HB := bs_ HB hb
    clear hb
    go_wp2_with fail
    have K1 : Kd.C (Kd.int .i64) ((w1.alloc (.cells #[.int .i64 m, .int .i64 n] 3 (0, 0))).alloc (.cells #[.int .i64 a] 3 (0, 0))) (some ⟨w1.heap.size, 0, none⟩) 2 [m, n] := Kd.C_below (litJ w1 [m, n] (by simp)) (ba_ _ _)
    have K2 : Kd.C (Kd.int .i64) ((w1.alloc (.cells #[.int .i64 m, .int .i64 n] 3 (0, 0))).alloc (.cells #[.int .i64 a] 3 (0, 0))) (some ⟨w1.heap.size + 1, 0, none⟩) 1 [a] := by have h2 := litJ (w1.alloc (.cells #[.int .i64 m, .int .i64 n] 3 (0, 0))) [a] (by simp); rwa [World.size_alloc] at h2
    refine (waterhourlaw02_right.calls A0 c0 l0 _ 2 [m, n] _ 1 [a] false _ (Kd.C_below (kc_ HR0 HB) (below_alloc (ba_ _ _) _)) HC0.out K1 (Nat.le_refl _) K2 (Nat.le_refl _) HRT.out).mono ?_
    rintro e w2 ⟨rfl, hb⟩
    replace hb := below_step (below_alloc (below_alloc (Below.refl _ w1) _) _) hb
    replace hb := nb_ HB hb
    replace HB := bs_ HB hb
    clear hb
    clear K1 K2
    go_wp2
    go_ret
    exact ⟨by first | rfl | (simp; done), by first | exact HB.out | exact fb_ HB⟩
  | true =>
    have HRT : Aside0 (waterhourlaw02_right.f l0 [m, n] [a] = some true) := ⟨by simp [waterhourlaw02_right.f, hR]⟩
    cases hU : rightB l1 [] [x] with
    | false =>
      have HRU : Aside0 (waterhourlaw02_right.f l1 [] [x] = some false) := ⟨by simp [waterhourlaw02_right.f, hU]⟩
      clear hU hR
      go_enter Try.func10, Try.ntmps10
      go_wp2_with fail
      refine (waterhourlaw02_sane.calls true _ rfl).mono ?_
      rintro e w1 ⟨rfl, hb⟩
      replace hb := nb_ HB hb
      replace HB := bs_ HB hb
      clear hb
      go_wp2_with fail
      have K1 : Kd.C (Kd.int .i64) ((w1.alloc (.cells #[.int .i64 m, .int .i64 n] 3 (0, 0))).alloc (.cells #[.int .i64 a] 3 (0, 0))) (some ⟨w1.heap.size, 0, none⟩) 2 [m, n] := Kd.C_below (litJ w1 [m, n] (by simp)) (ba_ _ _)
      have K2 : Kd.C (Kd.int .i64) ((w1.alloc (.cells #[.int .i64 m, .int .i64 n] 3 (0, 0))).alloc (.cells #[.int .i64 a] 3 (0, 0))) (some ⟨w1.heap.size + 1, 0, none⟩) 1 [a] := by have h2 := litJ (w1.alloc (.cells #[.int .i64 m, .int .i64 n] 3 (0, 0))) [a] (by simp); rwa [World.size_alloc] at h2
      refine (waterhourlaw02_right.calls A0 c0 l0 _ 2 [m, n] _ 1 [a] true _ (Kd.C_below (kc_ HR0 HB) (below_alloc (ba_ _ _) _)) HC0.out K1 (Nat.le_refl _) K2 (Nat.le_refl _) HRT.out).mono ?_
      rintro e w2 ⟨rfl, hb⟩
      replace hb := below_step (below_alloc (below_alloc (Below.refl _ w1) _) _) hb
      replace hb := nb_ HB hb
      replace HB := bs_ HB hb
      clear hb
      clear K1 K2
      go_wp2_with fail
      have K1 : Kd.C (Kd.int .i64) (w2.alloc (.cells #[.int .i64 x] 3 (0, 0))) none 0 [] := Kd.C_nil _ _
      have K2 : Kd.C (Kd.int .i64) (w2.alloc (.cells #[.int .i64 x] 3 (0, 0))) (some ⟨w2.heap.size, 0, none⟩) 1 [x] := litJ w2 [x] (by simp)
      refine (waterhourlaw02_right.calls A1 c1 l1 _ 0 [] _ 1 [x] false _ (Kd.C_below (kc_ HR1 HB) (ba_ _ _)) HC1.out K1 (Nat.le_refl _) K2 (Nat.le_refl _) HRU.out).mono ?_
      rintro e w3 ⟨rfl, hb⟩
      replace hb := below_step (below_alloc (Below.refl _ w2) _) hb
      replace hb := nb_ HB hb
      replace HB := bs_ HB hb
      clear hb
      clear K1 K2
      go_wp2
      go_ret
      exact ⟨by first | rfl | (simp; done), by first | exact HB.out | exact fb_ HB⟩
    | true =>
      have HRU : Aside0 (waterhourlaw02_right.f l1 [] [x] = some true) := ⟨by simp [waterhourlaw02_right.f, hU]⟩
      obtain ⟨r1, r2, e1, s1, s2, e2, t1, t2, e3, h1, h2, h3, hX, m0, m1, n0, n1⟩ := casc_says hR hU
      clear hU hR
      have H1 : Aside0 (vessel_Cascade.f l0 l1 a m = some (r1, r2, e1)) := ⟨congrArg some h1⟩
      have H2 : Aside0 (vessel_Received.f l0 l1 a x = some (s1, s2, e2)) := ⟨congrArg some h2⟩
      have H3 : Aside0 (vessel_Cascade.f l0 l1 a (m + n) = some (t1, t2, e3)) := ⟨congrArg some h3⟩
      have em : wrap64 (m + n) = m + n := by unfold wrap64; omega
      have HX := Aside0.mk hX
      clear h1 h2 h3 hX m0 m1 n0 n1
      go_enter Try.func10, Try.ntmps10
      go_wp2_with fail
      refine (waterhourlaw02_sane.calls true _ rfl).mono ?_
      rintro e w1 ⟨rfl, hb⟩
      replace hb := nb_ HB hb
      replace HB := bs_ HB hb
      clear hb
      go_wp2_with fail
      have K1 : Kd.C (Kd.int .i64) ((w1.alloc (.cells #[.int .i64 m, .int .i64 n] 3 (0, 0))).alloc (.cells #[.int .i64 a] 3 (0, 0))) (some ⟨w1.heap.size, 0, none⟩) 2 [m, n] := Kd.C_below (litJ w1 [m, n] (by simp)) (ba_ _ _)
      have K2 : Kd.C (Kd.int .i64) ((w1.alloc (.cells #[.int .i64 m, .int .i64 n] 3 (0, 0))).alloc (.cells #[.int .i64 a] 3 (0, 0))) (some ⟨w1.heap.size + 1, 0, none⟩) 1 [a] := by have h2 := litJ (w1.alloc (.cells #[.int .i64 m, .int .i64 n] 3 (0, 0))) [a] (by simp); rwa [World.size_alloc] at h2
      refine (waterhourlaw02_right.calls A0 c0 l0 _ 2 [m, n] _ 1 [a] true _ (Kd.C_below (kc_ HR0 HB) (below_alloc (ba_ _ _) _)) HC0.out K1 (Nat.le_refl _) K2 (Nat.le_refl _) HRT.out).mono ?_
      rintro e w2 ⟨rfl, hb⟩
      replace hb := below_step (below_alloc (below_alloc (Below.refl _ w1) _) _) hb
      replace hb := nb_ HB hb
      replace HB := bs_ HB hb
      clear hb
      clear K1 K2
      go_wp2_with fail
      have K1 : Kd.C (Kd.int .i64) (w2.alloc (.cells #[.int .i64 x] 3 (0, 0))) none 0 [] := Kd.C_nil _ _
      have K2 : Kd.C (Kd.int .i64) (w2.alloc (.cells #[.int .i64 x] 3 (0, 0))) (some ⟨w2.heap.size, 0, none⟩) 1 [x] := litJ w2 [x] (by simp)
      refine (waterhourlaw02_right.calls A1 c1 l1 _ 0 [] _ 1 [x] true _ (Kd.C_below (kc_ HR1 HB) (ba_ _ _)) HC1.out K1 (Nat.le_refl _) K2 (Nat.le_refl _) HRU.out).mono ?_
      rintro e w3 ⟨rfl, hb⟩
      replace hb := below_step (below_alloc (Below.refl _ w2) _) hb
      replace hb := nb_ HB hb
      replace HB := bs_ HB hb
      clear hb
      clear K1 K2
      go_wp2_with fail
      refine (vessel_Cascade.calls A0 c0 l0 A1 c1 l1 a m r1 r2 e1 _ (kc_ HR0 HB) HC0.out (kc_ HR1 HB) HC1.out H1.out).mono ?_
      rintro e w4 ⟨rfl, hb⟩
      replace hb := nb_ HB hb
      replace HB := bs_ HB hb
      clear hb
      go_upto_region 6 with (fail)
      have BKga := nw_ w4 (.cells #[.int .i64 r1, .int .i64 r2] 27 (0, 0))
      have hb := ba_ w4 (.cells #[.int .i64 r1, .int .i64 r2] 27 (0, 0))
      replace HB := bs_ HB hb
      clear hb
      generalize w4.alloc (.cells #[.int .i64 r1, .int .i64 r2] 27 (0, 0)) = w5 at BKga HB ⊢
      generalize w4.heap.size = ga at BKga ⊢
      go_wp2_with fail
      refine (vessel_Received.calls A0 c0 l0 A1 c1 l1 a x s1 s2 e2 _ (kc_ HR0 HB) HC0.out (kc_ HR1 HB) HC1.out H2.out).mono ?_
      rintro e w6 ⟨rfl, hb⟩
      replace hb := nb_ HB hb
      replace BKga := kb_ BKga hb
      replace HB := bs_ HB hb
      clear hb
      go_upto_region 7 with (fail)
      have BKgb := nw_ w6 (.cells #[.int .i64 s1, .int .i64 s2] 27 (0, 0))
      have hb := ba_ w6 (.cells #[.int .i64 s1, .int .i64 s2] 27 (0, 0))
      replace BKga := kb_ BKga hb
      replace HB := bs_ HB hb
      clear hb
      generalize w6.alloc (.cells #[.int .i64 s1, .int .i64 s2] 27 (0, 0)) = w7 at BKgb BKga HB ⊢
      generalize w6.heap.size = gb at BKgb ⊢
      go_wp2_with fail
      refine (vessel_Cascade.calls A0 c0 l0 A1 c1 l1 a (m + n) t1 t2 e3 _ (kc_ HR0 HB) HC0.out (kc_ HR1 HB) HC1.out H3.out).mono ?_
      rintro e w8 ⟨rfl, hb⟩
      replace hb := nb_ HB hb
      replace BKga := kb_ BKga hb
      replace BKgb := kb_ BKgb hb
      replace HB := bs_ HB hb
      clear hb
      go_upto_region 8 with (fail)
      have BKgc := nw_ w8 (.cells #[.int .i64 t1, .int .i64 t2] 27 (0, 0))
      have hb := ba_ w8 (.cells #[.int .i64 t1, .int .i64 t2] 27 (0, 0))
      replace BKga := kb_ BKga hb
      replace BKgb := kb_ BKgb hb
      replace HB := bs_ HB hb
      clear hb
      generalize w8.alloc (.cells #[.int .i64 t1, .int .i64 t2] 27 (0, 0)) = w9 at BKgc BKga BKgb HB ⊢
      generalize w8.heap.size = gc at BKgc ⊢
      obtain ⟨Oga_0, Oga_1⟩ := c2_ BKga
      obtain ⟨Ogb_0, Ogb_1⟩ := c2_ BKgb
      obtain ⟨Ogc_0, Ogc_1⟩ := c2_ BKgc
      clear H1 H2 H3 em
      rcases HX.out with ⟨rfl, ⟨rfl, k1⟩ | ⟨rfl, k1⟩, rfl | ⟨rfl, k2, k3⟩⟩ | ⟨rfl, rfl | rfl, rfl⟩
      all_goals clear HX
      · have d1 : decide (r1 < x) = true := decide_eq_true (by omega)
        clear k1
        go_wp2
        go_ret
        exact ⟨by first | rfl | (simp; done), by first | exact HB.out | exact fb_ HB⟩
      · have d1 : decide (r1 < x) = true := decide_eq_true (by omega)
        clear k1
        have d2 : decide (t1 < r1) = false := decide_eq_false (by omega)
        have d3 : decide (t2 < r2) = false := decide_eq_false (by omega)
        clear k2 k3
        go_wp2
        go_ret
        exact ⟨by first | rfl | (simp; done), by first | exact HB.out | exact fb_ HB⟩
      · cases hp : decide (s2 ≤ m)
        all_goals rw [hp] at k1
        all_goals go_wp2
        all_goals go_ret
        all_goals exact ⟨by first | rfl | (simp; done), HB.out⟩
      · have d2 : decide (t1 < r1) = false := decide_eq_false (by omega)
        have d3 : decide (t2 < r2) = false := decide_eq_false (by omega)
        clear k2 k3
        cases hp : decide (s2 ≤ m)
        all_goals rw [hp] at k1
        all_goals go_wp2
        all_goals go_ret
        all_goals exact ⟨by first | rfl | (simp; done), HB.out⟩
      · go_wp2
        go_ret
        exact ⟨by first | rfl | (simp; done), by first | exact HB.out | exact fb_ HB⟩
      · go_wp2
        go_ret
        exact ⟨by first | rfl | (simp; done), by first | exact HB.out | exact fb_ HB⟩
end Go.Proofs.Ytlhfclpbodfmcaa.Pr
