/- A part of the proof: Lw8. -/
import Derived.Test.YtlhfclpbodfmcaaYWVm
import Derived.Test.YtlhfclpbodfmcaaYWKq
import Derived.Test.YtlhfclpbodfmcaaXLb
import Derived.Test.YtlhfclpbodfmcaaYWRo
import Derived.Test.YtlhfclpbodfmcaaXRt
import Derived.Test.YtlhfclpbodfmcaaXSn
namespace Go.Proofs.Ytlhfclpbodfmcaa.Pr
open Go.RowKit Go.Proofs.YtlhfclpbodfmcaaW.PrintWords Go.Proofs.YtlhfclpbodfmcaaW.PrintLast Go.Proofs.YtlhfclpbodfmcaaW.PrintMore
open Go.Proofs.Ytlhfclpbodfmcaa.Vm
set_option linter.unusedVariables false
set_option linter.unusedSimpArgs false
set_option maxHeartbeats 1600000 in
set_option maxRecDepth 100000 in
theorem two.walk (A0 : Option Addr) (c0 : Nat) (l0 : List S79) (A1 : Option Addr) (c1 : Nat) (l1 : List S79) (a m x : Int) (w : World) (hr0 : Kd.C k79 w A0 l0.length l0) (hc0 : l0.length ≤ c0) (hr1 : Kd.C k79 w A1 l1.length l1) (hc1 : l1.length ≤ c1) :
    Calls Try.prog 5 #[.slice A0 l0.length c0, .slice A1 l1.length c1, .int .i64 a, .int .i64 m, .int .i64 x] w fun e w' => e = .returned (.bool true) ∧ Below w.heap.size w w' := by
  have hu27 := Try.underlying27
  have HR0 := Aside0.mk hr0
  have HC0 := Aside0.mk hc0
  have HR1 := Aside0.mk hr1
  have HC1 := Aside0.mk hc1
  clear hr0 hc0 hr1 hc1
  have HB := Aside0.mk (Below.refl w.heap.size w)
  cases hR : [l0, l1].all fewB with
  | false =>
    have HF : Aside0 (waterhourlaw02_few.f [l0, l1] = some false) := ⟨by simp only [waterhourlaw02_few.f, hR]; rfl⟩
    clear hR
    go_enter Try.func5, Try.ntmps5
    go_wp2_with fail
    refine (waterhourlaw02_sane.calls true _ rfl).mono ?_
    rintro e w1 ⟨rfl, hb⟩
    replace hb := nb_ HB hb
    replace HB := bs_ HB hb
    clear hb
    go_wp2_with fail
    refine (waterhourlaw02_few.calls _ 2 [l0, l1] false _ (pair_row (Kd.C_below (kc_ HR0 HB) (ba_ _ _)) HC0.out (Kd.C_below (kc_ HR1 HB) (ba_ _ _)) HC1.out (blk_new _ _)) (by simp) HF.out).mono ?_
    rintro e w2 ⟨rfl, hb⟩
    replace hb := below_step (below_alloc (Below.refl _ w1) _) hb
    replace hb := nb_ HB hb
    replace HB := bs_ HB hb
    clear hb
    go_wp2
    go_ret
    exact ⟨by first | rfl | (simp; done), by first | exact HB.out | exact fb_ HB⟩
  | true =>
    have HF : Aside0 (waterhourlaw02_few.f [l0, l1] = some true) := ⟨by simp only [waterhourlaw02_few.f, hR]; rfl⟩
    clear hR
    obtain ⟨x1, x2, x3, h0⟩ : ∃ p_ q_ r_ : Int, CascadeF l0 l1 a m = (p_, q_, r_) := ⟨_, _, _, rfl⟩
    have H0 : Aside0 (vessel_Cascade.f l0 l1 a m = some (x1, x2, x3)) := ⟨congrArg some h0⟩
    have R0 : Aside0 (∀ W, Below w.heap.size w W → Calls Try.prog 34 #[.slice A0 l0.length c0, .slice A1 l1.length c1, .int .i64 a, .int .i64 m] W fun e w' => e = .returned (.tuple #[.agg #[.int .i64 x1, .int .i64 x2], .int .i64 x3]) ∧ Below W.heap.size W w') := ⟨fun W hB => by have h := ref_Cascade.calls A0 c0 l0 A1 c1 l1 a m W (Kd.C_below HR0.out hB) (Kd.C_below HR1.out hB); rwa [h0] at h⟩
    clear h0
    obtain ⟨y1, y2, y3, h1⟩ : ∃ p_ q_ r_ : Int, ReceivedF l0 l1 a x = (p_, q_, r_) := ⟨_, _, _, rfl⟩
    have H1 : Aside0 (vessel_Received.f l0 l1 a x = some (y1, y2, y3)) := ⟨congrArg some h1⟩
    have R1 : Aside0 (∀ W, Below w.heap.size w W → Calls Try.prog 36 #[.slice A0 l0.length c0, .slice A1 l1.length c1, .int .i64 a, .int .i64 x] W fun e w' => e = .returned (.tuple #[.agg #[.int .i64 y1, .int .i64 y2], .int .i64 y3]) ∧ Below W.heap.size W w') := ⟨fun W hB => by have h := ref_Received.calls A0 c0 l0 A1 c1 l1 a x W (Kd.C_below HR0.out hB) (Kd.C_below HR1.out hB); rwa [h1] at h⟩
    clear h1
    go_enter Try.func5, Try.ntmps5
    go_wp2_with fail
    refine (waterhourlaw02_sane.calls true _ rfl).mono ?_
    rintro e w1 ⟨rfl, hb⟩
    replace hb := nb_ HB hb
    replace HB := bs_ HB hb
    clear hb
    go_wp2_with fail
    refine (waterhourlaw02_few.calls _ 2 [l0, l1] true _ (pair_row (Kd.C_below (kc_ HR0 HB) (ba_ _ _)) HC0.out (Kd.C_below (kc_ HR1 HB) (ba_ _ _)) HC1.out (blk_new _ _)) (by simp) HF.out).mono ?_
    rintro e w2 ⟨rfl, hb⟩
    replace hb := below_step (below_alloc (Below.refl _ w1) _) hb
    replace hb := nb_ HB hb
    replace HB := bs_ HB hb
    clear hb
    go_wp2_with fail
    refine (vessel_Cascade.calls A0 c0 l0 A1 c1 l1 a m x1 x2 x3 _ (kc_ HR0 HB) HC0.out (kc_ HR1 HB) HC1.out H0.out).mono ?_
    rintro e w3 ⟨rfl, hb⟩
    replace hb := nb_ HB hb
    replace HB := bs_ HB hb
    clear hb
    go_upto_region 6 with (fail)
    have BKg0a := nw_ w3 (.cells #[.int .i64 x1, .int .i64 x2] 27 (0, 0))
    have hb := ba_ w3 (.cells #[.int .i64 x1, .int .i64 x2] 27 (0, 0))
    replace HB := bs_ HB hb
    clear hb
    generalize w3.alloc (.cells #[.int .i64 x1, .int .i64 x2] 27 (0, 0)) = w4 at BKg0a HB ⊢
    generalize w3.heap.size = g0a at BKg0a ⊢
    go_wp2_with fail
    refine (R0.out _ HB.out).mono ?_
    rintro e w5 ⟨rfl, hb⟩
    replace hb := nb_ HB hb
    replace BKg0a := kb_ BKg0a hb
    replace HB := bs_ HB hb
    clear hb
    go_upto_region 7 with (fail)
    have BKg0b := nw_ w5 (.cells #[.int .i64 x1, .int .i64 x2] 27 (0, 0))
    have hb := ba_ w5 (.cells #[.int .i64 x1, .int .i64 x2] 27 (0, 0))
    replace BKg0a := kb_ BKg0a hb
    replace HB := bs_ HB hb
    clear hb
    generalize w5.alloc (.cells #[.int .i64 x1, .int .i64 x2] 27 (0, 0)) = w6 at BKg0b BKg0a HB ⊢
    generalize w5.heap.size = g0b at BKg0b ⊢
    go_wp2_with fail
    refine (vessel_Received.calls A0 c0 l0 A1 c1 l1 a x y1 y2 y3 _ (kc_ HR0 HB) HC0.out (kc_ HR1 HB) HC1.out H1.out).mono ?_
    rintro e w7 ⟨rfl, hb⟩
    replace hb := nb_ HB hb
    replace BKg0a := kb_ BKg0a hb
    replace BKg0b := kb_ BKg0b hb
    replace HB := bs_ HB hb
    clear hb
    go_upto_region 8 with (fail)
    have BKg1a := nw_ w7 (.cells #[.int .i64 y1, .int .i64 y2] 27 (0, 0))
    have hb := ba_ w7 (.cells #[.int .i64 y1, .int .i64 y2] 27 (0, 0))
    replace BKg0a := kb_ BKg0a hb
    replace BKg0b := kb_ BKg0b hb
    replace HB := bs_ HB hb
    clear hb
    generalize w7.alloc (.cells #[.int .i64 y1, .int .i64 y2] 27 (0, 0)) = w8 at BKg1a BKg0a BKg0b HB ⊢
    generalize w7.heap.size = g1a at BKg1a ⊢
    go_wp2_with fail
    refine (R1.out _ HB.out).mono ?_
    rintro e w9 ⟨rfl, hb⟩
    replace hb := nb_ HB hb
    replace BKg0a := kb_ BKg0a hb
    replace BKg0b := kb_ BKg0b hb
    replace BKg1a := kb_ BKg1a hb
    replace HB := bs_ HB hb
    clear hb
    go_upto_region 9 with (fail)
    have BKg1b := nw_ w9 (.cells #[.int .i64 y1, .int .i64 y2] 27 (0, 0))
    have hb := ba_ w9 (.cells #[.int .i64 y1, .int .i64 y2] 27 (0, 0))
    replace BKg0a := kb_ BKg0a hb
    replace BKg0b := kb_ BKg0b hb
    replace BKg1a := kb_ BKg1a hb
    replace HB := bs_ HB hb
    clear hb
    generalize w9.alloc (.cells #[.int .i64 y1, .int .i64 y2] 27 (0, 0)) = w10 at BKg1b BKg0a BKg0b BKg1a HB ⊢
    generalize w9.heap.size = g1b at BKg1b ⊢
    obtain ⟨Og0a_0, Og0a_1⟩ := c2_ BKg0a
    obtain ⟨Og1a_0, Og1a_1⟩ := c2_ BKg1a
    obtain ⟨Og0b_0, Og0b_1⟩ := c2_ BKg0b
    obtain ⟨Og1b_0, Og1b_1⟩ := c2_ BKg1b
    go_wp2
    go_ret
    exact ⟨by first | rfl | (simp; done), by first | exact HB.out | exact fb_ HB⟩
end Go.Proofs.Ytlhfclpbodfmcaa.Pr
