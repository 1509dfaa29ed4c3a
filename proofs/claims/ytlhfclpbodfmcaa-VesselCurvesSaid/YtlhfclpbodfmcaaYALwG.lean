/- A part of the proof: LwG. -/
import Derived.Test.YtlhfclpbodfmcaaYAVm
import Derived.Test.YtlhfclpbodfmcaaYAWWords
import Derived.Test.YtlhfclpbodfmcaaYAKq
import Derived.Test.YtlhfclpbodfmcaaYAPr24
import Derived.Test.YtlhfclpbodfmcaaXLb
import Derived.Test.YtlhfclpbodfmcaaXRt
import Derived.Test.YtlhfclpbodfmcaaXSn
namespace Go.Proofs.Ytlhfclpbodfmcaa.Pr
open Go.RowKit Go.Proofs.YtlhfclpbodfmcaaW.PrintWords Go.Proofs.YtlhfclpbodfmcaaW.PrintLast Go.Proofs.YtlhfclpbodfmcaaW.PrintMore
open Go.Proofs.Ytlhfclpbodfmcaa.Vm
set_option linter.unusedVariables false
set_option linter.unusedSimpArgs false
attribute [local go_sem] fld27_0 fld27_1 fld42_0 fld42_1
def curves.T21 : Bool × List (List Nat × List Nat) := (true, [([], []), ([0], [0]), ([1], [1]), ([2], [2]), ([3, 2], [2, 3]), ([2, 4], [2, 4]), ([5, 2], [5]), ([6], [6]), ([7, 6], [6, 7]), ([6, 8], [6, 8]), ([9, 6], [9]), ([10], [10]), ([10], [10]), ([10], [10]), ([12, 13, 10, 10], [10, 12, 13]), ([11, 14, 10], [10, 11, 14]), ([10, 15], [10, 15])])
def curves.B21 : List Nat := [0, 1, 3, 7, 15, 31, 63, 127, 255, 511, 1023, 2047, 2047, 2047, 14335, 32767, 65535]
theorem curves.tab21 : rtab .any (opsOf Try.f7 21) = curves.T21 := by kernel_rfl
theorem curves.bits21 : waitsOk curves.T21.2 curves.B21 = true := by kernel_rfl
set_option maxHeartbeats 8000000 in
set_option maxRecDepth 100000 in
theorem curves.walk (A0 : Option Addr) (c0 : Nat) (l0 : List S79) (a b m : Int) (w : World) (hr0 : Kd.C k79 w A0 l0.length l0) (hc0 : l0.length ≤ c0) :
    Calls Try.prog 7 #[.slice A0 l0.length c0, .int .i64 a, .int .i64 b, .int .i64 m] w fun e w' => e = .returned (.bool true) ∧ Below w.heap.size w w' := by
  have hu27 := Try.underlying27
  have HR0 := Aside0.mk hr0
  have HC0 := Aside0.mk hc0
  clear hr0 hc0
  have HB := Aside0.mk (Below.refl w.heap.size w)
  have hu42 := Try.underlying42
  cases hR : rightB l0 [m] [a, b] with
  | false =>
    have HRT : Aside0 (waterhourlaw02_right.f l0 [m] [a, b] = some false) := ⟨by simp [waterhourlaw02_right.f, hR]⟩
    clear hR
    go_enter Try.func7, Try.ntmps7
    go_wp2_with fail
    refine (waterhourlaw02_sane.calls true _ rfl).mono ?_
    rintro e w1 ⟨rfl, hb⟩
    replace hb := nb_ HB hb
    replace HB := bs_ HB hb
    clear hb
    go_wp2_with fail
    have K1 : Kd.C (Kd.int .i64) ((w1.alloc (.cells #[.int .i64 m] 3 (0, 0))).alloc (.cells #[.int .i64 a, .int .i64 b] 3 (0, 0))) (some ⟨w1.heap.size, 0, none⟩) 1 [m] := Kd.C_below (litJ w1 [m] (by simp)) (ba_ _ _)
    have K2 : Kd.C (Kd.int .i64) ((w1.alloc (.cells #[.int .i64 m] 3 (0, 0))).alloc (.cells #[.int .i64 a, .int .i64 b] 3 (0, 0))) (some ⟨w1.heap.size + 1, 0, none⟩) 2 [a, b] := by have h2 := litJ (w1.alloc (.cells #[.int .i64 m] 3 (0, 0))) [a, b] (by simp); rwa [World.size_alloc] at h2
    refine (waterhourlaw02_right.calls A0 c0 l0 _ 1 [m] _ 2 [a, b] false _ (Kd.C_below (kc_ HR0 HB) (below_alloc (ba_ _ _) _)) HC0.out K1 (Nat.le_refl _) K2 (Nat.le_refl _) HRT.out).mono ?_
    rintro e w2 ⟨rfl, hb⟩
    replace hb := below_step (below_alloc (below_alloc (Below.refl _ w1) _) _) hb
    replace hb := nb_ HB hb
    replace HB := bs_ HB hb
    clear hb
    clear K1 K2
    go_wp2
    go_ret
    exact ⟨by first | rfl | (simp; done), by first | exact HB.out | exact fb_ HB⟩
  | true =>
    have HRT : Aside0 (waterhourlaw02_right.f l0 [m] [a, b] = some true) := ⟨by simp [waterhourlaw02_right.f, hR]⟩
    by_cases hab : a < b
    · clear hR
      have hd : decide (a < b) = true := decide_eq_true (by omega)
      go_enter Try.func7, Try.ntmps7
      go_wp2_with fail
      refine (waterhourlaw02_sane.calls true _ rfl).mono ?_
      rintro e w1 ⟨rfl, hb⟩
      replace hb := nb_ HB hb
      replace HB := bs_ HB hb
      clear hb
      go_wp2_with fail
      have K1 : Kd.C (Kd.int .i64) ((w1.alloc (.cells #[.int .i64 m] 3 (0, 0))).alloc (.cells #[.int .i64 a, .int .i64 b] 3 (0, 0))) (some ⟨w1.heap.size, 0, none⟩) 1 [m] := Kd.C_below (litJ w1 [m] (by simp)) (ba_ _ _)
      have K2 : Kd.C (Kd.int .i64) ((w1.alloc (.cells #[.int .i64 m] 3 (0, 0))).alloc (.cells #[.int .i64 a, .int .i64 b] 3 (0, 0))) (some ⟨w1.heap.size + 1, 0, none⟩) 2 [a, b] := by have h2 := litJ (w1.alloc (.cells #[.int .i64 m] 3 (0, 0))) [a, b] (by simp); rwa [World.size_alloc] at h2
      refine (waterhourlaw02_right.calls A0 c0 l0 _ 1 [m] _ 2 [a, b] true _ (Kd.C_below (kc_ HR0 HB) (below_alloc (ba_ _ _) _)) HC0.out K1 (Nat.le_refl _) K2 (Nat.le_refl _) HRT.out).mono ?_
      rintro e w2 ⟨rfl, hb⟩
      replace hb := below_step (below_alloc (below_alloc (Below.refl _ w1) _) _) hb
      replace hb := nb_ HB hb
      replace HB := bs_ HB hb
      clear hb
      clear K1 K2
      go_wp2
      go_ret
      exact ⟨by first | rfl | (simp; done), by first | exact HB.out | exact fb_ HB⟩
    · obtain ⟨cd, ch, ct, hct, hE, hH, kd, kh, kt, wa, wb, wh, wf, s1, s2, f1, f2, r1, r2, N1, D1, N2, D2, h1, h2, h3, x1, x2, l1, n0, n1, m0, m1, hq, hf⟩ := curves_all hR (by omega)
      clear hR
      have hd : decide (a < b) = false := decide_eq_false (by omega)
      have H1 : Aside0 (vessel_Sinking.f l0 a b = some (s1, s2, 0)) := ⟨congrArg some h1⟩
      have H2 : Aside0 (vessel_After.f l0 a m = some (f1, f2, 0)) := ⟨congrArg some h2⟩
      have H3 : Aside0 (vessel_Run.f l0 a m = some (r1, r2, 0)) := ⟨congrArg some h3⟩
      have HE := Aside0.mk hE
      have HH := Aside0.mk hH
      have HCT := Aside0.mk hct
      have HKD := Aside0.mk kd
      have HKH := Aside0.mk kh
      have HKT := Aside0.mk kt
      have WA := Aside0.mk wa
      have WB := Aside0.mk wb
      have WH := Aside0.mk wh
      have WF := Aside0.mk wf
      have X1 := Aside0.mk x1
      have X2 := Aside0.mk x2
      have HL1 := Aside0.mk l1
      have HQ := Aside0.mk hq
      have HF := Aside0.mk hf
      have EM : Aside0 (m ≤ N1 → wrap64 (N1 - m) = N1 - m) := ⟨fun h => by unfold wrap64; omega⟩
      clear hE hH hct kd kh kt wa wb wh wf h1 h2 h3 x1 x2 l1 n0 n1 m0 m1 hq hf hab
      go_enter Try.func7, Try.ntmps7
      go_wp2_with fail
      refine (waterhourlaw02_sane.calls true _ rfl).mono ?_
      rintro e w1 ⟨rfl, hb⟩
      replace hb := nb_ HB hb
      replace HB := bs_ HB hb
      clear hb
      go_wp2_with fail
      have K1 : Kd.C (Kd.int .i64) ((w1.alloc (.cells #[.int .i64 m] 3 (0, 0))).alloc (.cells #[.int .i64 a, .int .i64 b] 3 (0, 0))) (some ⟨w1.heap.size, 0, none⟩) 1 [m] := Kd.C_below (litJ w1 [m] (by simp)) (ba_ _ _)
      have K2 : Kd.C (Kd.int .i64) ((w1.alloc (.cells #[.int .i64 m] 3 (0, 0))).alloc (.cells #[.int .i64 a, .int .i64 b] 3 (0, 0))) (some ⟨w1.heap.size + 1, 0, none⟩) 2 [a, b] := by have h2 := litJ (w1.alloc (.cells #[.int .i64 m] 3 (0, 0))) [a, b] (by simp); rwa [World.size_alloc] at h2
      refine (waterhourlaw02_right.calls A0 c0 l0 _ 1 [m] _ 2 [a, b] true _ (Kd.C_below (kc_ HR0 HB) (below_alloc (ba_ _ _) _)) HC0.out K1 (Nat.le_refl _) K2 (Nat.le_refl _) HRT.out).mono ?_
      rintro e w2 ⟨rfl, hb⟩
      replace hb := below_step (below_alloc (below_alloc (Below.refl _ w1) _) _) hb
      replace hb := nb_ HB hb
      replace HB := bs_ HB hb
      clear hb
      clear K1 K2
      go_wp2_with fail
      refine (vessel_Emptying.calls A0 c0 l0 cd 0 _ (kc_ HR0 HB) HC0.out HE.out).mono ?_
      rintro e w3 ⟨v1, rfl, ho, hb⟩
      obtain ⟨A1, c1, rfl, hc1, k1⟩ := Kd.R_reads ho
      have C1 := Aside0.mk hc1
      have K1 := Aside0.mk k1
      clear ho hc1 k1
      replace hb := nb_ HB hb
      replace HB := bs_ HB hb
      clear hb
      go_wp2_with fail
      refine (vessel_Holding.calls A0 c0 l0 ch 0 _ (kc_ HR0 HB) HC0.out HH.out).mono ?_
      rintro e w4 ⟨v1, rfl, ho, hb⟩
      obtain ⟨A2, c2, rfl, hc1, k1⟩ := Kd.R_reads ho
      have C2 := Aside0.mk hc1
      have K2 := Aside0.mk k1
      clear ho hc1 k1
      replace hb := nb_ HB hb
      replace K1 := Aside0.mk (Kd.C_below K1.out hb)
      replace HB := bs_ HB hb
      clear hb
      have HV := Aside0.mk (Below.refl w4.heap.size w4)
      go_wp2_with fail
      refine (vessel_Sinking.calls A0 c0 l0 a b s1 s2 0 _ (kc_ HR0 HB) HC0.out H1.out).mono ?_
      rintro e w5 ⟨rfl, hb⟩
      replace hb := nb_ HB hb
      replace HB := bs_ HB hb
      replace HV := bs_ HV hb
      clear hb
      go_upto_region 8 with (fail)
      have BKgs := nw_ w5 (.cells #[.int .i64 s1, .int .i64 s2] 27 (0, 0))
      have hb := ba_ w5 (.cells #[.int .i64 s1, .int .i64 s2] 27 (0, 0))
      replace HV := bs_ HV hb
      replace HB := bs_ HB hb
      clear hb
      generalize w5.alloc (.cells #[.int .i64 s1, .int .i64 s2] 27 (0, 0)) = w6 at BKgs HV HB ⊢
      generalize w5.heap.size = gs at BKgs  ⊢
      go_wp2_with fail
      refine (vessel_After.calls A0 c0 l0 a m f1 f2 0 _ (kc_ HR0 HB) HC0.out H2.out).mono ?_
      rintro e w7 ⟨rfl, hb⟩
      replace hb := nb_ HB hb
      replace BKgs := kb_ BKgs hb
      replace HB := bs_ HB hb
      replace HV := bs_ HV hb
      clear hb
      go_upto_region 9 with (fail)
      have BKgl := nw_ w7 (.cells #[.int .i64 f1, .int .i64 f2] 27 (0, 0))
      have hb := ba_ w7 (.cells #[.int .i64 f1, .int .i64 f2] 27 (0, 0))
      replace BKgs := kb_ BKgs hb
      replace HV := bs_ HV hb
      replace HB := bs_ HB hb
      clear hb
      generalize w7.alloc (.cells #[.int .i64 f1, .int .i64 f2] 27 (0, 0)) = w8 at BKgl BKgs HV HB ⊢
      generalize w7.heap.size = gl at BKgl  ⊢
      go_wp2_with fail
      refine (vessel_Run.calls A0 c0 l0 a m r1 r2 0 _ (kc_ HR0 HB) HC0.out H3.out).mono ?_
      rintro e w9 ⟨rfl, hb⟩
      replace hb := nb_ HB hb
      replace BKgs := kb_ BKgs hb
      replace BKgl := kb_ BKgl hb
      replace HB := bs_ HB hb
      replace HV := bs_ HV hb
      clear hb
      go_upto_region 10 with (fail)
      have BKgr := nw_ w9 (.cells #[.int .i64 r1, .int .i64 r2] 27 (0, 0))
      have hb := ba_ w9 (.cells #[.int .i64 r1, .int .i64 r2] 27 (0, 0))
      replace BKgs := kb_ BKgs hb
      replace BKgl := kb_ BKgl hb
      replace HV := bs_ HV hb
      replace HB := bs_ HB hb
      clear hb
      generalize w9.alloc (.cells #[.int .i64 r1, .int .i64 r2] 27 (0, 0)) = w10 at BKgr BKgs BKgl HV HB ⊢
      generalize w9.heap.size = gr at BKgr  ⊢
      clear HE HH H1 H2 H3
      go_wp2_with fail
      refine (curve_Check.calls A1 c1 cd 0 _ (kc_ K1 HV) C1.out (congrArg some HKD.out)).mono ?_
      rintro e w11 ⟨rfl, hb⟩
      replace hb := nb_ HB hb
      replace BKgs := kb_ BKgs hb
      replace BKgl := kb_ BKgl hb
      replace BKgr := kb_ BKgr hb
      replace HB := bs_ HB hb
      replace HV := bs_ HV hb
      clear hb
      go_wp2_with fail
      refine (curve_Check.calls A2 c2 ch 0 _ (kc_ K2 HV) C2.out (congrArg some HKH.out)).mono ?_
      rintro e w12 ⟨rfl, hb⟩
      replace hb := nb_ HB hb
      replace BKgs := kb_ BKgs hb
      replace BKgl := kb_ BKgl hb
      replace BKgr := kb_ BKgr hb
      replace HB := bs_ HB hb
      replace HV := bs_ HV hb
      clear hb
      go_wp2_with fail
      refine (curve_Exact.good 1100 A1 c1 cd a N1 D1 _ (kc_ K1 HV) C1.out HKD.out WA.out X1.out).mono ?_
      rintro e w13 ⟨rfl, hb⟩
      replace hb := nb_ HB hb
      replace BKgs := kb_ BKgs hb
      replace BKgl := kb_ BKgl hb
      replace BKgr := kb_ BKgr hb
      replace HB := bs_ HB hb
      replace HV := bs_ HV hb
      clear hb
      go_upto_region 13 with (fail)
      have BKga := nw_ w13 (.cells #[.int .i64 N1, .int .i64 D1] 42 (0, 0))
      have hb := ba_ w13 (.cells #[.int .i64 N1, .int .i64 D1] 42 (0, 0))
      have GEga := ge_ (g := w13.heap.size) rfl HB
      have GVga := ge_ (g := w13.heap.size) rfl HV
      have NEgl_ga : Aside0 (gl ≠ w13.heap.size) := ne_ rfl BKgl
      have NEgr_ga : Aside0 (gr ≠ w13.heap.size) := ne_ rfl BKgr
      replace BKgs := kb_ BKgs hb
      replace BKgl := kb_ BKgl hb
      replace BKgr := kb_ BKgr hb
      replace HV := bs_ HV hb
      replace HB := bs_ HB hb
      clear hb
      generalize w13.alloc (.cells #[.int .i64 N1, .int .i64 D1] 42 (0, 0)) = w14 at BKga BKgs BKgl BKgr HV HB ⊢
      generalize w13.heap.size = ga at BKga GEga GVga NEgl_ga NEgr_ga ⊢
      go_wp2_with fail
      refine (curve_Exact.good 1100 A1 c1 cd b N2 D2 _ (kc_ K1 HV) C1.out HKD.out WB.out X2.out).mono ?_
      rintro e w15 ⟨rfl, hb⟩
      replace hb := nb_ HB hb
      replace BKgs := kb_ BKgs hb
      replace BKgl := kb_ BKgl hb
      replace BKgr := kb_ BKgr hb
      replace BKga := kb_ BKga hb
      replace HB := bs_ HB hb
      replace HV := bs_ HV hb
      clear hb
      go_upto_region 14 with (fail)
      have BKgb := nw_ w15 (.cells #[.int .i64 N2, .int .i64 D2] 42 (0, 0))
      have hb := ba_ w15 (.cells #[.int .i64 N2, .int .i64 D2] 42 (0, 0))
      have GEgb := ge_ (g := w15.heap.size) rfl HB
      have GVgb := ge_ (g := w15.heap.size) rfl HV
      have NEgl_gb : Aside0 (gl ≠ w15.heap.size) := ne_ rfl BKgl
      have NEgr_gb : Aside0 (gr ≠ w15.heap.size) := ne_ rfl BKgr
      have NEga_gb : Aside0 (ga ≠ w15.heap.size) := ne_ rfl BKga
      replace BKgs := kb_ BKgs hb
      replace BKgl := kb_ BKgl hb
      replace BKgr := kb_ BKgr hb
      replace BKga := kb_ BKga hb
      replace HV := bs_ HV hb
      replace HB := bs_ HB hb
      clear hb
      generalize w15.alloc (.cells #[.int .i64 N2, .int .i64 D2] 42 (0, 0)) = w16 at BKgb BKgs BKgl BKgr BKga HV HB ⊢
      generalize w15.heap.size = gb at BKgb GEgb GVgb NEgl_gb NEgr_gb NEga_gb ⊢
      obtain ⟨Oga_0, Oga_1⟩ := c2_ BKga
      obtain ⟨Ogb_0, Ogb_1⟩ := c2_ BKgb
      go_wp2_with fail
      refine (waterhourlaw02_less.calls N1 D1 N2 D2 s1 s2 true _ HL1.out).mono ?_
      rintro e w17 ⟨rfl, hb⟩
      replace hb := nb_ HB hb
      replace BKgs := kb_ BKgs hb
      replace BKgl := kb_ BKgl hb
      replace BKgr := kb_ BKgr hb
      replace BKga := kb_ BKga hb
      replace BKgb := kb_ BKgb hb
      replace HB := bs_ HB hb
      replace HV := bs_ HV hb
      clear Oga_0 Oga_1 Ogb_0 Ogb_1
      obtain ⟨Oga_0, Oga_1⟩ := c2_ BKga
      obtain ⟨Ogb_0, Ogb_1⟩ := c2_ BKgb
      clear hb
      go_upto_region 15 with (fail)
      clear Oga_0 Oga_1 Ogb_0 Ogb_1
      have BKgd := nw_ w17 (.cells #[.int .i64 s1, .int .i64 s2] 27 (0, 0))
      have hb := ba_ w17 (.cells #[.int .i64 s1, .int .i64 s2] 27 (0, 0))
      replace BKgs := kb_ BKgs hb
      replace BKgl := kb_ BKgl hb
      replace BKgr := kb_ BKgr hb
      replace BKga := kb_ BKga hb
      replace BKgb := kb_ BKgb hb
      replace HV := bs_ HV hb
      replace HB := bs_ HB hb
      clear hb
      generalize w17.alloc (.cells #[.int .i64 s1, .int .i64 s2] 27 (0, 0)) = w18 at BKgd BKgs BKgl BKgr BKga BKgb HV HB ⊢
      generalize w17.heap.size = gd at BKgd  ⊢
      obtain ⟨Ogs_0, Ogs_1⟩ := c2_ BKgs
      obtain ⟨Ogd_0, Ogd_1⟩ := c2_ BKgd
      go_upto_region 17 with (fail)
      clear X1 X2 HL1 WA WB hd HRT
      clear Ogs_0 Ogs_1 Ogd_0 Ogd_1
      obtain ⟨Oga_0, Oga_1⟩ := c2_ BKga
      clear BKgs
      clear BKgd
      rcases HQ.out with hD | ⟨hD, hm | ⟨hm, tw, tl, tu⟩⟩
      all_goals clear HQ
      focus
        have hd : (D1 == 1) = false := beq_eq_false_iff_ne.2 hD
        clear hD
        go_upto_region 23 with (fail)
        clear hd K1 C1
        clear Oga_0 Oga_1
        rename World => wj
      rotate_left
      focus
        have hd : (D1 == 1) = true := beq_iff_eq.2 hD
        have hm2 : decide (m ≤ N1) = false := decide_eq_false (by omega)
        clear hD hm
        go_upto_region 23 with (fail)
        clear hd hm2 K1 C1
        clear Oga_0 Oga_1
        rename World => wj
      rotate_left
      focus
        have hd : (D1 == 1) = true := beq_iff_eq.2 hD
        have hm2 : decide (m ≤ N1) = true := decide_eq_true (by omega)
        have em := EM.out hm
        have TW := Aside0.mk tw
        have TL := Aside0.mk tl
        have TU := Aside0.mk tu
        clear hD hm tw tl tu
        go_wp2_with fail
        refine (curve_Turned.good A1 c1 cd _ (kc_ K1 HV) C1.out HKD.out).mono ?_
        rintro e w19 ⟨v1, rfl, ho, hb⟩
        rw [HCT.out] at ho
        obtain ⟨A3, c3, rfl, hc1, k1⟩ := Kd.R_reads ho
        have C3 := Aside0.mk hc1
        have K3 := Aside0.mk k1
        clear ho hc1 k1
        replace hb := nb_ HB hb
        replace BKgl := kb_ BKgl hb
        replace BKgr := kb_ BKgr hb
        replace BKga := kb_ BKga hb
        replace BKgb := kb_ BKgb hb
        replace HB := bs_ HB hb
        replace HV := bs_ HV hb
        clear Oga_0 Oga_1
        obtain ⟨Oga_0, Oga_1⟩ := c2_ BKga
        clear hb
        go_wp2_with fail
        refine (curve_Low.good A3 c3 ct (N1 - m) f1 _ K3.out C3.out HKT.out TW.out TL.out).mono ?_
        rintro e w20 ⟨rfl, hb⟩
        replace hb := nb_ HB hb
        replace BKgl := kb_ BKgl hb
        replace BKgr := kb_ BKgr hb
        replace BKga := kb_ BKga hb
        replace BKgb := kb_ BKgb hb
        replace K3 := Aside0.mk (Kd.C_below K3.out hb)
        replace HB := bs_ HB hb
        replace HV := bs_ HV hb
        clear Oga_0 Oga_1
        obtain ⟨Oga_0, Oga_1⟩ := c2_ BKga
        clear hb
        go_wp2_with fail
        refine (curve_High.good A3 c3 ct (N1 - m) f2 _ K3.out C3.out HKT.out TW.out TU.out).mono ?_
        rintro e w21 ⟨rfl, hb⟩
        replace hb := nb_ HB hb
        replace BKgl := kb_ BKgl hb
        replace BKgr := kb_ BKgr hb
        replace BKga := kb_ BKga hb
        replace BKgb := kb_ BKgb hb
        replace K3 := Aside0.mk (Kd.C_below K3.out hb)
        replace HB := bs_ HB hb
        replace HV := bs_ HV hb
        clear Oga_0 Oga_1
        obtain ⟨Oga_0, Oga_1⟩ := c2_ BKga
        clear hb
        go_upto_region 21 with (fail)
        clear hd hm2 em K1 C1 K3 C3 TW TL TU
        clear Oga_0 Oga_1
        replace BKgl := kd_ BKgl
        replace BKgr := kd_ BKgr
        replace BKga := kd_ BKga
        replace BKgb := kd_ BKgb
        replace HB := bd_ HB
        replace HV := bd_ HV
        refine sM_ [] (fun w' => (w'.cell? ⟨gl, 0, none⟩ = some (.int .i64 f1) ∧ w'.cell? ⟨gl, 1, none⟩ = some (.int .i64 f2))) curves.tab21 curves.bits21 (c2_ BKgl) (fun hHeld HT_ HW_ => ?_)
        generalize w21.drew = z1 at BKgl BKgr BKga BKgb HB HV hHeld ⊢
        refine pM_ HT_ 0 170 1 ?_
        refine pM_ HT_ 1 171 3 ?_
        refine pM_ HT_ 2 172 7 ?_
        refine pM_ HT_ 3 173 15 ?_
        refine pM_ HT_ 4 174 31 ?_
        refine pM_ HT_ 5 175 63 ?_
        refine pM_ HT_ 6 176 127 ?_
        refine pM_ HT_ 7 177 255 ?_
        refine pM_ HT_ 8 178 511 ?_
        refine pM_ HT_ 9 179 1023 ?_
        refine pM_ HT_ 10 180 2047 ?_
        refine pM_ HT_ 12 182 6143 ?_
        refine pM_ HT_ 13 183 14335 ?_
        refine tM_ HT_ HW_ hHeld 11 181 16383 ?_
        refine oM_ HT_ 14 (some 184) 32767 (fun K hK => ?_)
        refine gM_ Try.func46 (waterhourlaw02_span.calls f1 f2 f1 f2 _ rfl) ?_
        rintro e z2 ⟨rfl, hb⟩
        refine ⟨.agg #[.int .i64 _, .int .i64 _], rfl, ?_⟩
        replace hb := nb_ HB hb
        replace BKgl := kb_ BKgl hb
        replace BKgr := kb_ BKgr hb
        replace BKga := kb_ BKga hb
        replace BKgb := kb_ BKgb hb
        replace HB := bs_ HB hb
        replace HV := bs_ HV hb
        (try clear hb)
        refine hK.out _ _ (c2_ BKgl) (fun hHeld => ?_)
        clear hK K
        refine nM_ ?_
        refine pM_ HT_ 15 185 65535 ?_
        refine pM_ HT_ 16 186 131071 ?_
        refine dM_ HT_ ?_
        go_upto_region 23 with (fail)
        rename World => wj
      rotate_left
      all_goals (
        clear EM HKD HKT HCT
        obtain ⟨Ogl_0, Ogl_1⟩ := c2_ BKgl
        rcases HF.out with hf | ⟨hf, q0, q1, N3, D3, N4, D4, x3, x4, l2⟩
        all_goals clear HF
        · have he : (f1 == f2) = false := beq_eq_false_iff_ne.2 hf
          clear hf
          go_wp2
          go_ret
          exact ⟨by first | rfl | (simp; done), by first | exact HB.out | exact fb_ HB⟩
        · have he : (f1 == f2) = true := beq_iff_eq.2 hf
          have WG := Aside0.mk (WF.out f1 q0 q1)
          have X3 := Aside0.mk x3
          have X4 := Aside0.mk x4
          have HL2 := Aside0.mk l2
          clear hf q0 q1 x3 x4 l2 WF
          go_wp2_with fail
          refine (curve_Exact.good 1100 A2 c2 ch a N3 D3 _ (kc_ K2 HV) C2.out HKH.out WH.out X3.out).mono ?_
          rintro e w61 ⟨rfl, hb⟩
          replace hb := nb_ HB hb
          replace BKgl := kb_ BKgl hb
          replace BKgr := kb_ BKgr hb
          replace BKga := kb_ BKga hb
          replace BKgb := kb_ BKgb hb
          replace HB := bs_ HB hb
          replace HV := bs_ HV hb
          clear Ogl_0 Ogl_1
          obtain ⟨Ogl_0, Ogl_1⟩ := c2_ BKgl
          clear hb
          go_wp2_with (first | ((with_reducible refine gate_store (t := 42) (p := 19) rfl ?_); have hc_ := cf2_ BKga; refine st2_ ?_; intro wp1 hp_; clear hc_; clear Ogl_0 Ogl_1; replace BKgl := pf2_ NEgl_ga BKgl hp_; replace BKgr := pf2_ NEgr_ga BKgr hp_; replace BKga := pp2_ BKga hp_; replace BKgb := pf2r_ NEga_gb BKgb hp_; replace HB := pb2_ GEga HB hp_; replace HV := pb2_ GVga HV hp_; clear hp_; obtain ⟨Ogl_0, Ogl_1⟩ := c2_ BKgl))
          refine (curve_Exact.good 1100 A2 c2 ch f1 N4 D4 _ (kc_ K2 HV) C2.out HKH.out WG.out X4.out).mono ?_
          rintro e w62 ⟨rfl, hb⟩
          replace hb := nb_ HB hb
          replace BKgl := kb_ BKgl hb
          replace BKgr := kb_ BKgr hb
          replace BKga := kb_ BKga hb
          replace BKgb := kb_ BKgb hb
          replace HB := bs_ HB hb
          replace HV := bs_ HV hb
          clear Ogl_0 Ogl_1
          obtain ⟨Ogl_0, Ogl_1⟩ := c2_ BKgl
          clear hb
          clear Ogl_0 Ogl_1
          obtain ⟨Oga_0, Oga_1⟩ := c2_ BKga
          obtain ⟨Ogb_0, Ogb_1⟩ := c2_ BKgb
          go_wp2_with (first | ((with_reducible refine gate_store (t := 42) (p := 20) rfl ?_); have hc_ := cf2_ BKgb; refine st2_ ?_; intro wp2 hp_; clear hc_; clear Oga_0 Oga_1 Ogb_0 Ogb_1; replace BKgl := pf2_ NEgl_gb BKgl hp_; replace BKgr := pf2_ NEgr_gb BKgr hp_; replace BKga := pf2_ NEga_gb BKga hp_; replace BKgb := pp2_ BKgb hp_; replace HB := pb2_ GEgb HB hp_; replace HV := pb2_ GVgb HV hp_; clear hp_; obtain ⟨Oga_0, Oga_1⟩ := c2_ BKga; obtain ⟨Ogb_0, Ogb_1⟩ := c2_ BKgb))
          refine (waterhourlaw02_less.calls N3 D3 N4 D4 r1 r2 true _ HL2.out).mono ?_
          rintro e w63 ⟨rfl, hb⟩
          replace hb := nb_ HB hb
          replace BKgl := kb_ BKgl hb
          replace BKgr := kb_ BKgr hb
          replace BKga := kb_ BKga hb
          replace BKgb := kb_ BKgb hb
          replace HB := bs_ HB hb
          replace HV := bs_ HV hb
          clear Oga_0 Oga_1 Ogb_0 Ogb_1
          obtain ⟨Oga_0, Oga_1⟩ := c2_ BKga
          obtain ⟨Ogb_0, Ogb_1⟩ := c2_ BKgb
          clear hb
          go_upto_region 28 with (fail)
          clear Oga_0 Oga_1 Ogb_0 Ogb_1
          have BKgd := nw_ w63 (.cells #[.int .i64 r1, .int .i64 r2] 27 (0, 0))
          have hb := ba_ w63 (.cells #[.int .i64 r1, .int .i64 r2] 27 (0, 0))
          replace BKgl := kb_ BKgl hb
          replace BKgr := kb_ BKgr hb
          replace BKga := kb_ BKga hb
          replace BKgb := kb_ BKgb hb
          replace HV := bs_ HV hb
          replace HB := bs_ HB hb
          clear hb
          generalize w63.alloc (.cells #[.int .i64 r1, .int .i64 r2] 27 (0, 0)) = w64 at BKgd BKgl BKgr BKga BKgb HV HB ⊢
          generalize w63.heap.size = gd at BKgd  ⊢
          obtain ⟨Ogr_0, Ogr_1⟩ := c2_ BKgr
          obtain ⟨Ogd_0, Ogd_1⟩ := c2_ BKgd
          go_wp2
          go_ret
          exact ⟨by first | rfl | (simp; done), by first | exact HB.out | exact fb_ HB⟩)
end Go.Proofs.Ytlhfclpbodfmcaa.Pr
