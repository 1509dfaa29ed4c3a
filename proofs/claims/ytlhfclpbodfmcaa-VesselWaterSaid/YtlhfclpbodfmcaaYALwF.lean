/- A part of the proof: LwF. -/
import Derived.Test.YtlhfclpbodfmcaaYAVm
import Derived.Test.YtlhfclpbodfmcaaYAWShare
import Derived.Test.YtlhfclpbodfmcaaYAKq
import Derived.Test.YtlhfclpbodfmcaaXLb
import Derived.Test.YtlhfclpbodfmcaaXRt
import Derived.Test.YtlhfclpbodfmcaaXSn
namespace Go.Proofs.Ytlhfclpbodfmcaa.Pr
open Go.RowKit Go.Proofs.YtlhfclpbodfmcaaW.PrintWords Go.Proofs.YtlhfclpbodfmcaaW.PrintLast Go.Proofs.YtlhfclpbodfmcaaW.PrintMore
open Go.Proofs.Ytlhfclpbodfmcaa.Vm
set_option linter.unusedVariables false
set_option linter.unusedSimpArgs false
attribute [local go_sem] fld27_0 fld27_1
def water.T25 : Bool × List (List Nat × List Nat) := (true, [([], []), ([0], [0]), ([1], [1]), ([2], [2]), ([2], [2]), ([2], [2]), ([4, 5, 2, 2], [2, 4, 5]), ([3, 6, 2], [2, 3, 6]), ([2, 7], [2, 7]), ([8, 6], [8]), ([9], [9]), ([10, 9], [9, 10]), ([11, 9, 9], [9, 11]), ([12], [12]), ([13, 12], [12, 13]), ([14, 12, 12], [12, 14]), ([15], [15]), ([16, 15], [15, 16]), ([15], [15]), ([18, 15], [15, 18]), ([17, 19, 15], [15, 17, 19]), ([15, 20, 12], [12, 15, 20]), ([21, 15, 12], [12, 21]), ([22], [22]), ([23, 22], [22, 23]), ([22], [22]), ([25, 22], [22, 25]), ([24, 26, 22], [22, 24, 26]), ([22, 27, 12], [12, 22, 27]), ([12, 28, 9], [9, 12, 28]), ([9, 29], [9, 29])])
def water.B25 : List Nat := [0, 1, 3, 7, 7, 7, 55, 127, 255, 511, 1023, 2047, 4095, 8191, 16383, 32767, 65535, 131071, 65535, 327679, 1048575, 2097151, 4194303, 8388607, 16777215, 8388607, 41943039, 134217727, 268435455, 536870911, 1073741823]
theorem water.tab25 : rtab .any (opsOf Try.f18 25) = water.T25 := by kernel_rfl
theorem water.bits25 : waitsOk water.T25.2 water.B25 = true := by kernel_rfl
set_option maxHeartbeats 8000000 in
set_option maxRecDepth 100000 in
theorem water.walk (A0 : Option Addr) (c0 : Nat) (l0 : List S79) (a m n k : Int) (w : World) (hr0 : Kd.C k79 w A0 l0.length l0) (hc0 : l0.length ≤ c0) :
    Calls Try.prog 18 #[.slice A0 l0.length c0, .int .i64 a, .int .i64 m, .int .i64 n, .int .i64 k] w fun e w' => e = .returned (.bool true) ∧ Below w.heap.size w w' := by
  have hu27 := Try.underlying27
  have HR0 := Aside0.mk hr0
  have HC0 := Aside0.mk hc0
  clear hr0 hc0
  have HB := Aside0.mk (Below.refl w.heap.size w)
  cases hR : rightB l0 [m, n, k] [a] with
  | false =>
    have HRT : Aside0 (waterhourlaw02_right.f l0 [m, n, k] [a] = some false) := ⟨by simp [waterhourlaw02_right.f, hR]⟩
    clear hR
    go_enter Try.func18, Try.ntmps18
    go_wp2_with fail
    refine (waterhourlaw02_sane.calls true _ rfl).mono ?_
    rintro e w1 ⟨rfl, hb⟩
    replace hb := nb_ HB hb
    replace HB := bs_ HB hb
    clear hb
    go_wp2_with fail
    have K1 : Kd.C (Kd.int .i64) ((w1.alloc (.cells #[.int .i64 m, .int .i64 n, .int .i64 k] 3 (0, 0))).alloc (.cells #[.int .i64 a] 3 (0, 0))) (some ⟨w1.heap.size, 0, none⟩) 3 [m, n, k] := Kd.C_below (litJ w1 [m, n, k] (by simp)) (ba_ _ _)
    have K2 : Kd.C (Kd.int .i64) ((w1.alloc (.cells #[.int .i64 m, .int .i64 n, .int .i64 k] 3 (0, 0))).alloc (.cells #[.int .i64 a] 3 (0, 0))) (some ⟨w1.heap.size + 1, 0, none⟩) 1 [a] := by have h2 := litJ (w1.alloc (.cells #[.int .i64 m, .int .i64 n, .int .i64 k] 3 (0, 0))) [a] (by simp); rwa [World.size_alloc] at h2
    refine (waterhourlaw02_right.calls A0 c0 l0 _ 3 [m, n, k] _ 1 [a] false _ (Kd.C_below (kc_ HR0 HB) (below_alloc (ba_ _ _) _)) HC0.out K1 (Nat.le_refl _) K2 (Nat.le_refl _) HRT.out).mono ?_
    rintro e w2 ⟨rfl, hb⟩
    replace hb := below_step (below_alloc (below_alloc (Below.refl _ w1) _) _) hb
    replace hb := nb_ HB hb
    replace HB := bs_ HB hb
    clear hb
    clear K1 K2
    go_wp2
    go_ret
    exact ⟨by first | rfl | (simp; done), by first | exact HB.out | exact fb_ HB⟩
  | true =>
    have HRT : Aside0 (waterhourlaw02_right.f l0 [m, n, k] [a] = some true) := ⟨by simp [waterhourlaw02_right.f, hR]⟩
    have HV := Aside0.mk (rightP hR).1
    obtain ⟨r1, r2, a1, a2, u1, u2, e1, t1, t2, t3, t4, x1, x2, e2, y1, y2, e3, h1, h2, h3, hU, ⟨f1, f2, f3, f4⟩, ⟨b1, b2⟩, bT, bA, h4, h5, h6, hP, n0, n1, k0, k1⟩ := water_says hR
    clear hR
    have H1 : Aside0 (vessel_Run.f l0 a m = some (r1, r2, 0)) := ⟨congrArg some h1⟩
    have H2 : Aside0 (vessel_After.f l0 a m = some (a1, a2, 0)) := ⟨congrArg some h2⟩
    have H3 : Aside0 (vessel_Until.f l0 a n = some (u1, u2, e1)) := ⟨congrArg some h3⟩
    have H4 : Aside0 (vessel_Poured.f l0 a n = some (x1, x2, e2)) := ⟨congrArg some h4⟩
    have H5 : Aside0 (vessel_Poured.f l0 a (n + k) = some (y1, y2, e3)) := ⟨congrArg some h5⟩
    have H6 : Aside0 (vessel_Poured.f l0 a 0 = some (a, a, 0)) := ⟨congrArg some h6⟩
    obtain ⟨p, hp⟩ : ∃ p, ptsS (hsO l0) (vsO l0) (l0.length + 1) = p := ⟨_, rfl⟩
    have HO : Aside0 (vessel_Holding.f l0 = some (p, 0)) := ⟨congrArg some (by rw [← hp]; exact draw_v HV.out)⟩
    have G := valid_GV HV.out
    have GS := G.sums
    have HLN : (hsO l0).length = l0.length := by simp [hsO]
    have HKC : Aside0 (checkC p = 0) := ⟨by have c := checkC_S G.h G.v (by omega) (by omega) G.hv; rw [HLN, hp] at c; exact c⟩
    have cv : ∀ x : Int, 0 ≤ x → x ≤ sm (hsO l0) → curve_within.f p x = some true ∧ curve_line_low.f (firstL p x).1.f0 (firstL p x).1.f1 (firstL p x).2.f0 (firstL p x).2.f1 x = some (vT l0 (x : Rat)).floor ∧ curve_line_up.f (firstL p x).1.f0 (firstL p x).1.f1 (firstL p x).2.f0 (firstL p x).2.f1 x = some (vT l0 (x : Rat)).ceil := fun x x0 x1 => by
      have c := curve_vals G.h G.v (by omega) (by omega) G.hv x0 x1
      rw [HLN, hp] at c; exact c
    have CA := Aside0.mk (cv a bA.2.2.2.2.1 bA.2.2.2.2.2)
    have C1_ := Aside0.mk (cv a1 bA.1 bA.2.1)
    have C2_ := Aside0.mk (cv a2 bA.2.2.1 bA.2.2.2.1)
    rw [f1, f2] at CA
    rw [f3] at C1_
    rw [f4] at C2_
    have em : wrap64 (n + k) = n + k := by unfold wrap64; omega
    have ew1 : wrap64 (t1 - t4) = t1 - t4 := by unfold wrap64; omega
    have ew2 : wrap64 (t2 - t3) = t2 - t3 := by unfold wrap64; omega
    have d1 : decide (r1 < t1 - t4) = false := decide_eq_false (by omega)
    have d2 : decide (t2 - t3 < r2) = false := decide_eq_false (by omega)
    have HU := Aside0.mk hU
    have HP := Aside0.mk hP
    clear h1 h2 h3 hU f1 f2 f3 f4 b1 b2 bT bA h4 h5 h6 hP n0 n1 k0 k1 hp G GS HLN cv
    go_enter Try.func18, Try.ntmps18
    go_wp2_with fail
    refine (waterhourlaw02_sane.calls true _ rfl).mono ?_
    rintro e w1 ⟨rfl, hb⟩
    replace hb := nb_ HB hb
    replace HB := bs_ HB hb
    clear hb
    go_wp2_with fail
    have K1 : Kd.C (Kd.int .i64) ((w1.alloc (.cells #[.int .i64 m, .int .i64 n, .int .i64 k] 3 (0, 0))).alloc (.cells #[.int .i64 a] 3 (0, 0))) (some ⟨w1.heap.size, 0, none⟩) 3 [m, n, k] := Kd.C_below (litJ w1 [m, n, k] (by simp)) (ba_ _ _)
    have K2 : Kd.C (Kd.int .i64) ((w1.alloc (.cells #[.int .i64 m, .int .i64 n, .int .i64 k] 3 (0, 0))).alloc (.cells #[.int .i64 a] 3 (0, 0))) (some ⟨w1.heap.size + 1, 0, none⟩) 1 [a] := by have h2 := litJ (w1.alloc (.cells #[.int .i64 m, .int .i64 n, .int .i64 k] 3 (0, 0))) [a] (by simp); rwa [World.size_alloc] at h2
    refine (waterhourlaw02_right.calls A0 c0 l0 _ 3 [m, n, k] _ 1 [a] true _ (Kd.C_below (kc_ HR0 HB) (below_alloc (ba_ _ _) _)) HC0.out K1 (Nat.le_refl _) K2 (Nat.le_refl _) HRT.out).mono ?_
    rintro e w2 ⟨rfl, hb⟩
    replace hb := below_step (below_alloc (below_alloc (Below.refl _ w1) _) _) hb
    replace hb := nb_ HB hb
    replace HB := bs_ HB hb
    clear hb
    clear K1 K2
    go_wp2_with fail
    refine (vessel_Run.calls A0 c0 l0 a m r1 r2 0 _ (kc_ HR0 HB) HC0.out H1.out).mono ?_
    rintro e w3 ⟨rfl, hb⟩
    replace hb := nb_ HB hb
    replace HB := bs_ HB hb
    clear hb
    go_upto_region 6 with (fail)
    have BKgr := nw_ w3 (.cells #[.int .i64 r1, .int .i64 r2] 27 (0, 0))
    have hb := ba_ w3 (.cells #[.int .i64 r1, .int .i64 r2] 27 (0, 0))
    replace HB := bs_ HB hb
    clear hb
    generalize w3.alloc (.cells #[.int .i64 r1, .int .i64 r2] 27 (0, 0)) = w4 at BKgr HB ⊢
    generalize w3.heap.size = gr at BKgr ⊢
    go_wp2_with fail
    refine (vessel_After.calls A0 c0 l0 a m a1 a2 0 _ (kc_ HR0 HB) HC0.out H2.out).mono ?_
    rintro e w5 ⟨rfl, hb⟩
    replace hb := nb_ HB hb
    replace BKgr := kb_ BKgr hb
    replace HB := bs_ HB hb
    clear hb
    go_upto_region 7 with (fail)
    have BKga := nw_ w5 (.cells #[.int .i64 a1, .int .i64 a2] 27 (0, 0))
    have hb := ba_ w5 (.cells #[.int .i64 a1, .int .i64 a2] 27 (0, 0))
    replace BKgr := kb_ BKgr hb
    replace HB := bs_ HB hb
    clear hb
    generalize w5.alloc (.cells #[.int .i64 a1, .int .i64 a2] 27 (0, 0)) = w6 at BKga BKgr HB ⊢
    generalize w5.heap.size = ga at BKga ⊢
    go_wp2_with fail
    refine (vessel_Holding.calls A0 c0 l0 p 0 _ (kc_ HR0 HB) HC0.out HO.out).mono ?_
    rintro e w7 ⟨v1, rfl, ho, hb⟩
    obtain ⟨A1, c1, rfl, hc1, k1⟩ := Kd.R_reads ho
    have C1 := Aside0.mk hc1
    have K1 := Aside0.mk k1
    clear ho hc1 k1
    replace hb := nb_ HB hb
    replace BKgr := kb_ BKgr hb
    replace BKga := kb_ BKga hb
    replace HB := bs_ HB hb
    clear hb
    go_wp2_with fail
    refine (vessel_Until.calls A0 c0 l0 a n u1 u2 e1 _ (kc_ HR0 HB) HC0.out H3.out).mono ?_
    rintro e w8 ⟨rfl, hb⟩
    replace hb := nb_ HB hb
    replace BKgr := kb_ BKgr hb
    replace BKga := kb_ BKga hb
    replace K1 := Aside0.mk (Kd.C_below K1.out hb)
    replace HB := bs_ HB hb
    clear hb
    go_upto_region 11 with (fail)
    have BKgu := nw_ w8 (.cells #[.int .i64 u1, .int .i64 u2] 27 (0, 0))
    have hb := ba_ w8 (.cells #[.int .i64 u1, .int .i64 u2] 27 (0, 0))
    replace BKgr := kb_ BKgr hb
    replace BKga := kb_ BKga hb
    replace K1 := Aside0.mk (Kd.C_below K1.out hb)
    replace HB := bs_ HB hb
    clear hb
    generalize w8.alloc (.cells #[.int .i64 u1, .int .i64 u2] 27 (0, 0)) = w9 at BKgu BKgr BKga K1 HB ⊢
    generalize w8.heap.size = gu at BKgu ⊢
    obtain ⟨Ogr_0, Ogr_1⟩ := c2_ BKgr
    obtain ⟨Ogu_0, Ogu_1⟩ := c2_ BKgu
    clear H1 H2 H3 HO
    rcases HU.out with ⟨rfl, hq, hz⟩ | ⟨rfl, hq⟩
    all_goals clear HU
    rotate_left
    focus
      have hb : decide (n ≤ r1) = false := decide_eq_false (by omega)
      clear hq
      go_upto_region 16 with (fail)
      clear hb
      rename World => wj10
    rotate_left
    focus
      rcases hz with hz | ⟨hz, rfl, rfl⟩
      all_goals first | have hn : (n == 0) = false := beq_eq_false_iff_ne.2 hz | have hn : (n == 0) = true := beq_iff_eq.2 hz
      all_goals clear hz
      all_goals (
        go_upto_region 16 with (fail))
      all_goals clear hq hn
      all_goals rename World => wj10
    all_goals (
      clear Ogr_0 Ogr_1 Ogu_0 Ogu_1
      obtain ⟨Oga_0, Oga_1⟩ := c2_ BKga
      clear BKgu
      go_wp2_with fail
      refine (curve_Low.good A1 c1 p a t1 _ K1.out C1.out HKC.out CA.out.1 CA.out.2.1).mono ?_
      rintro e w11 ⟨rfl, hb⟩
      replace hb := nb_ HB hb
      replace BKgr := kb_ BKgr hb
      replace BKga := kb_ BKga hb
      replace K1 := Aside0.mk (Kd.C_below K1.out hb)
      replace HB := bs_ HB hb
      clear Oga_0 Oga_1
      obtain ⟨Oga_0, Oga_1⟩ := c2_ BKga
      clear hb
      go_wp2_with fail
      refine (curve_High.good A1 c1 p a t2 _ K1.out C1.out HKC.out CA.out.1 CA.out.2.2).mono ?_
      rintro e w12 ⟨rfl, hb⟩
      replace hb := nb_ HB hb
      replace BKgr := kb_ BKgr hb
      replace BKga := kb_ BKga hb
      replace K1 := Aside0.mk (Kd.C_below K1.out hb)
      replace HB := bs_ HB hb
      clear Oga_0 Oga_1
      obtain ⟨Oga_0, Oga_1⟩ := c2_ BKga
      clear hb
      go_wp2_with fail
      refine (curve_Low.good A1 c1 p a1 t3 _ K1.out C1.out HKC.out C1_.out.1 C1_.out.2.1).mono ?_
      rintro e w13 ⟨rfl, hb⟩
      replace hb := nb_ HB hb
      replace BKgr := kb_ BKgr hb
      replace BKga := kb_ BKga hb
      replace K1 := Aside0.mk (Kd.C_below K1.out hb)
      replace HB := bs_ HB hb
      clear Oga_0 Oga_1
      obtain ⟨Oga_0, Oga_1⟩ := c2_ BKga
      clear hb
      go_wp2_with fail
      refine (curve_High.good A1 c1 p a2 t4 _ K1.out C1.out HKC.out C2_.out.1 C2_.out.2.2).mono ?_
      rintro e w14 ⟨rfl, hb⟩
      replace hb := nb_ HB hb
      replace BKgr := kb_ BKgr hb
      replace BKga := kb_ BKga hb
      replace K1 := Aside0.mk (Kd.C_below K1.out hb)
      replace HB := bs_ HB hb
      clear Oga_0 Oga_1
      obtain ⟨Oga_0, Oga_1⟩ := c2_ BKga
      obtain ⟨Ogr_0, Ogr_1⟩ := c2_ BKgr
      clear hb
      go_upto_region 22 with (fail)
      clear d1 d2 ew1 ew2 CA C1_ C2_ K1 C1 HKC
      clear Oga_0 Oga_1 Ogr_0 Ogr_1
      clear BKgr
      clear BKga
      go_wp2_with fail
      refine (vessel_Poured.calls A0 c0 l0 a n x1 x2 e2 _ (kc_ HR0 HB) HC0.out H4.out).mono ?_
      rintro e w15 ⟨rfl, hb⟩
      replace hb := nb_ HB hb
      replace HB := bs_ HB hb
      clear hb
      go_upto_region 23 with (fail)
      have BKgx := nw_ w15 (.cells #[.int .i64 x1, .int .i64 x2] 27 (0, 0))
      have hb := ba_ w15 (.cells #[.int .i64 x1, .int .i64 x2] 27 (0, 0))
      replace HB := bs_ HB hb
      clear hb
      generalize w15.alloc (.cells #[.int .i64 x1, .int .i64 x2] 27 (0, 0)) = w16 at BKgx HB ⊢
      generalize w15.heap.size = gx at BKgx ⊢
      go_wp2_with fail
      refine (vessel_Poured.calls A0 c0 l0 a (n + k) y1 y2 e3 _ (kc_ HR0 HB) HC0.out H5.out).mono ?_
      rintro e w17 ⟨rfl, hb⟩
      replace hb := nb_ HB hb
      replace BKgx := kb_ BKgx hb
      replace HB := bs_ HB hb
      clear hb
      go_upto_region 24 with (fail)
      have BKgy := nw_ w17 (.cells #[.int .i64 y1, .int .i64 y2] 27 (0, 0))
      have hb := ba_ w17 (.cells #[.int .i64 y1, .int .i64 y2] 27 (0, 0))
      replace BKgx := kb_ BKgx hb
      replace HB := bs_ HB hb
      clear hb
      generalize w17.alloc (.cells #[.int .i64 y1, .int .i64 y2] 27 (0, 0)) = w18 at BKgy BKgx HB ⊢
      generalize w17.heap.size = gy at BKgy ⊢
      go_wp2_with fail
      refine (vessel_Poured.calls A0 c0 l0 a 0 a a 0 _ (kc_ HR0 HB) HC0.out H6.out).mono ?_
      rintro e w19 ⟨rfl, hb⟩
      replace hb := nb_ HB hb
      replace BKgx := kb_ BKgx hb
      replace BKgy := kb_ BKgy hb
      replace HB := bs_ HB hb
      clear hb
      go_upto_region 25 with (fail)
      have BKgz := nw_ w19 (.cells #[.int .i64 a, .int .i64 a] 27 (0, 0))
      have hb := ba_ w19 (.cells #[.int .i64 a, .int .i64 a] 27 (0, 0))
      replace BKgx := kb_ BKgx hb
      replace BKgy := kb_ BKgy hb
      replace HB := bs_ HB hb
      clear hb
      generalize w19.alloc (.cells #[.int .i64 a, .int .i64 a] 27 (0, 0)) = w20 at BKgz BKgx BKgy HB ⊢
      generalize w19.heap.size = gz at BKgz ⊢
      clear H4 H5 H6 em
      rcases HP.out with ⟨rfl, ⟨rfl, k1, k2⟩ | rfl⟩ | ⟨rfl, rfl⟩
      all_goals clear HP
      · have d3 : decide (y1 < x1) = false := decide_eq_false (by omega)
        have d4 : decide (y2 < x2) = false := decide_eq_false (by omega)
        clear k1 k2
        replace BKgx := kd_ BKgx
        replace BKgy := kd_ BKgy
        replace BKgz := kd_ BKgz
        replace HB := bd_ HB
        refine sM_ [] (fun w' => (w'.cell? ⟨gx, 0, none⟩ = some (.int .i64 x1) ∧ w'.cell? ⟨gx, 1, none⟩ = some (.int .i64 x2)) ∧ (w'.cell? ⟨gy, 0, none⟩ = some (.int .i64 y1) ∧ w'.cell? ⟨gy, 1, none⟩ = some (.int .i64 y2)) ∧ (w'.cell? ⟨gz, 0, none⟩ = some (.int .i64 a) ∧ w'.cell? ⟨gz, 1, none⟩ = some (.int .i64 a))) water.tab25 water.bits25 ⟨c2_ BKgx, c2_ BKgy, c2_ BKgz⟩ (fun hHeld HT_ HW_ => ?_)
        generalize w20.drew = z1 at BKgx BKgy BKgz HB hHeld ⊢
        refine pM_ HT_ 0 180 1 ?_
        refine pM_ HT_ 1 181 3 ?_
        refine pM_ HT_ 2 182 7 ?_
        refine pM_ HT_ 4 184 23 ?_
        refine pM_ HT_ 5 185 55 ?_
        refine tM_ HT_ HW_ hHeld 3 183 63 ?_
        refine oM_ HT_ 6 (some 186) 127 (fun K hK => ?_)
        refine gM_ Try.func46 (waterhourlaw02_span.calls a a a a _ rfl) ?_
        rintro e z2 ⟨rfl, hb⟩
        refine ⟨.agg #[.int .i64 _, .int .i64 _], rfl, ?_⟩
        replace hb := nb_ HB hb
        replace BKgx := kb_ BKgx hb
        replace BKgy := kb_ BKgy hb
        replace BKgz := kb_ BKgz hb
        replace HB := bs_ HB hb
        (try clear hb)
        refine hK.out _ _ ⟨c2_ BKgx, c2_ BKgy, c2_ BKgz⟩ (fun hHeld => ?_)
        clear hK K
        refine nM_ ?_
        refine pM_ HT_ 7 187 255 ?_
        refine pM_ HT_ 8 188 511 ?_
        refine pM_ HT_ 9 189 1023 ?_
        refine pM_ HT_ 10 190 2047 ?_
        refine pM_ HT_ 11 191 4095 ?_
        refine pM_ HT_ 12 192 8191 ?_
        refine pM_ HT_ 13 193 16383 ?_
        refine pM_ HT_ 14 194 32767 ?_
        refine pM_ HT_ 15 195 65535 ?_
        refine pM_ HT_ 16 196 131071 ?_
        refine pM_ HT_ 18 198 393215 ?_
        refine tM_ HT_ HW_ hHeld 17 197 524287 ?_
        refine tM_ HT_ HW_ hHeld 19 199 1048575 ?_
        refine pM_ HT_ 20 200 2097151 ?_
        refine pM_ HT_ 21 201 4194303 ?_
        refine pM_ HT_ 22 202 8388607 ?_
        refine pM_ HT_ 23 203 16777215 ?_
        refine pM_ HT_ 25 205 50331647 ?_
        refine tM_ HT_ HW_ hHeld 24 204 67108863 ?_
        refine tM_ HT_ HW_ hHeld 26 206 134217727 ?_
        refine pM_ HT_ 27 207 268435455 ?_
        refine pM_ HT_ 28 208 536870911 ?_
        refine pM_ HT_ 29 209 1073741823 ?_
        refine pM_ HT_ 30 210 2147483647 ?_
        refine dM_ HT_ ?_
        go_wp2
        go_ret
        exact ⟨by first | rfl | (simp; done), by first | exact HB.out | exact fb_ HB⟩
      · replace BKgx := kd_ BKgx
        replace BKgy := kd_ BKgy
        replace BKgz := kd_ BKgz
        replace HB := bd_ HB
        refine sM_ [] (fun w' => (w'.cell? ⟨gx, 0, none⟩ = some (.int .i64 x1) ∧ w'.cell? ⟨gx, 1, none⟩ = some (.int .i64 x2)) ∧ (w'.cell? ⟨gy, 0, none⟩ = some (.int .i64 y1) ∧ w'.cell? ⟨gy, 1, none⟩ = some (.int .i64 y2)) ∧ (w'.cell? ⟨gz, 0, none⟩ = some (.int .i64 a) ∧ w'.cell? ⟨gz, 1, none⟩ = some (.int .i64 a))) water.tab25 water.bits25 ⟨c2_ BKgx, c2_ BKgy, c2_ BKgz⟩ (fun hHeld HT_ HW_ => ?_)
        generalize w20.drew = z1 at BKgx BKgy BKgz HB hHeld ⊢
        refine pM_ HT_ 0 180 1 ?_
        refine pM_ HT_ 1 181 3 ?_
        refine pM_ HT_ 2 182 7 ?_
        refine pM_ HT_ 4 184 23 ?_
        refine pM_ HT_ 5 185 55 ?_
        refine tM_ HT_ HW_ hHeld 3 183 63 ?_
        refine oM_ HT_ 6 (some 186) 127 (fun K hK => ?_)
        refine gM_ Try.func46 (waterhourlaw02_span.calls a a a a _ rfl) ?_
        rintro e z2 ⟨rfl, hb⟩
        refine ⟨.agg #[.int .i64 _, .int .i64 _], rfl, ?_⟩
        replace hb := nb_ HB hb
        replace BKgx := kb_ BKgx hb
        replace BKgy := kb_ BKgy hb
        replace BKgz := kb_ BKgz hb
        replace HB := bs_ HB hb
        (try clear hb)
        refine hK.out _ _ ⟨c2_ BKgx, c2_ BKgy, c2_ BKgz⟩ (fun hHeld => ?_)
        clear hK K
        refine nM_ ?_
        refine pM_ HT_ 7 187 255 ?_
        refine pM_ HT_ 8 188 511 ?_
        refine pM_ HT_ 9 189 1023 ?_
        refine pM_ HT_ 10 190 2047 ?_
        refine pM_ HT_ 11 191 4095 ?_
        refine pM_ HT_ 12 192 8191 ?_
        refine pU_ HT_ 13 (some 193) 16383 ?_
        refine pU_ HT_ 14 (some 194) 32767 ?_
        refine pU_ HT_ 15 (some 195) 65535 ?_
        refine pU_ HT_ 16 (some 196) 131071 ?_
        refine pU_ HT_ 17 (some 197) 262143 ?_
        refine pU_ HT_ 18 (some 198) 524287 ?_
        refine pU_ HT_ 19 (some 199) 1048575 ?_
        refine pU_ HT_ 20 (some 200) 2097151 ?_
        refine pU_ HT_ 21 (some 201) 4194303 ?_
        refine pU_ HT_ 22 (some 202) 8388607 ?_
        refine pU_ HT_ 23 (some 203) 16777215 ?_
        refine pU_ HT_ 24 (some 204) 33554431 ?_
        refine pU_ HT_ 25 (some 205) 67108863 ?_
        refine pU_ HT_ 26 (some 206) 134217727 ?_
        refine pU_ HT_ 27 (some 207) 268435455 ?_
        refine pU_ HT_ 28 (some 208) 536870911 ?_
        refine pM_ HT_ 29 209 1073741823 ?_
        refine pM_ HT_ 30 210 2147483647 ?_
        refine dM_ HT_ ?_
        go_wp2
        go_ret
        exact ⟨by first | rfl | (simp; done), by first | exact HB.out | exact fb_ HB⟩
      · replace BKgx := kd_ BKgx
        replace BKgy := kd_ BKgy
        replace BKgz := kd_ BKgz
        replace HB := bd_ HB
        refine sM_ [] (fun w' => (w'.cell? ⟨gx, 0, none⟩ = some (.int .i64 x1) ∧ w'.cell? ⟨gx, 1, none⟩ = some (.int .i64 x2)) ∧ (w'.cell? ⟨gy, 0, none⟩ = some (.int .i64 y1) ∧ w'.cell? ⟨gy, 1, none⟩ = some (.int .i64 y2)) ∧ (w'.cell? ⟨gz, 0, none⟩ = some (.int .i64 a) ∧ w'.cell? ⟨gz, 1, none⟩ = some (.int .i64 a))) water.tab25 water.bits25 ⟨c2_ BKgx, c2_ BKgy, c2_ BKgz⟩ (fun hHeld HT_ HW_ => ?_)
        generalize w20.drew = z1 at BKgx BKgy BKgz HB hHeld ⊢
        refine pM_ HT_ 0 180 1 ?_
        refine pM_ HT_ 1 181 3 ?_
        refine pM_ HT_ 2 182 7 ?_
        refine pM_ HT_ 4 184 23 ?_
        refine pM_ HT_ 5 185 55 ?_
        refine tM_ HT_ HW_ hHeld 3 183 63 ?_
        refine oM_ HT_ 6 (some 186) 127 (fun K hK => ?_)
        refine gM_ Try.func46 (waterhourlaw02_span.calls a a a a _ rfl) ?_
        rintro e z2 ⟨rfl, hb⟩
        refine ⟨.agg #[.int .i64 _, .int .i64 _], rfl, ?_⟩
        replace hb := nb_ HB hb
        replace BKgx := kb_ BKgx hb
        replace BKgy := kb_ BKgy hb
        replace BKgz := kb_ BKgz hb
        replace HB := bs_ HB hb
        (try clear hb)
        refine hK.out _ _ ⟨c2_ BKgx, c2_ BKgy, c2_ BKgz⟩ (fun hHeld => ?_)
        clear hK K
        refine nM_ ?_
        refine pM_ HT_ 7 187 255 ?_
        refine pM_ HT_ 8 188 511 ?_
        refine pM_ HT_ 9 189 1023 ?_
        refine pM_ HT_ 10 190 2047 ?_
        refine pM_ HT_ 11 191 4095 ?_
        refine pM_ HT_ 12 192 8191 ?_
        refine pU_ HT_ 13 (some 193) 16383 ?_
        refine pU_ HT_ 14 (some 194) 32767 ?_
        refine pU_ HT_ 15 (some 195) 65535 ?_
        refine pU_ HT_ 16 (some 196) 131071 ?_
        refine pU_ HT_ 17 (some 197) 262143 ?_
        refine pU_ HT_ 18 (some 198) 524287 ?_
        refine pU_ HT_ 19 (some 199) 1048575 ?_
        refine pU_ HT_ 20 (some 200) 2097151 ?_
        refine pU_ HT_ 21 (some 201) 4194303 ?_
        refine pU_ HT_ 22 (some 202) 8388607 ?_
        refine pU_ HT_ 23 (some 203) 16777215 ?_
        refine pU_ HT_ 24 (some 204) 33554431 ?_
        refine pU_ HT_ 25 (some 205) 67108863 ?_
        refine pU_ HT_ 26 (some 206) 134217727 ?_
        refine pU_ HT_ 27 (some 207) 268435455 ?_
        refine pU_ HT_ 28 (some 208) 536870911 ?_
        refine pM_ HT_ 29 209 1073741823 ?_
        refine pM_ HT_ 30 210 2147483647 ?_
        refine dM_ HT_ ?_
        go_wp2
        go_ret
        exact ⟨by first | rfl | (simp; done), by first | exact HB.out | exact fb_ HB⟩)
end Go.Proofs.Ytlhfclpbodfmcaa.Pr
