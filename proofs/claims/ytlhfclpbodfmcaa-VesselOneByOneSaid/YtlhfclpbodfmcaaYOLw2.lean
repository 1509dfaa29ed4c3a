/- A part of the proof: Lw2. -/
import Derived.Test.YtlhfclpbodfmcaaYOKq
import Derived.Test.YtlhfclpbodfmcaaYOTp
import Derived.Test.YtlhfclpbodfmcaaZLb
import Derived.Test.YtlhfclpbodfmcaaYOLc
import Derived.Test.YtlhfclpbodfmcaaZRt
import Derived.Test.YtlhfclpbodfmcaaYOLe
import Derived.Test.YtlhfclpbodfmcaaYOKl
import Derived.Test.YtlhfclpbodfmcaaZSn
namespace Go.Proofs.Ytlhfclpbodfmcaa.Pr
open Go.RowKit Go.Proofs.YtlhfclpbodfmcaaW.PrintWords Go.Proofs.YtlhfclpbodfmcaaW.PrintLast Go.Proofs.YtlhfclpbodfmcaaW.PrintMore
open Go.Proofs.Ytlhfclpbodfmcaa.Vm
set_option linter.unusedVariables false
set_option linter.unusedSimpArgs false
set_option maxHeartbeats 1600000 in
set_option maxRecDepth 100000 in
theorem oneByOne.walk (A0 : Option Addr) (c0 : Nat) (l0 : List S79) (a b c m n : Int) (w : World) (hr0 : Kd.C k79 w A0 l0.length l0) (hc0 : l0.length ≤ c0) :
    Calls Try.prog 8 #[.slice A0 l0.length c0, .int .i64 a, .int .i64 b, .int .i64 c, .int .i64 m, .int .i64 n] w fun e w' => e = .returned (.bool true) ∧ Below w.heap.size w w' := by
  have hu27 := Try.underlying27
  have HR0 := Aside0.mk hr0
  have HC0 := Aside0.mk hc0
  clear hr0 hc0
  have HB := Aside0.mk (Below.refl w.heap.size w)
  cases hR : rightB l0 [m, n] [a, b, c] with
  | false =>
    have HRT : Aside0 (waterhourlaw02_right.f l0 [m, n] [a, b, c] = some false) := ⟨by simp [waterhourlaw02_right.f, hR]⟩
    clear hR
    go_enter Try.func8, Try.ntmps8
    go_wp2_with fail
    refine (waterhourlaw02_sane.calls true _ rfl).mono ?_
    rintro e w1 ⟨rfl, hb⟩
    replace hb := nb_ HB hb
    replace HB := bs_ HB hb
    clear hb
    go_wp2_with fail
    have K1 : Kd.C (Kd.int .i64) ((w1.alloc (.cells #[.int .i64 m, .int .i64 n] 3 (0, 0))).alloc (.cells #[.int .i64 a, .int .i64 b, .int .i64 c] 3 (0, 0))) (some ⟨w1.heap.size, 0, none⟩) 2 [m, n] := Kd.C_below (litJ w1 [m, n] (by simp)) (ba_ _ _)
    have K2 : Kd.C (Kd.int .i64) ((w1.alloc (.cells #[.int .i64 m, .int .i64 n] 3 (0, 0))).alloc (.cells #[.int .i64 a, .int .i64 b, .int .i64 c] 3 (0, 0))) (some ⟨w1.heap.size + 1, 0, none⟩) 3 [a, b, c] := by have h2 := litJ (w1.alloc (.cells #[.int .i64 m, .int .i64 n] 3 (0, 0))) [a, b, c] (by simp); rwa [World.size_alloc] at h2
    refine (waterhourlaw02_right.calls A0 c0 l0 _ 2 [m, n] _ 3 [a, b, c] false _ (Kd.C_below (kc_ HR0 HB) (below_alloc (ba_ _ _) _)) HC0.out K1 (Nat.le_refl _) K2 (Nat.le_refl _) HRT.out).mono ?_
    rintro e w2 ⟨rfl, hb⟩
    replace hb := below_step (below_alloc (below_alloc (Below.refl _ w1) _) _) hb
    replace hb := nb_ HB hb
    replace HB := bs_ HB hb
    clear hb
    clear K1 K2
    go_wp2
    go_ret
    exact ⟨by first | rfl | (simp; done), by first | exact HB.out | exact fb_ HB⟩
  | true =>
    have HRT : Aside0 (waterhourlaw02_right.f l0 [m, n] [a, b, c] = some true) := ⟨by simp [waterhourlaw02_right.f, hR]⟩
    obtain ⟨xl, xh, yl, yh, pl, ph, ql, qh, h1, h2, h3, h4, g1, g2, hBf, hSk, m0, m1, n0, n1⟩ := one_says hR
    clear hR
    have H1 : Aside0 (vessel_After.f l0 a m = some (xl, xh, 0)) := ⟨congrArg some h1⟩
    have H2 : Aside0 (vessel_After.f l0 a (m + n) = some (yl, yh, 0)) := ⟨congrArg some h2⟩
    have H3 : Aside0 (vessel_After.f l0 xl n = some (pl, ph, 0)) := ⟨congrArg some h3⟩
    have H4 : Aside0 (vessel_After.f l0 xh n = some (ql, qh, 0)) := ⟨congrArg some h4⟩
    have em : wrap64 (m + n) = m + n := by unfold wrap64; omega
    have d1 : decide (yl < pl) = false := decide_eq_false (by omega)
    have d2 : decide (qh < yh) = false := decide_eq_false (by omega)
    clear h1 h2 h3 h4 g1 g2 m0 m1 n0 n1
    have HBF := Aside0.mk hBf
    have HSK := Aside0.mk hSk
    clear hBf hSk
    go_enter Try.func8, Try.ntmps8
    go_wp2_with fail
    refine (waterhourlaw02_sane.calls true _ rfl).mono ?_
    rintro e w1 ⟨rfl, hb⟩
    replace hb := nb_ HB hb
    replace HB := bs_ HB hb
    clear hb
    go_wp2_with fail
    have K1 : Kd.C (Kd.int .i64) ((w1.alloc (.cells #[.int .i64 m, .int .i64 n] 3 (0, 0))).alloc (.cells #[.int .i64 a, .int .i64 b, .int .i64 c] 3 (0, 0))) (some ⟨w1.heap.size, 0, none⟩) 2 [m, n] := Kd.C_below (litJ w1 [m, n] (by simp)) (ba_ _ _)
    have K2 : Kd.C (Kd.int .i64) ((w1.alloc (.cells #[.int .i64 m, .int .i64 n] 3 (0, 0))).alloc (.cells #[.int .i64 a, .int .i64 b, .int .i64 c] 3 (0, 0))) (some ⟨w1.heap.size + 1, 0, none⟩) 3 [a, b, c] := by have h2 := litJ (w1.alloc (.cells #[.int .i64 m, .int .i64 n] 3 (0, 0))) [a, b, c] (by simp); rwa [World.size_alloc] at h2
    refine (waterhourlaw02_right.calls A0 c0 l0 _ 2 [m, n] _ 3 [a, b, c] true _ (Kd.C_below (kc_ HR0 HB) (below_alloc (ba_ _ _) _)) HC0.out K1 (Nat.le_refl _) K2 (Nat.le_refl _) HRT.out).mono ?_
    rintro e w2 ⟨rfl, hb⟩
    replace hb := below_step (below_alloc (below_alloc (Below.refl _ w1) _) _) hb
    replace hb := nb_ HB hb
    replace HB := bs_ HB hb
    clear hb
    clear K1 K2
    go_wp2_with fail
    refine (vessel_After.calls A0 c0 l0 a m xl xh 0 _ (kc_ HR0 HB) HC0.out H1.out).mono ?_
    rintro e w3 ⟨rfl, hb⟩
    replace hb := nb_ HB hb
    replace HB := bs_ HB hb
    clear hb
    go_upto_region 6 with (fail)
    have BKga := nw_ w3 (.cells #[.int .i64 xl, .int .i64 xh] 27 (0, 0))
    have hb := ba_ w3 (.cells #[.int .i64 xl, .int .i64 xh] 27 (0, 0))
    replace HB := bs_ HB hb
    clear hb
    generalize w3.alloc (.cells #[.int .i64 xl, .int .i64 xh] 27 (0, 0)) = w4 at BKga HB ⊢
    generalize w3.heap.size = ga at BKga ⊢
    go_wp2_with fail
    refine (vessel_After.calls A0 c0 l0 a (m + n) yl yh 0 _ (kc_ HR0 HB) HC0.out H2.out).mono ?_
    rintro e w5 ⟨rfl, hb⟩
    replace hb := nb_ HB hb
    replace BKga := kb_ BKga hb
    replace HB := bs_ HB hb
    clear hb
    go_upto_region 7 with (fail)
    have BKgb := nw_ w5 (.cells #[.int .i64 yl, .int .i64 yh] 27 (0, 0))
    have hb := ba_ w5 (.cells #[.int .i64 yl, .int .i64 yh] 27 (0, 0))
    replace BKga := kb_ BKga hb
    replace HB := bs_ HB hb
    clear hb
    generalize w5.alloc (.cells #[.int .i64 yl, .int .i64 yh] 27 (0, 0)) = w6 at BKgb BKga HB ⊢
    generalize w5.heap.size = gb at BKgb ⊢
    obtain ⟨Oga_0, Oga_1⟩ := c2_ BKga
    go_wp2_with fail
    refine (vessel_After.calls A0 c0 l0 xl n pl ph 0 _ (kc_ HR0 HB) HC0.out H3.out).mono ?_
    rintro e w7 ⟨rfl, hb⟩
    replace hb := nb_ HB hb
    replace BKga := kb_ BKga hb
    replace BKgb := kb_ BKgb hb
    replace HB := bs_ HB hb
    clear Oga_0 Oga_1
    obtain ⟨Oga_0, Oga_1⟩ := c2_ BKga
    clear hb
    go_upto_region 10 with (fail)
    clear Oga_0 Oga_1
    have BKgc := nw_ w7 (.cells #[.int .i64 pl, .int .i64 ph] 27 (0, 0))
    have hb := ba_ w7 (.cells #[.int .i64 pl, .int .i64 ph] 27 (0, 0))
    replace BKga := kb_ BKga hb
    replace BKgb := kb_ BKgb hb
    replace HB := bs_ HB hb
    clear hb
    generalize w7.alloc (.cells #[.int .i64 pl, .int .i64 ph] 27 (0, 0)) = w8 at BKgc BKga BKgb HB ⊢
    generalize w7.heap.size = gc at BKgc ⊢
    obtain ⟨Oga_0, Oga_1⟩ := c2_ BKga
    go_wp2_with fail
    refine (vessel_After.calls A0 c0 l0 xh n ql qh 0 _ (kc_ HR0 HB) HC0.out H4.out).mono ?_
    rintro e w9 ⟨rfl, hb⟩
    replace hb := nb_ HB hb
    replace BKga := kb_ BKga hb
    replace BKgb := kb_ BKgb hb
    replace BKgc := kb_ BKgc hb
    replace HB := bs_ HB hb
    clear Oga_0 Oga_1
    obtain ⟨Oga_0, Oga_1⟩ := c2_ BKga
    clear hb
    go_upto_region 11 with (fail)
    clear Oga_0 Oga_1
    have BKgd := nw_ w9 (.cells #[.int .i64 ql, .int .i64 qh] 27 (0, 0))
    have hb := ba_ w9 (.cells #[.int .i64 ql, .int .i64 qh] 27 (0, 0))
    replace BKga := kb_ BKga hb
    replace BKgb := kb_ BKgb hb
    replace BKgc := kb_ BKgc hb
    replace HB := bs_ HB hb
    clear hb
    generalize w9.alloc (.cells #[.int .i64 ql, .int .i64 qh] 27 (0, 0)) = w10 at BKgd BKga BKgb BKgc HB ⊢
    generalize w9.heap.size = gd at BKgd ⊢
    obtain ⟨Ogb_0, Ogb_1⟩ := c2_ BKgb
    obtain ⟨Ogc_0, Ogc_1⟩ := c2_ BKgc
    obtain ⟨Ogd_0, Ogd_1⟩ := c2_ BKgd
    go_upto_region 13 with (fail)
    clear Ogb_0 Ogb_1 Ogc_0 Ogc_1 Ogd_0 Ogd_1
    clear BKga
    clear BKgb
    clear BKgc
    clear BKgd
    clear d1 d2 em
    rcases HBF.out with hb4 | ⟨zl, zh, rl, rh, sl, sh, z1, z2, z3, z4, z5⟩
    · clear HBF
      have B1 : Aside0 (vessel_Before.f l0 a m = some (0, 0, 4)) := ⟨congrArg some hb4⟩
      clear hb4
      go_wp2_with fail
      refine (vessel_Before.calls A0 c0 l0 a m 0 0 4 _ (kc_ HR0 HB) HC0.out B1.out).mono ?_
      rintro e w11 ⟨rfl, hb⟩
      replace hb := nb_ HB hb
      replace HB := bs_ HB hb
      clear hb
      go_upto_region 14 with (fail)
      have BKge := nw_ w11 (.cells #[.int .i64 0, .int .i64 0] 27 (0, 0))
      have hb := ba_ w11 (.cells #[.int .i64 0, .int .i64 0] 27 (0, 0))
      replace HB := bs_ HB hb
      clear hb
      generalize w11.alloc (.cells #[.int .i64 0, .int .i64 0] 27 (0, 0)) = w12 at BKge HB ⊢
      generalize w11.heap.size = ge at BKge ⊢
      go_upto_region 21 with (fail)
      rcases HSK.out with hab | ⟨hab, hbc | ⟨hbc, il, ih, jl, jh, kl, kh, s1, s2, s3, t1, t2, u1, u2, u3, u4, u5, u6, u7, u8⟩⟩
      · clear HSK
        have d3 : decide (a < b) = true := decide_eq_true (by omega)
        go_wp2
        go_ret
        exact ⟨by first | rfl | (simp; done), by first | exact HB.out | exact fb_ HB⟩
      · clear HSK
        have d3 : decide (a < b) = false := decide_eq_false (by omega)
        have d4 : decide (b < c) = true := decide_eq_true (by omega)
        go_wp2
        go_ret
        exact ⟨by first | rfl | (simp; done), by first | exact HB.out | exact fb_ HB⟩
      · clear HSK
        have d3 : decide (a < b) = false := decide_eq_false (by omega)
        have d4 : decide (b < c) = false := decide_eq_false (by omega)
        have S1 : Aside0 (vessel_Sinking.f l0 a b = some (il, ih, 0)) := ⟨congrArg some s1⟩
        have S2 : Aside0 (vessel_Sinking.f l0 b c = some (jl, jh, 0)) := ⟨congrArg some s2⟩
        have S3 : Aside0 (vessel_Sinking.f l0 a c = some (kl, kh, 0)) := ⟨congrArg some s3⟩
        have e1 : wrap64 (il + jl) = il + jl := by unfold wrap64; omega
        have e2 : wrap64 (ih + jh) = ih + jh := by unfold wrap64; omega
        have d5 : decide (il + jl ≤ kl) = true := decide_eq_true (by omega)
        have d6 : decide (kh ≤ ih + jh) = true := decide_eq_true (by omega)
        clear s1 s2 s3 t1 t2 u1 u2 u3 u4 u5 u6 u7 u8
        go_wp2_with fail
        refine (vessel_Sinking.calls A0 c0 l0 a b il ih 0 _ (kc_ HR0 HB) HC0.out S1.out).mono ?_
        rintro e w13 ⟨rfl, hb⟩
        replace hb := nb_ HB hb
        replace BKge := kb_ BKge hb
        replace HB := bs_ HB hb
        clear hb
        go_upto_region 24 with (fail)
        have BKgh := nw_ w13 (.cells #[.int .i64 il, .int .i64 ih] 27 (0, 0))
        have hb := ba_ w13 (.cells #[.int .i64 il, .int .i64 ih] 27 (0, 0))
        replace BKge := kb_ BKge hb
        replace HB := bs_ HB hb
        clear hb
        generalize w13.alloc (.cells #[.int .i64 il, .int .i64 ih] 27 (0, 0)) = w14 at BKgh BKge HB ⊢
        generalize w13.heap.size = gh at BKgh ⊢
        go_wp2_with fail
        refine (vessel_Sinking.calls A0 c0 l0 b c jl jh 0 _ (kc_ HR0 HB) HC0.out S2.out).mono ?_
        rintro e w15 ⟨rfl, hb⟩
        replace hb := nb_ HB hb
        replace BKge := kb_ BKge hb
        replace BKgh := kb_ BKgh hb
        replace HB := bs_ HB hb
        clear hb
        go_upto_region 25 with (fail)
        have BKgi := nw_ w15 (.cells #[.int .i64 jl, .int .i64 jh] 27 (0, 0))
        have hb := ba_ w15 (.cells #[.int .i64 jl, .int .i64 jh] 27 (0, 0))
        replace BKge := kb_ BKge hb
        replace BKgh := kb_ BKgh hb
        replace HB := bs_ HB hb
        clear hb
        generalize w15.alloc (.cells #[.int .i64 jl, .int .i64 jh] 27 (0, 0)) = w16 at BKgi BKge BKgh HB ⊢
        generalize w15.heap.size = gi at BKgi ⊢
        go_wp2_with fail
        refine (vessel_Sinking.calls A0 c0 l0 a c kl kh 0 _ (kc_ HR0 HB) HC0.out S3.out).mono ?_
        rintro e w17 ⟨rfl, hb⟩
        replace hb := nb_ HB hb
        replace BKge := kb_ BKge hb
        replace BKgh := kb_ BKgh hb
        replace BKgi := kb_ BKgi hb
        replace HB := bs_ HB hb
        clear hb
        go_upto_region 26 with (fail)
        have BKgj := nw_ w17 (.cells #[.int .i64 kl, .int .i64 kh] 27 (0, 0))
        have hb := ba_ w17 (.cells #[.int .i64 kl, .int .i64 kh] 27 (0, 0))
        replace BKge := kb_ BKge hb
        replace BKgh := kb_ BKgh hb
        replace BKgi := kb_ BKgi hb
        replace HB := bs_ HB hb
        clear hb
        generalize w17.alloc (.cells #[.int .i64 kl, .int .i64 kh] 27 (0, 0)) = w18 at BKgj BKge BKgh BKgi HB ⊢
        generalize w17.heap.size = gj at BKgj ⊢
        obtain ⟨Ogh_0, Ogh_1⟩ := c2_ BKgh
        obtain ⟨Ogi_0, Ogi_1⟩ := c2_ BKgi
        obtain ⟨Ogj_0, Ogj_1⟩ := c2_ BKgj
        go_wp2
        go_ret
        exact ⟨by first | rfl | (simp; done), by first | exact HB.out | exact fb_ HB⟩
    · clear HBF
      have B1 : Aside0 (vessel_Before.f l0 a m = some (zl, zh, 0)) := ⟨congrArg some z1⟩
      have B2 : Aside0 (vessel_After.f l0 zl m = some (rl, rh, 0)) := ⟨congrArg some z2⟩
      have B3 : Aside0 (vessel_After.f l0 zh m = some (sl, sh, 0)) := ⟨congrArg some z3⟩
      have d7 : decide (a < rl) = false := decide_eq_false (by omega)
      have d8 : decide (sh < a) = false := decide_eq_false (by omega)
      clear z1 z2 z3 z4 z5
      go_wp2_with fail
      refine (vessel_Before.calls A0 c0 l0 a m zl zh 0 _ (kc_ HR0 HB) HC0.out B1.out).mono ?_
      rintro e w11 ⟨rfl, hb⟩
      replace hb := nb_ HB hb
      replace HB := bs_ HB hb
      clear hb
      go_upto_region 14 with (fail)
      have BKge := nw_ w11 (.cells #[.int .i64 zl, .int .i64 zh] 27 (0, 0))
      have hb := ba_ w11 (.cells #[.int .i64 zl, .int .i64 zh] 27 (0, 0))
      replace HB := bs_ HB hb
      clear hb
      generalize w11.alloc (.cells #[.int .i64 zl, .int .i64 zh] 27 (0, 0)) = w12 at BKge HB ⊢
      generalize w11.heap.size = ge at BKge ⊢
      obtain ⟨Oge_0, Oge_1⟩ := c2_ BKge
      go_wp2_with fail
      refine (vessel_After.calls A0 c0 l0 zl m rl rh 0 _ (kc_ HR0 HB) HC0.out B2.out).mono ?_
      rintro e w13 ⟨rfl, hb⟩
      replace hb := nb_ HB hb
      replace BKge := kb_ BKge hb
      replace HB := bs_ HB hb
      clear Oge_0 Oge_1
      obtain ⟨Oge_0, Oge_1⟩ := c2_ BKge
      clear hb
      go_upto_region 16 with (fail)
      clear Oge_0 Oge_1
      have BKgf := nw_ w13 (.cells #[.int .i64 rl, .int .i64 rh] 27 (0, 0))
      have hb := ba_ w13 (.cells #[.int .i64 rl, .int .i64 rh] 27 (0, 0))
      replace BKge := kb_ BKge hb
      replace HB := bs_ HB hb
      clear hb
      generalize w13.alloc (.cells #[.int .i64 rl, .int .i64 rh] 27 (0, 0)) = w14 at BKgf BKge HB ⊢
      generalize w13.heap.size = gf at BKgf ⊢
      obtain ⟨Oge_0, Oge_1⟩ := c2_ BKge
      go_wp2_with fail
      refine (vessel_After.calls A0 c0 l0 zh m sl sh 0 _ (kc_ HR0 HB) HC0.out B3.out).mono ?_
      rintro e w15 ⟨rfl, hb⟩
      replace hb := nb_ HB hb
      replace BKge := kb_ BKge hb
      replace BKgf := kb_ BKgf hb
      replace HB := bs_ HB hb
      clear Oge_0 Oge_1
      obtain ⟨Oge_0, Oge_1⟩ := c2_ BKge
      clear hb
      go_upto_region 17 with (fail)
      clear Oge_0 Oge_1
      have BKgg := nw_ w15 (.cells #[.int .i64 sl, .int .i64 sh] 27 (0, 0))
      have hb := ba_ w15 (.cells #[.int .i64 sl, .int .i64 sh] 27 (0, 0))
      replace BKge := kb_ BKge hb
      replace BKgf := kb_ BKgf hb
      replace HB := bs_ HB hb
      clear hb
      generalize w15.alloc (.cells #[.int .i64 sl, .int .i64 sh] 27 (0, 0)) = w16 at BKgg BKge BKgf HB ⊢
      generalize w15.heap.size = gg at BKgg ⊢
      obtain ⟨Ogf_0, Ogf_1⟩ := c2_ BKgf
      obtain ⟨Ogg_0, Ogg_1⟩ := c2_ BKgg
      go_upto_region 21 with (fail)
      clear Ogf_0 Ogf_1 Ogg_0 Ogg_1
      clear BKge
      clear BKgf
      clear BKgg
      rcases HSK.out with hab | ⟨hab, hbc | ⟨hbc, il, ih, jl, jh, kl, kh, s1, s2, s3, t1, t2, u1, u2, u3, u4, u5, u6, u7, u8⟩⟩
      · clear HSK
        have d3 : decide (a < b) = true := decide_eq_true (by omega)
        go_wp2
        go_ret
        exact ⟨by first | rfl | (simp; done), by first | exact HB.out | exact fb_ HB⟩
      · clear HSK
        have d3 : decide (a < b) = false := decide_eq_false (by omega)
        have d4 : decide (b < c) = true := decide_eq_true (by omega)
        go_wp2
        go_ret
        exact ⟨by first | rfl | (simp; done), by first | exact HB.out | exact fb_ HB⟩
      · clear HSK
        have d3 : decide (a < b) = false := decide_eq_false (by omega)
        have d4 : decide (b < c) = false := decide_eq_false (by omega)
        have S1 : Aside0 (vessel_Sinking.f l0 a b = some (il, ih, 0)) := ⟨congrArg some s1⟩
        have S2 : Aside0 (vessel_Sinking.f l0 b c = some (jl, jh, 0)) := ⟨congrArg some s2⟩
        have S3 : Aside0 (vessel_Sinking.f l0 a c = some (kl, kh, 0)) := ⟨congrArg some s3⟩
        have e1 : wrap64 (il + jl) = il + jl := by unfold wrap64; omega
        have e2 : wrap64 (ih + jh) = ih + jh := by unfold wrap64; omega
        have d5 : decide (il + jl ≤ kl) = true := decide_eq_true (by omega)
        have d6 : decide (kh ≤ ih + jh) = true := decide_eq_true (by omega)
        clear s1 s2 s3 t1 t2 u1 u2 u3 u4 u5 u6 u7 u8
        go_wp2_with fail
        refine (vessel_Sinking.calls A0 c0 l0 a b il ih 0 _ (kc_ HR0 HB) HC0.out S1.out).mono ?_
        rintro e w17 ⟨rfl, hb⟩
        replace hb := nb_ HB hb
        replace HB := bs_ HB hb
        clear hb
        go_upto_region 24 with (fail)
        have BKgh := nw_ w17 (.cells #[.int .i64 il, .int .i64 ih] 27 (0, 0))
        have hb := ba_ w17 (.cells #[.int .i64 il, .int .i64 ih] 27 (0, 0))
        replace HB := bs_ HB hb
        clear hb
        generalize w17.alloc (.cells #[.int .i64 il, .int .i64 ih] 27 (0, 0)) = w18 at BKgh HB ⊢
        generalize w17.heap.size = gh at BKgh ⊢
        go_wp2_with fail
        refine (vessel_Sinking.calls A0 c0 l0 b c jl jh 0 _ (kc_ HR0 HB) HC0.out S2.out).mono ?_
        rintro e w19 ⟨rfl, hb⟩
        replace hb := nb_ HB hb
        replace BKgh := kb_ BKgh hb
        replace HB := bs_ HB hb
        clear hb
        go_upto_region 25 with (fail)
        have BKgi := nw_ w19 (.cells #[.int .i64 jl, .int .i64 jh] 27 (0, 0))
        have hb := ba_ w19 (.cells #[.int .i64 jl, .int .i64 jh] 27 (0, 0))
        replace BKgh := kb_ BKgh hb
        replace HB := bs_ HB hb
        clear hb
        generalize w19.alloc (.cells #[.int .i64 jl, .int .i64 jh] 27 (0, 0)) = w20 at BKgi BKgh HB ⊢
        generalize w19.heap.size = gi at BKgi ⊢
        go_wp2_with fail
        refine (vessel_Sinking.calls A0 c0 l0 a c kl kh 0 _ (kc_ HR0 HB) HC0.out S3.out).mono ?_
        rintro e w21 ⟨rfl, hb⟩
        replace hb := nb_ HB hb
        replace BKgh := kb_ BKgh hb
        replace BKgi := kb_ BKgi hb
        replace HB := bs_ HB hb
        clear hb
        go_upto_region 26 with (fail)
        have BKgj := nw_ w21 (.cells #[.int .i64 kl, .int .i64 kh] 27 (0, 0))
        have hb := ba_ w21 (.cells #[.int .i64 kl, .int .i64 kh] 27 (0, 0))
        replace BKgh := kb_ BKgh hb
        replace BKgi := kb_ BKgi hb
        replace HB := bs_ HB hb
        clear hb
        generalize w21.alloc (.cells #[.int .i64 kl, .int .i64 kh] 27 (0, 0)) = w22 at BKgj BKgh BKgi HB ⊢
        generalize w21.heap.size = gj at BKgj ⊢
        obtain ⟨Ogh_0, Ogh_1⟩ := c2_ BKgh
        obtain ⟨Ogi_0, Ogi_1⟩ := c2_ BKgi
        obtain ⟨Ogj_0, Ogj_1⟩ := c2_ BKgj
        go_wp2
        go_ret
        exact ⟨by first | rfl | (simp; done), by first | exact HB.out | exact fb_ HB⟩
end Go.Proofs.Ytlhfclpbodfmcaa.Pr
