/- A part of the proof: LwE. -/
import Derived.Test.YtlhfclpbodfmcaaYEWWords
import Derived.Test.YtlhfclpbodfmcaaYEPr0
import Derived.Test.YtlhfclpbodfmcaaXLb
import Derived.Test.YtlhfclpbodfmcaaXRt
import Derived.Test.YtlhfclpbodfmcaaXSn
namespace Go.Proofs.Ytlhfclpbodfmcaa.Pr
open Go.RowKit Go.Proofs.YtlhfclpbodfmcaaW.PrintWords Go.Proofs.YtlhfclpbodfmcaaW.PrintLast Go.Proofs.YtlhfclpbodfmcaaW.PrintMore
open Go.Proofs.Ytlhfclpbodfmcaa.Vm
set_option linter.unusedVariables false
set_option linter.unusedSimpArgs false
set_option maxHeartbeats 1600000 in
set_option maxRecDepth 100000 in
theorem alike.walk (A0 : Option Addr) (c0 : Nat) (l0 : List S79) (a b m s1 s2 f1 f2 r1 r2 : Int) (ga gb gm gs gf gr : Nat) (w : World) (hr0 : Kd.C k79 w A0 l0.length l0) (hc0 : l0.length ≤ c0) (hal : AlikeS l0 a b m s1 s2 f1 f2 r1 r2) (kga : w.heap[ga]? = some (.cells #[.int .i64 a] 3 (0, 0))) (kgb : w.heap[gb]? = some (.cells #[.int .i64 b] 3 (0, 0))) (kgm : w.heap[gm]? = some (.cells #[.int .i64 m] 3 (0, 0))) (kgs : w.heap[gs]? = some (.cells #[.int .i64 s1, .int .i64 s2] 27 (0, 0))) (kgf : w.heap[gf]? = some (.cells #[.int .i64 f1, .int .i64 f2] 27 (0, 0))) (kgr : w.heap[gr]? = some (.cells #[.int .i64 r1, .int .i64 r2] 27 (0, 0))) :
    Calls Try.prog 68 #[.slice A0 l0.length c0, .pointer (some ⟨ga, 0, none⟩), .pointer (some ⟨gb, 0, none⟩), .pointer (some ⟨gm, 0, none⟩), .pointer (some ⟨gs, 0, none⟩), .pointer (some ⟨gf, 0, none⟩), .pointer (some ⟨gr, 0, none⟩)] w fun e w' => e = .returned (.bool true) ∧ Below w.heap.size w w' := by
  have hu27 := Try.underlying27
  have HR0 := Aside0.mk hr0
  have HC0 := Aside0.mk hc0
  have HB := Aside0.mk (Below.refl w.heap.size w)
  obtain ⟨h1, h2, h3⟩ := hal
  have S1 : Aside0 (vessel_Sinking.f l0 a b = some (s1, s2, 0)) := ⟨congrArg some h1⟩
  have S2 : Aside0 (vessel_After.f l0 a m = some (f1, f2, 0)) := ⟨congrArg some h2⟩
  have S3 : Aside0 (vessel_Run.f l0 a m = some (r1, r2, 0)) := ⟨congrArg some h3⟩
  clear hr0 hc0 h1 h2 h3
  have BKga := Aside0.mk kga
  clear kga
  have BKgb := Aside0.mk kgb
  clear kgb
  have BKgm := Aside0.mk kgm
  clear kgm
  have BKgs := Aside0.mk kgs
  clear kgs
  have BKgf := Aside0.mk kgf
  clear kgf
  have BKgr := Aside0.mk kgr
  clear kgr
  have Oga_0 := c1_ BKga
  have Ogb_0 := c1_ BKgb
  have Ogm_0 := c1_ BKgm
  go_enter Try.func68, Try.ntmps68
  go_wp2_with fail
  refine (vessel_Sinking.calls A0 c0 l0 a b s1 s2 0 _ (kc_ HR0 HB) HC0.out S1.out).mono ?_
  rintro e w1 ⟨rfl, hb⟩
  replace hb := nb_ HB hb
  replace BKga := kb_ BKga hb
  replace BKgb := kb_ BKgb hb
  replace BKgm := kb_ BKgm hb
  replace BKgs := kb_ BKgs hb
  replace BKgf := kb_ BKgf hb
  replace BKgr := kb_ BKgr hb
  replace HB := bs_ HB hb
  clear Oga_0 Ogb_0 Ogm_0
  have Oga_0 := c1_ BKga
  have Ogb_0 := c1_ BKgb
  have Ogm_0 := c1_ BKgm
  clear hb
  go_upto_region 2 with (fail)
  clear Oga_0 Ogb_0 Ogm_0
  have BKgx := nw_ w1 (.cells #[.int .i64 s1, .int .i64 s2] 27 (0, 0))
  have hb := ba_ w1 (.cells #[.int .i64 s1, .int .i64 s2] 27 (0, 0))
  replace BKga := kb_ BKga hb
  replace BKgb := kb_ BKgb hb
  replace BKgm := kb_ BKgm hb
  replace BKgs := kb_ BKgs hb
  replace BKgf := kb_ BKgf hb
  replace BKgr := kb_ BKgr hb
  replace HB := bs_ HB hb
  clear hb
  generalize w1.alloc (.cells #[.int .i64 s1, .int .i64 s2] 27 (0, 0)) = w2 at BKgx BKga BKgb BKgm BKgs BKgf BKgr HB ⊢
  generalize w1.heap.size = gx at BKgx ⊢
  have Oga_0 := c1_ BKga
  have Ogb_0 := c1_ BKgb
  have Ogm_0 := c1_ BKgm
  go_wp2_with fail
  refine (vessel_After.calls A0 c0 l0 a m f1 f2 0 _ (kc_ HR0 HB) HC0.out S2.out).mono ?_
  rintro e w3 ⟨rfl, hb⟩
  replace hb := nb_ HB hb
  replace BKga := kb_ BKga hb
  replace BKgb := kb_ BKgb hb
  replace BKgm := kb_ BKgm hb
  replace BKgs := kb_ BKgs hb
  replace BKgf := kb_ BKgf hb
  replace BKgr := kb_ BKgr hb
  replace BKgx := kb_ BKgx hb
  replace HB := bs_ HB hb
  clear Oga_0 Ogb_0 Ogm_0
  have Oga_0 := c1_ BKga
  have Ogb_0 := c1_ BKgb
  have Ogm_0 := c1_ BKgm
  clear hb
  go_upto_region 3 with (fail)
  clear Oga_0 Ogb_0 Ogm_0
  have BKgy := nw_ w3 (.cells #[.int .i64 f1, .int .i64 f2] 27 (0, 0))
  have hb := ba_ w3 (.cells #[.int .i64 f1, .int .i64 f2] 27 (0, 0))
  replace BKga := kb_ BKga hb
  replace BKgb := kb_ BKgb hb
  replace BKgm := kb_ BKgm hb
  replace BKgs := kb_ BKgs hb
  replace BKgf := kb_ BKgf hb
  replace BKgr := kb_ BKgr hb
  replace BKgx := kb_ BKgx hb
  replace HB := bs_ HB hb
  clear hb
  generalize w3.alloc (.cells #[.int .i64 f1, .int .i64 f2] 27 (0, 0)) = w4 at BKgy BKga BKgb BKgm BKgs BKgf BKgr BKgx HB ⊢
  generalize w3.heap.size = gy at BKgy ⊢
  have Oga_0 := c1_ BKga
  have Ogb_0 := c1_ BKgb
  have Ogm_0 := c1_ BKgm
  go_wp2_with fail
  refine (vessel_Run.calls A0 c0 l0 a m r1 r2 0 _ (kc_ HR0 HB) HC0.out S3.out).mono ?_
  rintro e w5 ⟨rfl, hb⟩
  replace hb := nb_ HB hb
  replace BKga := kb_ BKga hb
  replace BKgb := kb_ BKgb hb
  replace BKgm := kb_ BKgm hb
  replace BKgs := kb_ BKgs hb
  replace BKgf := kb_ BKgf hb
  replace BKgr := kb_ BKgr hb
  replace BKgx := kb_ BKgx hb
  replace BKgy := kb_ BKgy hb
  replace HB := bs_ HB hb
  clear Oga_0 Ogb_0 Ogm_0
  have Oga_0 := c1_ BKga
  have Ogb_0 := c1_ BKgb
  have Ogm_0 := c1_ BKgm
  clear hb
  go_upto_region 4 with (fail)
  clear Oga_0 Ogb_0 Ogm_0
  have BKgz := nw_ w5 (.cells #[.int .i64 r1, .int .i64 r2] 27 (0, 0))
  have hb := ba_ w5 (.cells #[.int .i64 r1, .int .i64 r2] 27 (0, 0))
  replace BKga := kb_ BKga hb
  replace BKgb := kb_ BKgb hb
  replace BKgm := kb_ BKgm hb
  replace BKgs := kb_ BKgs hb
  replace BKgf := kb_ BKgf hb
  replace BKgr := kb_ BKgr hb
  replace BKgx := kb_ BKgx hb
  replace BKgy := kb_ BKgy hb
  replace HB := bs_ HB hb
  clear hb
  generalize w5.alloc (.cells #[.int .i64 r1, .int .i64 r2] 27 (0, 0)) = w6 at BKgz BKga BKgb BKgm BKgs BKgf BKgr BKgx BKgy HB ⊢
  generalize w5.heap.size = gz at BKgz ⊢
  obtain ⟨Ogx_0, Ogx_1⟩ := c2_ BKgx
  obtain ⟨Ogy_0, Ogy_1⟩ := c2_ BKgy
  obtain ⟨Ogz_0, Ogz_1⟩ := c2_ BKgz
  obtain ⟨Ogs_0, Ogs_1⟩ := c2_ BKgs
  obtain ⟨Ogf_0, Ogf_1⟩ := c2_ BKgf
  obtain ⟨Ogr_0, Ogr_1⟩ := c2_ BKgr
  go_wp2
  go_ret
  exact ⟨by first | rfl | (simp; done), by first | exact HB.out | exact fb_ HB⟩
set_option maxHeartbeats 1600000 in
set_option maxRecDepth 100000 in
theorem same.walk (A0 : Option Addr) (c0 : Nat) (l0 : List S79) (A1 : Option Addr) (c1 : Nat) (l1 : List S79) (lv a b m : Int) (w : World) (hr0 : Kd.C k79 w A0 l0.length l0) (hc0 : l0.length ≤ c0) (hr1 : Kd.C k79 w A1 l1.length l1) (hc1 : l1.length ≤ c1) :
    Calls Try.prog 17 #[.slice A0 l0.length c0, .slice A1 l1.length c1, .int .i64 lv, .int .i64 a, .int .i64 b, .int .i64 m] w fun e w' => e = .returned (.bool true) ∧ Below w.heap.size w w' := by
  have hu27 := Try.underlying27
  have HR0 := Aside0.mk hr0
  have HC0 := Aside0.mk hc0
  have HR1 := Aside0.mk hr1
  have HC1 := Aside0.mk hc1
  clear hr0 hc0 hr1 hc1
  have HB := Aside0.mk (Below.refl w.heap.size w)
  cases hR : rightB l0 [m] [a, b] with
  | false =>
    have HRT : Aside0 (waterhourlaw02_right.f l0 [m] [a, b] = some false) := ⟨by simp [waterhourlaw02_right.f, hR]⟩
    clear hR
    go_enter Try.func17, Try.ntmps17
    go_wp2_with (first | ((with_reducible refine gate_dst (N := 9) rfl ?_); refine bx_ 9 #[.int .i64 a] 3 ?_; intro ga hg x1 hbox hb; have GEga := ge_ hg HB; replace hb := nb_ HB hb; replace HB := bs_ HB hb; have BKga := Aside0.mk hbox; clear hb hbox hg) | ((with_reducible refine gate_dst (N := 10) rfl ?_); refine bx_ 10 #[.int .i64 b] 3 ?_; intro gb hg x2 hbox hb; have GEgb := ge_ hg HB; have NEga_gb := ne_ hg BKga; replace hb := nb_ HB hb; replace BKga := kb_ BKga hb; replace HB := bs_ HB hb; have BKgb := Aside0.mk hbox; clear hb hbox hg) | ((with_reducible refine gate_dst (N := 11) rfl ?_); refine bx_ 11 #[.int .i64 m] 3 ?_; intro gm hg x3 hbox hb; have GEgm := ge_ hg HB; have NEga_gm := ne_ hg BKga; have NEgb_gm := ne_ hg BKgb; replace hb := nb_ HB hb; replace BKga := kb_ BKga hb; replace BKgb := kb_ BKgb hb; replace HB := bs_ HB hb; have BKgm := Aside0.mk hbox; clear hb hbox hg))
    have Oga_0 := c1_ BKga
    have Ogb_0 := c1_ BKgb
    have Ogm_0 := c1_ BKgm
    refine (waterhourlaw02_sane.calls true _ rfl).mono ?_
    rintro e w1 ⟨rfl, hb⟩
    replace hb := nb_ HB hb
    replace BKga := kb_ BKga hb
    replace BKgb := kb_ BKgb hb
    replace BKgm := kb_ BKgm hb
    replace HB := bs_ HB hb
    clear Oga_0 Ogb_0 Ogm_0
    have Oga_0 := c1_ BKga
    have Ogb_0 := c1_ BKgb
    have Ogm_0 := c1_ BKgm
    clear hb
    have P1 := pw_cell_below (ba_ w1 (.cells #[.int .i64 m] 3 (0, 0))) Oga_0
    have P2 := pw_cell_below (ba_ w1 (.cells #[.int .i64 m] 3 (0, 0))) Ogb_0
    go_wp2_with fail
    have K1 : Kd.C (Kd.int .i64) ((w1.alloc (.cells #[.int .i64 m] 3 (0, 0))).alloc (.cells #[.int .i64 a, .int .i64 b] 3 (0, 0))) (some ⟨w1.heap.size, 0, none⟩) 1 [m] := Kd.C_below (litJ w1 [m] (by simp)) (ba_ _ _)
    have K2 : Kd.C (Kd.int .i64) ((w1.alloc (.cells #[.int .i64 m] 3 (0, 0))).alloc (.cells #[.int .i64 a, .int .i64 b] 3 (0, 0))) (some ⟨w1.heap.size + 1, 0, none⟩) 2 [a, b] := by have h2 := litJ (w1.alloc (.cells #[.int .i64 m] 3 (0, 0))) [a, b] (by simp); rwa [World.size_alloc] at h2
    refine (waterhourlaw02_right.calls A0 c0 l0 _ 1 [m] _ 2 [a, b] false _ (Kd.C_below (kc_ HR0 HB) (below_alloc (ba_ _ _) _)) HC0.out K1 (Nat.le_refl _) K2 (Nat.le_refl _) HRT.out).mono ?_
    rintro e w2 ⟨rfl, hb⟩
    replace hb := below_step (below_alloc (below_alloc (Below.refl _ w1) _) _) hb
    replace hb := nb_ HB hb
    replace BKga := kb_ BKga hb
    replace BKgb := kb_ BKgb hb
    replace BKgm := kb_ BKgm hb
    replace HB := bs_ HB hb
    clear Oga_0 Ogb_0 Ogm_0
    have Oga_0 := c1_ BKga
    have Ogb_0 := c1_ BKgb
    have Ogm_0 := c1_ BKgm
    clear hb
    clear K1 K2
    clear P1 P2
    go_wp2
    go_ret
    exact ⟨by first | rfl | (simp; done), by first | exact HB.out | exact fb_ HB⟩
  | true =>
    have HRT : Aside0 (waterhourlaw02_right.f l0 [m] [a, b] = some true) := ⟨by simp [waterhourlaw02_right.f, hR]⟩
    by_cases hab : a < b
    · clear hR
      have d1 : decide (a < b) = true := decide_eq_true (by omega)
      go_enter Try.func17, Try.ntmps17
      go_wp2_with (first | ((with_reducible refine gate_dst (N := 9) rfl ?_); refine bx_ 9 #[.int .i64 a] 3 ?_; intro ga hg x1 hbox hb; have GEga := ge_ hg HB; replace hb := nb_ HB hb; replace HB := bs_ HB hb; have BKga := Aside0.mk hbox; clear hb hbox hg) | ((with_reducible refine gate_dst (N := 10) rfl ?_); refine bx_ 10 #[.int .i64 b] 3 ?_; intro gb hg x2 hbox hb; have GEgb := ge_ hg HB; have NEga_gb := ne_ hg BKga; replace hb := nb_ HB hb; replace BKga := kb_ BKga hb; replace HB := bs_ HB hb; have BKgb := Aside0.mk hbox; clear hb hbox hg) | ((with_reducible refine gate_dst (N := 11) rfl ?_); refine bx_ 11 #[.int .i64 m] 3 ?_; intro gm hg x3 hbox hb; have GEgm := ge_ hg HB; have NEga_gm := ne_ hg BKga; have NEgb_gm := ne_ hg BKgb; replace hb := nb_ HB hb; replace BKga := kb_ BKga hb; replace BKgb := kb_ BKgb hb; replace HB := bs_ HB hb; have BKgm := Aside0.mk hbox; clear hb hbox hg))
      have Oga_0 := c1_ BKga
      have Ogb_0 := c1_ BKgb
      have Ogm_0 := c1_ BKgm
      refine (waterhourlaw02_sane.calls true _ rfl).mono ?_
      rintro e w1 ⟨rfl, hb⟩
      replace hb := nb_ HB hb
      replace BKga := kb_ BKga hb
      replace BKgb := kb_ BKgb hb
      replace BKgm := kb_ BKgm hb
      replace HB := bs_ HB hb
      clear Oga_0 Ogb_0 Ogm_0
      have Oga_0 := c1_ BKga
      have Ogb_0 := c1_ BKgb
      have Ogm_0 := c1_ BKgm
      clear hb
      have P1 := pw_cell_below (ba_ w1 (.cells #[.int .i64 m] 3 (0, 0))) Oga_0
      have P2 := pw_cell_below (ba_ w1 (.cells #[.int .i64 m] 3 (0, 0))) Ogb_0
      go_wp2_with fail
      have K1 : Kd.C (Kd.int .i64) ((w1.alloc (.cells #[.int .i64 m] 3 (0, 0))).alloc (.cells #[.int .i64 a, .int .i64 b] 3 (0, 0))) (some ⟨w1.heap.size, 0, none⟩) 1 [m] := Kd.C_below (litJ w1 [m] (by simp)) (ba_ _ _)
      have K2 : Kd.C (Kd.int .i64) ((w1.alloc (.cells #[.int .i64 m] 3 (0, 0))).alloc (.cells #[.int .i64 a, .int .i64 b] 3 (0, 0))) (some ⟨w1.heap.size + 1, 0, none⟩) 2 [a, b] := by have h2 := litJ (w1.alloc (.cells #[.int .i64 m] 3 (0, 0))) [a, b] (by simp); rwa [World.size_alloc] at h2
      refine (waterhourlaw02_right.calls A0 c0 l0 _ 1 [m] _ 2 [a, b] true _ (Kd.C_below (kc_ HR0 HB) (below_alloc (ba_ _ _) _)) HC0.out K1 (Nat.le_refl _) K2 (Nat.le_refl _) HRT.out).mono ?_
      rintro e w2 ⟨rfl, hb⟩
      replace hb := below_step (below_alloc (below_alloc (Below.refl _ w1) _) _) hb
      replace hb := nb_ HB hb
      replace BKga := kb_ BKga hb
      replace BKgb := kb_ BKgb hb
      replace BKgm := kb_ BKgm hb
      replace HB := bs_ HB hb
      clear Oga_0 Ogb_0 Ogm_0
      have Oga_0 := c1_ BKga
      have Ogb_0 := c1_ BKgb
      have Ogm_0 := c1_ BKgm
      clear hb
      clear K1 K2
      clear P1 P2
      go_wp2
      go_ret
      exact ⟨by first | rfl | (simp; done), by first | exact HB.out | exact fb_ HB⟩
    · cases hF : [l1].all fewB with
      | false =>
        have HF : Aside0 (waterhourlaw02_few.f [l1] = some false) := ⟨by simp only [waterhourlaw02_few.f, hF]; rfl⟩
        clear hF hR
        have d1 : decide (a < b) = false := decide_eq_false (by omega)
        go_enter Try.func17, Try.ntmps17
        go_wp2_with (first | ((with_reducible refine gate_dst (N := 9) rfl ?_); refine bx_ 9 #[.int .i64 a] 3 ?_; intro ga hg x1 hbox hb; have GEga := ge_ hg HB; replace hb := nb_ HB hb; replace HB := bs_ HB hb; have BKga := Aside0.mk hbox; clear hb hbox hg) | ((with_reducible refine gate_dst (N := 10) rfl ?_); refine bx_ 10 #[.int .i64 b] 3 ?_; intro gb hg x2 hbox hb; have GEgb := ge_ hg HB; have NEga_gb := ne_ hg BKga; replace hb := nb_ HB hb; replace BKga := kb_ BKga hb; replace HB := bs_ HB hb; have BKgb := Aside0.mk hbox; clear hb hbox hg) | ((with_reducible refine gate_dst (N := 11) rfl ?_); refine bx_ 11 #[.int .i64 m] 3 ?_; intro gm hg x3 hbox hb; have GEgm := ge_ hg HB; have NEga_gm := ne_ hg BKga; have NEgb_gm := ne_ hg BKgb; replace hb := nb_ HB hb; replace BKga := kb_ BKga hb; replace BKgb := kb_ BKgb hb; replace HB := bs_ HB hb; have BKgm := Aside0.mk hbox; clear hb hbox hg))
        have Oga_0 := c1_ BKga
        have Ogb_0 := c1_ BKgb
        have Ogm_0 := c1_ BKgm
        refine (waterhourlaw02_sane.calls true _ rfl).mono ?_
        rintro e w1 ⟨rfl, hb⟩
        replace hb := nb_ HB hb
        replace BKga := kb_ BKga hb
        replace BKgb := kb_ BKgb hb
        replace BKgm := kb_ BKgm hb
        replace HB := bs_ HB hb
        clear Oga_0 Ogb_0 Ogm_0
        have Oga_0 := c1_ BKga
        have Ogb_0 := c1_ BKgb
        have Ogm_0 := c1_ BKgm
        clear hb
        have P1 := pw_cell_below (ba_ w1 (.cells #[.int .i64 m] 3 (0, 0))) Oga_0
        have P2 := pw_cell_below (ba_ w1 (.cells #[.int .i64 m] 3 (0, 0))) Ogb_0
        go_wp2_with fail
        have K1 : Kd.C (Kd.int .i64) ((w1.alloc (.cells #[.int .i64 m] 3 (0, 0))).alloc (.cells #[.int .i64 a, .int .i64 b] 3 (0, 0))) (some ⟨w1.heap.size, 0, none⟩) 1 [m] := Kd.C_below (litJ w1 [m] (by simp)) (ba_ _ _)
        have K2 : Kd.C (Kd.int .i64) ((w1.alloc (.cells #[.int .i64 m] 3 (0, 0))).alloc (.cells #[.int .i64 a, .int .i64 b] 3 (0, 0))) (some ⟨w1.heap.size + 1, 0, none⟩) 2 [a, b] := by have h2 := litJ (w1.alloc (.cells #[.int .i64 m] 3 (0, 0))) [a, b] (by simp); rwa [World.size_alloc] at h2
        refine (waterhourlaw02_right.calls A0 c0 l0 _ 1 [m] _ 2 [a, b] true _ (Kd.C_below (kc_ HR0 HB) (below_alloc (ba_ _ _) _)) HC0.out K1 (Nat.le_refl _) K2 (Nat.le_refl _) HRT.out).mono ?_
        rintro e w2 ⟨rfl, hb⟩
        replace hb := below_step (below_alloc (below_alloc (Below.refl _ w1) _) _) hb
        replace hb := nb_ HB hb
        replace BKga := kb_ BKga hb
        replace BKgb := kb_ BKgb hb
        replace BKgm := kb_ BKgm hb
        replace HB := bs_ HB hb
        clear Oga_0 Ogb_0 Ogm_0
        have Oga_0 := c1_ BKga
        have Ogb_0 := c1_ BKgb
        have Ogm_0 := c1_ BKgm
        clear hb
        clear K1 K2
        clear P1 P2
        go_wp2_with fail
        refine (waterhourlaw02_few.calls _ 1 [l1] false _ (litL (kc_ HR1 HB) HC1.out) (by simp) HF.out).mono ?_
        rintro e w3 ⟨rfl, hb⟩
        replace hb := below_step (below_alloc (Below.refl _ w2) _) hb
        replace hb := nb_ HB hb
        replace BKga := kb_ BKga hb
        replace BKgb := kb_ BKgb hb
        replace BKgm := kb_ BKgm hb
        replace HB := bs_ HB hb
        clear Oga_0 Ogb_0 Ogm_0
        have Oga_0 := c1_ BKga
        have Ogb_0 := c1_ BKgb
        have Ogm_0 := c1_ BKgm
        clear hb
        go_wp2
        go_ret
        exact ⟨by first | rfl | (simp; done), by first | exact HB.out | exact fb_ HB⟩
      | true =>
        have HF : Aside0 (waterhourlaw02_few.f [l1] = some true) := ⟨by simp only [waterhourlaw02_few.f, hF]; rfl⟩
        clear hF
        obtain ⟨s1, s2, f1, f2, r1, r2, u, cu, su, ce, se, h0, g1, g2, g3, g4, g5, g6, g7, g8, g9⟩ := same_says (w := l1) (lv := lv) hR (by omega)
        clear hR
        have d1 : decide (a < b) = false := decide_eq_false (by omega)
        have S1 : Aside0 (vessel_Sinking.f l0 a b = some (s1, s2, 0)) := ⟨congrArg some h0.1⟩
        have S2 : Aside0 (vessel_After.f l0 a m = some (f1, f2, 0)) := ⟨congrArg some h0.2.1⟩
        have S3 : Aside0 (vessel_Run.f l0 a m = some (r1, r2, 0)) := ⟨congrArg some h0.2.2⟩
        have HMV : Aside0 (∀ W A c, Kd.C k79 W A l0.length l0 → l0.length ≤ c → Calls Try.prog 64 #[.slice A l0.length c] W fun e w' => ∃ v0_ : Value, e = .returned (.tuple #[v0_, .int .i64 0]) ∧ Kd.R k79 79 w' W.heap.size (fun _ => True) v0_ u ∧ Below W.heap.size W w') := ⟨fun W A c hC hc => by have h := vessel_Merged.calls A c l0 W hC hc; rw [g1] at h; exact h⟩
        have HMU : Aside0 (∀ W A c, Kd.C k79 W A u.length u → u.length ≤ c → Calls Try.prog 64 #[.slice A u.length c] W fun e w' => ∃ v0_ : Value, e = .returned (.tuple #[v0_, .int .i64 0]) ∧ Kd.R k79 79 w' W.heap.size (fun _ => True) v0_ u ∧ Below W.heap.size W w') := ⟨fun W A c hC hc => by have h := vessel_Merged.calls A c u W hC hc; rw [g2] at h; exact h⟩
        have HLu := Aside0.mk g4
        have HAU := Aside0.mk g5
        have HCU : Aside0 (vessel_Cut.f l0 lv = some (cu, ce)) := ⟨congrArg some g6⟩
        have HCX := Aside0.mk g7
        have HSU : Aside0 (∀ W, Below w.heap.size w W → Calls Try.prog 60 #[.slice A0 l0.length c0, .slice A1 l1.length c1] W fun e w' => ∃ v0_ : Value, e = .returned (.tuple #[v0_, .int .i64 se]) ∧ Kd.R k79 79 w' W.heap.size (fun _ => True) v0_ su ∧ Below W.heap.size W w') := ⟨fun W hB => by have h := vessel_Stacked.calls A0 c0 l0 A1 c1 l1 W (Kd.C_below HR0.out hB) HC0.out (Kd.C_below HR1.out hB) HC1.out; rw [g8] at h; exact h⟩
        have HSX := Aside0.mk g9
        have dl : decide ((l0.length : Int) < (u.length : Int)) = false := decide_eq_false (by omega)
        have dl2 : decide (l0.length < u.length) = false := decide_eq_false (by omega)
        clear h0 g1 g2 g3 g4 g5 g6 g7 g8 g9 hab
        go_enter Try.func17, Try.ntmps17
        go_wp2_with (first | ((with_reducible refine gate_dst (N := 9) rfl ?_); refine bx_ 9 #[.int .i64 a] 3 ?_; intro ga hg x1 hbox hb; have GEga := ge_ hg HB; replace hb := nb_ HB hb; replace HB := bs_ HB hb; have BKga := Aside0.mk hbox; clear hb hbox hg) | ((with_reducible refine gate_dst (N := 10) rfl ?_); refine bx_ 10 #[.int .i64 b] 3 ?_; intro gb hg x2 hbox hb; have GEgb := ge_ hg HB; have NEga_gb := ne_ hg BKga; replace hb := nb_ HB hb; replace BKga := kb_ BKga hb; replace HB := bs_ HB hb; have BKgb := Aside0.mk hbox; clear hb hbox hg) | ((with_reducible refine gate_dst (N := 11) rfl ?_); refine bx_ 11 #[.int .i64 m] 3 ?_; intro gm hg x3 hbox hb; have GEgm := ge_ hg HB; have NEga_gm := ne_ hg BKga; have NEgb_gm := ne_ hg BKgb; replace hb := nb_ HB hb; replace BKga := kb_ BKga hb; replace BKgb := kb_ BKgb hb; replace HB := bs_ HB hb; have BKgm := Aside0.mk hbox; clear hb hbox hg))
        have Oga_0 := c1_ BKga
        have Ogb_0 := c1_ BKgb
        have Ogm_0 := c1_ BKgm
        refine (waterhourlaw02_sane.calls true _ rfl).mono ?_
        rintro e w1 ⟨rfl, hb⟩
        replace hb := nb_ HB hb
        replace BKga := kb_ BKga hb
        replace BKgb := kb_ BKgb hb
        replace BKgm := kb_ BKgm hb
        replace HB := bs_ HB hb
        clear Oga_0 Ogb_0 Ogm_0
        have Oga_0 := c1_ BKga
        have Ogb_0 := c1_ BKgb
        have Ogm_0 := c1_ BKgm
        clear hb
        have P1 := pw_cell_below (ba_ w1 (.cells #[.int .i64 m] 3 (0, 0))) Oga_0
        have P2 := pw_cell_below (ba_ w1 (.cells #[.int .i64 m] 3 (0, 0))) Ogb_0
        go_wp2_with fail
        have K1 : Kd.C (Kd.int .i64) ((w1.alloc (.cells #[.int .i64 m] 3 (0, 0))).alloc (.cells #[.int .i64 a, .int .i64 b] 3 (0, 0))) (some ⟨w1.heap.size, 0, none⟩) 1 [m] := Kd.C_below (litJ w1 [m] (by simp)) (ba_ _ _)
        have K2 : Kd.C (Kd.int .i64) ((w1.alloc (.cells #[.int .i64 m] 3 (0, 0))).alloc (.cells #[.int .i64 a, .int .i64 b] 3 (0, 0))) (some ⟨w1.heap.size + 1, 0, none⟩) 2 [a, b] := by have h2 := litJ (w1.alloc (.cells #[.int .i64 m] 3 (0, 0))) [a, b] (by simp); rwa [World.size_alloc] at h2
        refine (waterhourlaw02_right.calls A0 c0 l0 _ 1 [m] _ 2 [a, b] true _ (Kd.C_below (kc_ HR0 HB) (below_alloc (ba_ _ _) _)) HC0.out K1 (Nat.le_refl _) K2 (Nat.le_refl _) HRT.out).mono ?_
        rintro e w2 ⟨rfl, hb⟩
        replace hb := below_step (below_alloc (below_alloc (Below.refl _ w1) _) _) hb
        replace hb := nb_ HB hb
        replace BKga := kb_ BKga hb
        replace BKgb := kb_ BKgb hb
        replace BKgm := kb_ BKgm hb
        replace HB := bs_ HB hb
        clear Oga_0 Ogb_0 Ogm_0
        have Oga_0 := c1_ BKga
        have Ogb_0 := c1_ BKgb
        have Ogm_0 := c1_ BKgm
        clear hb
        clear K1 K2
        clear P1 P2
        go_wp2_with fail
        refine (waterhourlaw02_few.calls _ 1 [l1] true _ (litL (kc_ HR1 HB) HC1.out) (by simp) HF.out).mono ?_
        rintro e w3 ⟨rfl, hb⟩
        replace hb := below_step (below_alloc (Below.refl _ w2) _) hb
        replace hb := nb_ HB hb
        replace BKga := kb_ BKga hb
        replace BKgb := kb_ BKgb hb
        replace BKgm := kb_ BKgm hb
        replace HB := bs_ HB hb
        clear Oga_0 Ogb_0 Ogm_0
        have Oga_0 := c1_ BKga
        have Ogb_0 := c1_ BKgb
        have Ogm_0 := c1_ BKgm
        clear hb
        go_wp2_with fail
        refine (vessel_Sinking.calls A0 c0 l0 a b s1 s2 0 _ (kc_ HR0 HB) HC0.out S1.out).mono ?_
        rintro e w4 ⟨rfl, hb⟩
        replace hb := nb_ HB hb
        replace BKga := kb_ BKga hb
        replace BKgb := kb_ BKgb hb
        replace BKgm := kb_ BKgm hb
        replace HB := bs_ HB hb
        clear Oga_0 Ogb_0 Ogm_0
        have Oga_0 := c1_ BKga
        have Ogb_0 := c1_ BKgb
        have Ogm_0 := c1_ BKgm
        clear hb
        go_upto_region 6 with (fail)
        clear Oga_0 Ogb_0 Ogm_0
        have BKgs := nw_ w4 (.cells #[.int .i64 s1, .int .i64 s2] 27 (0, 0))
        have hb := ba_ w4 (.cells #[.int .i64 s1, .int .i64 s2] 27 (0, 0))
        replace BKga := kb_ BKga hb
        replace BKgb := kb_ BKgb hb
        replace BKgm := kb_ BKgm hb
        replace HB := bs_ HB hb
        clear hb
        generalize w4.alloc (.cells #[.int .i64 s1, .int .i64 s2] 27 (0, 0)) = w5 at BKgs BKga BKgb BKgm HB ⊢
        generalize w4.heap.size = gs at BKgs ⊢
        have Oga_0 := c1_ BKga
        have Ogb_0 := c1_ BKgb
        have Ogm_0 := c1_ BKgm
        go_wp2_with fail
        refine (vessel_After.calls A0 c0 l0 a m f1 f2 0 _ (kc_ HR0 HB) HC0.out S2.out).mono ?_
        rintro e w6 ⟨rfl, hb⟩
        replace hb := nb_ HB hb
        replace BKga := kb_ BKga hb
        replace BKgb := kb_ BKgb hb
        replace BKgm := kb_ BKgm hb
        replace BKgs := kb_ BKgs hb
        replace HB := bs_ HB hb
        clear Oga_0 Ogb_0 Ogm_0
        have Oga_0 := c1_ BKga
        have Ogb_0 := c1_ BKgb
        have Ogm_0 := c1_ BKgm
        clear hb
        go_upto_region 7 with (fail)
        clear Oga_0 Ogb_0 Ogm_0
        have BKgf := nw_ w6 (.cells #[.int .i64 f1, .int .i64 f2] 27 (0, 0))
        have hb := ba_ w6 (.cells #[.int .i64 f1, .int .i64 f2] 27 (0, 0))
        replace BKga := kb_ BKga hb
        replace BKgb := kb_ BKgb hb
        replace BKgm := kb_ BKgm hb
        replace BKgs := kb_ BKgs hb
        replace HB := bs_ HB hb
        clear hb
        generalize w6.alloc (.cells #[.int .i64 f1, .int .i64 f2] 27 (0, 0)) = w7 at BKgf BKga BKgb BKgm BKgs HB ⊢
        generalize w6.heap.size = gf at BKgf ⊢
        have Oga_0 := c1_ BKga
        have Ogb_0 := c1_ BKgb
        have Ogm_0 := c1_ BKgm
        go_wp2_with fail
        refine (vessel_Run.calls A0 c0 l0 a m r1 r2 0 _ (kc_ HR0 HB) HC0.out S3.out).mono ?_
        rintro e w8 ⟨rfl, hb⟩
        replace hb := nb_ HB hb
        replace BKga := kb_ BKga hb
        replace BKgb := kb_ BKgb hb
        replace BKgm := kb_ BKgm hb
        replace BKgs := kb_ BKgs hb
        replace BKgf := kb_ BKgf hb
        replace HB := bs_ HB hb
        clear Oga_0 Ogb_0 Ogm_0
        have Oga_0 := c1_ BKga
        have Ogb_0 := c1_ BKgb
        have Ogm_0 := c1_ BKgm
        clear hb
        go_upto_region 8 with (fail)
        clear Oga_0 Ogb_0 Ogm_0
        have BKgr := nw_ w8 (.cells #[.int .i64 r1, .int .i64 r2] 27 (0, 0))
        have hb := ba_ w8 (.cells #[.int .i64 r1, .int .i64 r2] 27 (0, 0))
        replace BKga := kb_ BKga hb
        replace BKgb := kb_ BKgb hb
        replace BKgm := kb_ BKgm hb
        replace BKgs := kb_ BKgs hb
        replace BKgf := kb_ BKgf hb
        replace HB := bs_ HB hb
        clear hb
        generalize w8.alloc (.cells #[.int .i64 r1, .int .i64 r2] 27 (0, 0)) = w9 at BKgr BKga BKgb BKgm BKgs BKgf HB ⊢
        generalize w8.heap.size = gr at BKgr ⊢
        have Oga_0 := c1_ BKga
        have Ogb_0 := c1_ BKgb
        have Ogm_0 := c1_ BKgm
        clear S1 S2 S3 d1
        clear Oga_0 Ogb_0 Ogm_0
        go_wp2_with fail
        refine (HMV.out _ A0 c0 (kc_ HR0 HB) HC0.out).mono ?_
        rintro e w10 ⟨v1, rfl, ho, hb⟩
        obtain ⟨A3, c3, rfl, hc1, k1⟩ := Kd.R_reads ho
        have C3 := Aside0.mk hc1
        have KM := Aside0.mk k1
        clear ho hc1 k1
        replace hb := nb_ HB hb
        replace BKga := kb_ BKga hb
        replace BKgb := kb_ BKgb hb
        replace BKgm := kb_ BKgm hb
        replace BKgs := kb_ BKgs hb
        replace BKgf := kb_ BKgf hb
        replace BKgr := kb_ BKgr hb
        replace HB := bs_ HB hb
        clear hb
        go_wp2_with fail
        refine (HMU.out _ A3 c3 KM.out C3.out).mono ?_
        rintro e w11 ⟨v1, rfl, ho, hb⟩
        obtain ⟨A4, c4, rfl, hc1, k1⟩ := Kd.R_reads ho
        have C4 := Aside0.mk hc1
        have KN := Aside0.mk k1
        clear ho hc1 k1
        replace hb := nb_ HB hb
        replace BKga := kb_ BKga hb
        replace BKgb := kb_ BKgb hb
        replace BKgm := kb_ BKgm hb
        replace BKgs := kb_ BKgs hb
        replace BKgf := kb_ BKgf hb
        replace BKgr := kb_ BKgr hb
        replace KM := Aside0.mk (Kd.C_below KM.out hb)
        replace HB := bs_ HB hb
        clear hb
        go_wp2_with fail
        refine (waterhourref02_Same.calls 300 A3 c3 u A4 c4 u true _ KM.out C3.out KN.out C4.out (same_self u HLu.out)).mono ?_
        rintro e w12 ⟨rfl, hb⟩
        replace hb := hb.below
        replace hb := nb_ HB hb
        replace BKga := kb_ BKga hb
        replace BKgb := kb_ BKgb hb
        replace BKgm := kb_ BKgm hb
        replace BKgs := kb_ BKgs hb
        replace BKgf := kb_ BKgf hb
        replace BKgr := kb_ BKgr hb
        replace KM := Aside0.mk (Kd.C_below KM.out hb)
        replace KN := Aside0.mk (Kd.C_below KN.out hb)
        replace HB := bs_ HB hb
        clear hb
        go_wp2_with fail
        refine (alike.walk A3 c3 u a b m s1 s2 f1 f2 r1 r2 ga gb gm gs gf gr _ KM.out C3.out HAU.out BKga.out BKgb.out BKgm.out BKgs.out BKgf.out BKgr.out).mono ?_
        rintro e w13 ⟨rfl, hb⟩
        replace hb := nb_ HB hb
        replace BKga := kb_ BKga hb
        replace BKgb := kb_ BKgb hb
        replace BKgm := kb_ BKgm hb
        replace BKgs := kb_ BKgs hb
        replace BKgf := kb_ BKgf hb
        replace BKgr := kb_ BKgr hb
        replace KM := Aside0.mk (Kd.C_below KM.out hb)
        replace KN := Aside0.mk (Kd.C_below KN.out hb)
        replace HB := bs_ HB hb
        clear hb
        clear KM KN HMV HMU HAU C4
        go_wp2_with fail
        refine (vessel_Cut.calls A0 c0 l0 lv cu ce _ (kc_ HR0 HB) HC0.out HCU.out).mono ?_
        rintro e w14 ⟨v1, rfl, ho, hb⟩
        obtain ⟨A5, c5, rfl, hc1, k1⟩ := Kd.R_reads ho
        have C5 := Aside0.mk hc1
        have KC := Aside0.mk k1
        clear ho hc1 k1
        replace hb := nb_ HB hb
        replace BKga := kb_ BKga hb
        replace BKgb := kb_ BKgb hb
        replace BKgm := kb_ BKgm hb
        replace BKgs := kb_ BKgs hb
        replace BKgf := kb_ BKgf hb
        replace BKgr := kb_ BKgr hb
        replace HB := bs_ HB hb
        have Oga_0 := c1_ BKga
        clear hb
        go_upto_region 16 with (fail)
        rcases HCX.out with k | ⟨rfl, k | ⟨k, hal⟩⟩
        all_goals clear HCX HCU dl dl2
        focus
          have kb : (ce == 0) = false := beq_eq_false_iff_ne.2 k
          clear k
          go_upto_region 18 with (fail)
          clear kb KC C5
          rename World => wj15
        rotate_left
        focus
          have d3 : decide (a ≤ lv) = false := decide_eq_false (by omega)
          clear k
          go_upto_region 18 with (fail)
          clear d3 KC C5
          rename World => wj15
        rotate_left
        focus
          have d3 : decide (a ≤ lv) = true := decide_eq_true (by omega)
          have HAC := Aside0.mk hal
          clear k hal
          go_wp2_with fail
          refine (alike.walk A5 c5 cu a b m s1 s2 f1 f2 r1 r2 ga gb gm gs gf gr _ KC.out C5.out HAC.out BKga.out BKgb.out BKgm.out BKgs.out BKgf.out BKgr.out).mono ?_
          rintro e w15 ⟨rfl, hb⟩
          replace hb := nb_ HB hb
          replace BKga := kb_ BKga hb
          replace BKgb := kb_ BKgb hb
          replace BKgm := kb_ BKgm hb
          replace BKgs := kb_ BKgs hb
          replace BKgf := kb_ BKgf hb
          replace BKgr := kb_ BKgr hb
          replace KC := Aside0.mk (Kd.C_below KC.out hb)
          replace HB := bs_ HB hb
          clear Oga_0
          have Oga_0 := c1_ BKga
          clear hb
          go_upto_region 18 with (fail)
          clear d3 KC C5 HAC
          rename World => wj15
        rotate_left
        all_goals (
          go_wp2_with fail
          refine (HSU.out _ HB.out).mono ?_
          rintro e w16 ⟨v1, rfl, ho, hb⟩
          obtain ⟨A6, c6, rfl, hc1, k1⟩ := Kd.R_reads ho
          have C6 := Aside0.mk hc1
          have KS := Aside0.mk k1
          clear ho hc1 k1
          replace hb := nb_ HB hb
          replace BKga := kb_ BKga hb
          replace BKgb := kb_ BKgb hb
          replace BKgm := kb_ BKgm hb
          replace BKgs := kb_ BKgs hb
          replace BKgf := kb_ BKgf hb
          replace BKgr := kb_ BKgr hb
          replace HB := bs_ HB hb
          clear Oga_0
          clear hb
          go_upto_region 19 with (fail)
          rcases HSX.out with k | ⟨rfl, hal⟩
          · have kb : (se == 0) = false := beq_eq_false_iff_ne.2 k
            have kc : (se != 0) = true := by unfold bne; rw [kb]; rfl
            clear k
            go_wp2
            go_ret
            exact ⟨by first | rfl | (simp; done), by first | exact HB.out | exact fb_ HB⟩
          · have HAC := Aside0.mk hal
            clear hal
            go_wp2_with fail
            refine (alike.walk A6 c6 su a b m s1 s2 f1 f2 r1 r2 ga gb gm gs gf gr _ KS.out C6.out HAC.out BKga.out BKgb.out BKgm.out BKgs.out BKgf.out BKgr.out).mono ?_
            rintro e w17 ⟨rfl, hb⟩
            replace hb := nb_ HB hb
            replace BKga := kb_ BKga hb
            replace BKgb := kb_ BKgb hb
            replace BKgm := kb_ BKgm hb
            replace BKgs := kb_ BKgs hb
            replace BKgf := kb_ BKgf hb
            replace BKgr := kb_ BKgr hb
            replace KS := Aside0.mk (Kd.C_below KS.out hb)
            replace HB := bs_ HB hb
            clear hb
            go_wp2
            go_ret
            exact ⟨by first | rfl | (simp; done), by first | exact HB.out | exact fb_ HB⟩)
end Go.Proofs.Ytlhfclpbodfmcaa.Pr
