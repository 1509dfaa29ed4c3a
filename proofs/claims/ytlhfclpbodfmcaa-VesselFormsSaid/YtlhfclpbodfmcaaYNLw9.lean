/- A part of the proof: Lw9. -/
import Derived.Test.YtlhfclpbodfmcaaYNKq
import Derived.Test.YtlhfclpbodfmcaaXLb
import Derived.Test.YtlhfclpbodfmcaaXRt
import Derived.Test.YtlhfclpbodfmcaaXSn
namespace Go.Proofs.Ytlhfclpbodfmcaa.Pr
open Go.RowKit Go.Proofs.YtlhfclpbodfmcaaW.PrintWords Go.Proofs.YtlhfclpbodfmcaaW.PrintLast Go.Proofs.YtlhfclpbodfmcaaW.PrintMore
open Go.Proofs.Ytlhfclpbodfmcaa.Vm
set_option linter.unusedVariables false
set_option linter.unusedSimpArgs false
theorem draw_len {f : S79 → Int} {l : List S79} {y : List S60} {e : Int} (h : drawF f l = (y, e)) : y.length ≤ 200 := by
  unfold drawF at h
  by_cases hv : validB l = true
  · rw [if_pos hv, Prod.mk.injEq] at h
    rw [← h.1, ptsF_length]
    have := (valid_GV hv).h.ln
    rw [List.length_map] at this
    omega
  · rw [if_neg hv, Prod.mk.injEq] at h
    rw [← h.1]
    simp
set_option maxHeartbeats 1600000 in
set_option maxRecDepth 100000 in
theorem forms.walk (A0 : Option Addr) (c0 : Nat) (l0 : List S79) (w : World) (hr0 : Kd.C k79 w A0 l0.length l0) (hc0 : l0.length ≤ c0) :
    Calls Try.prog 12 #[.slice A0 l0.length c0] w fun e w' => e = .returned (.bool true) ∧ Below w.heap.size w w' := by
  have hu27 := Try.underlying27
  have HR0 := Aside0.mk hr0
  have HC0 := Aside0.mk hc0
  clear hr0 hc0
  have HB := Aside0.mk (Below.refl w.heap.size w)
  cases hR : [l0].all fewB with
  | false =>
    have HF : Aside0 (waterhourlaw02_few.f [l0] = some false) := ⟨by simp only [waterhourlaw02_few.f, hR]; rfl⟩
    clear hR
    go_enter Try.func12, Try.ntmps12
    go_wp2_with fail
    refine (waterhourlaw02_sane.calls true _ rfl).mono ?_
    rintro e w1 ⟨rfl, hb⟩
    replace hb := nb_ HB hb
    replace HB := bs_ HB hb
    clear hb
    go_wp2_with fail
    refine (waterhourlaw02_few.calls _ 1 [l0] false _ (litL (kc_ HR0 HB) HC0.out) (by simp) HF.out).mono ?_
    rintro e w2 ⟨rfl, hb⟩
    replace hb := below_step (below_alloc (Below.refl _ w1) _) hb
    replace hb := nb_ HB hb
    replace HB := bs_ HB hb
    clear hb
    go_wp2
    go_ret
    exact ⟨by first | rfl | (simp; done), by first | exact HB.out | exact fb_ HB⟩
  | true =>
    have HF : Aside0 (waterhourlaw02_few.f [l0] = some true) := ⟨by simp only [waterhourlaw02_few.f, hR]; rfl⟩
    clear hR
    obtain ⟨p, pe, hp⟩ : ∃ y e, drawF (·.f2) l0 = (y, e) := ⟨_, _, rfl⟩
    have HLp : Aside0 (p.length ≤ 200) := ⟨draw_len hp⟩
    have Hp : Aside0 (vessel_Emptying.f l0 = some (p, pe)) := ⟨congrArg some hp⟩
    have Rp : Aside0 (∀ W, Below w.heap.size w W → Calls Try.prog 51 #[.slice A0 l0.length c0] W fun e w' => ∃ v0_ : Value, e = .returned (.tuple #[v0_, .int .i64 pe]) ∧ Kd.R k60 60 w' W.heap.size (fun _ => True) v0_ p ∧ Below W.heap.size W w') := ⟨fun W hB => by have h := ref_Emptying.calls A0 c0 l0 W (Kd.C_below HR0.out hB); rw [hp] at h; exact h⟩
    clear hp
    obtain ⟨g, ge, hg⟩ : ∃ y e, drawF (·.f1) l0 = (y, e) := ⟨_, _, rfl⟩
    have HLg : Aside0 (g.length ≤ 200) := ⟨draw_len hg⟩
    have Hg : Aside0 (vessel_Holding.f l0 = some (g, ge)) := ⟨congrArg some hg⟩
    have Rg : Aside0 (∀ W, Below w.heap.size w W → Calls Try.prog 52 #[.slice A0 l0.length c0] W fun e w' => ∃ v0_ : Value, e = .returned (.tuple #[v0_, .int .i64 ge]) ∧ Kd.R k60 60 w' W.heap.size (fun _ => True) v0_ g ∧ Below W.heap.size W w') := ⟨fun W hB => by have h := ref_Holding.calls A0 c0 l0 W (Kd.C_below HR0.out hB); rw [hg] at h; exact h⟩
    clear hg
    obtain ⟨s1, s2, s3, s4, hs⟩ : ∃ y1 y2 y3 y4, SizesF l0 = (y1, y2, y3, y4) := ⟨_, _, _, _, rfl⟩
    have HS : Aside0 (vessel_Sizes.f l0 = some (s1, s2, s3, s4)) := ⟨congrArg some hs⟩
    have RS : Aside0 (∀ W, Below w.heap.size w W → Calls Try.prog 50 #[.slice A0 l0.length c0] W fun e w' => e = .returned (.tuple #[.int .i64 s1, .int .i64 s2, .int .i64 s3, .int .i64 s4]) ∧ Below W.heap.size W w') := ⟨fun W hB => by have h := ref_Sizes.calls A0 c0 l0 W (Kd.C_below HR0.out hB); rwa [hs] at h⟩
    clear hs
    have HCK : Aside0 (vessel_Check.f 30 l0 = some (checkF l0)) := ⟨rfl⟩
    go_enter Try.func12, Try.ntmps12
    go_wp2_with fail
    refine (waterhourlaw02_sane.calls true _ rfl).mono ?_
    rintro e w1 ⟨rfl, hb⟩
    replace hb := nb_ HB hb
    replace HB := bs_ HB hb
    clear hb
    go_wp2_with fail
    refine (waterhourlaw02_few.calls _ 1 [l0] true _ (litL (kc_ HR0 HB) HC0.out) (by simp) HF.out).mono ?_
    rintro e w2 ⟨rfl, hb⟩
    replace hb := below_step (below_alloc (Below.refl _ w1) _) hb
    replace hb := nb_ HB hb
    replace HB := bs_ HB hb
    clear hb
    go_wp2_with fail
    refine (vessel_Sizes.calls A0 c0 l0 s1 s2 s3 s4 _ (kc_ HR0 HB) HC0.out HS.out).mono ?_
    rintro e w3 ⟨rfl, hb⟩
    replace hb := nb_ HB hb
    replace HB := bs_ HB hb
    clear hb
    go_wp2_with fail
    refine (RS.out _ HB.out).mono ?_
    rintro e w4 ⟨rfl, hb⟩
    replace hb := nb_ HB hb
    replace HB := bs_ HB hb
    clear hb
    go_wp2_with fail
    refine (vessel_Emptying.calls A0 c0 l0 p pe _ (kc_ HR0 HB) HC0.out Hp.out).mono ?_
    rintro e w5 ⟨v1, rfl, ho, hb⟩
    obtain ⟨A1, c1, rfl, hc1, k1⟩ := Kd.R_reads ho
    have C1 := Aside0.mk hc1
    have K1 := Aside0.mk k1
    clear ho hc1 k1
    replace hb := nb_ HB hb
    replace HB := bs_ HB hb
    clear hb
    go_wp2_with fail
    refine (Rp.out _ HB.out).mono ?_
    rintro e w6 ⟨v1, rfl, ho, hb⟩
    obtain ⟨A2, c2, rfl, hc1, k1⟩ := Kd.R_reads ho
    have C2 := Aside0.mk hc1
    have K2 := Aside0.mk k1
    clear ho hc1 k1
    replace hb := nb_ HB hb
    replace K1 := Aside0.mk (Kd.C_below K1.out hb)
    replace HB := bs_ HB hb
    clear hb
    go_wp2_with fail
    refine (vessel_Holding.calls A0 c0 l0 g ge _ (kc_ HR0 HB) HC0.out Hg.out).mono ?_
    rintro e w7 ⟨v1, rfl, ho, hb⟩
    obtain ⟨A3, c3, rfl, hc1, k1⟩ := Kd.R_reads ho
    have C3 := Aside0.mk hc1
    have K3 := Aside0.mk k1
    clear ho hc1 k1
    replace hb := nb_ HB hb
    replace K1 := Aside0.mk (Kd.C_below K1.out hb)
    replace K2 := Aside0.mk (Kd.C_below K2.out hb)
    replace HB := bs_ HB hb
    clear hb
    go_wp2_with fail
    refine (Rg.out _ HB.out).mono ?_
    rintro e w8 ⟨v1, rfl, ho, hb⟩
    obtain ⟨A4, c4, rfl, hc1, k1⟩ := Kd.R_reads ho
    have C4 := Aside0.mk hc1
    have K4 := Aside0.mk k1
    clear ho hc1 k1
    replace hb := nb_ HB hb
    replace K1 := Aside0.mk (Kd.C_below K1.out hb)
    replace K2 := Aside0.mk (Kd.C_below K2.out hb)
    replace K3 := Aside0.mk (Kd.C_below K3.out hb)
    replace HB := bs_ HB hb
    clear hb
    go_wp2_with fail
    refine (vessel_Check.calls 30 A0 c0 l0 _ _ (kc_ HR0 HB) HC0.out HCK.out).mono ?_
    rintro e w9 ⟨rfl, hb⟩
    replace hb := nb_ HB hb
    replace K1 := Aside0.mk (Kd.C_below K1.out hb)
    replace K2 := Aside0.mk (Kd.C_below K2.out hb)
    replace K3 := Aside0.mk (Kd.C_below K3.out hb)
    replace K4 := Aside0.mk (Kd.C_below K4.out hb)
    replace HB := bs_ HB hb
    clear hb
    go_wp2_with fail
    refine (ref_Check.calls A0 c0 l0 _ (kc_ HR0 HB)).mono ?_
    rintro e w10 ⟨rfl, hb⟩
    replace hb := nb_ HB hb
    replace K1 := Aside0.mk (Kd.C_below K1.out hb)
    replace K2 := Aside0.mk (Kd.C_below K2.out hb)
    replace K3 := Aside0.mk (Kd.C_below K3.out hb)
    replace K4 := Aside0.mk (Kd.C_below K4.out hb)
    replace HB := bs_ HB hb
    clear hb
    go_wp2_with fail
    refine (api_Point_54.calls 300 A1 c1 p A2 c2 p true _ K1.out C1.out K2.out C2.out (eq60_self p HLp.out)).mono ?_
    rintro e w11 ⟨rfl, hb⟩
    replace hb := hb.below
    replace hb := nb_ HB hb
    replace K1 := Aside0.mk (Kd.C_below K1.out hb)
    replace K2 := Aside0.mk (Kd.C_below K2.out hb)
    replace K3 := Aside0.mk (Kd.C_below K3.out hb)
    replace K4 := Aside0.mk (Kd.C_below K4.out hb)
    replace HB := bs_ HB hb
    clear hb
    go_wp2_with fail
    refine (api_Point_54.calls 300 A3 c3 g A4 c4 g true _ K3.out C3.out K4.out C4.out (eq60_self g HLg.out)).mono ?_
    rintro e w12 ⟨rfl, hb⟩
    replace hb := hb.below
    replace hb := nb_ HB hb
    replace K1 := Aside0.mk (Kd.C_below K1.out hb)
    replace K2 := Aside0.mk (Kd.C_below K2.out hb)
    replace K3 := Aside0.mk (Kd.C_below K3.out hb)
    replace K4 := Aside0.mk (Kd.C_below K4.out hb)
    replace HB := bs_ HB hb
    clear hb
    go_wp2
    go_ret
    exact ⟨by first | rfl | (simp; done), by first | exact HB.out | exact fb_ HB⟩
end Go.Proofs.Ytlhfclpbodfmcaa.Pr
