/- A part of the proof: LwA. -/
import Derived.Test.YtlhfclpbodfmcaaYMVm
import Derived.Test.YtlhfclpbodfmcaaYMWMore
import Derived.Test.YtlhfclpbodfmcaaYMKq
import Derived.Test.YtlhfclpbodfmcaaXLb
import Derived.WalkMore
import Derived.Test.YtlhfclpbodfmcaaXRt
import Derived.Test.YtlhfclpbodfmcaaXSn
namespace Go.Proofs.Ytlhfclpbodfmcaa.Pr
open Go.RowKit Go.Proofs.YtlhfclpbodfmcaaW.PrintWords Go.Proofs.YtlhfclpbodfmcaaW.PrintLast Go.Proofs.YtlhfclpbodfmcaaW.PrintMore
open Go.Proofs.Ytlhfclpbodfmcaa.Vm
set_option linter.unusedVariables false
set_option linter.unusedSimpArgs false
theorem marksL_len (l : List S79) (n : Int) : ∀ k, (marksL l n k).length = k := by
  intro k
  induction k with
  | zero => rfl
  | succ k ih => simp [marksL, ih]
theorem marks_len {l : List S79} {n : Int} {y : List S27} {e : Int} (h : MarksF l n = (y, e)) : y.length ≤ 200 := by
  unfold MarksF at h
  split at h
  · split at h
    · rw [Prod.mk.injEq] at h
      rw [← h.1, marksL_len]
      omega
    · rw [Prod.mk.injEq] at h
      rw [← h.1]
      simp
  · rw [Prod.mk.injEq] at h
    rw [← h.1]
    simp
set_option maxHeartbeats 1600000 in
set_option maxRecDepth 100000 in
theorem marks.walk (A0 : Option Addr) (c0 : Nat) (l0 : List S79) (A1 : Option Addr) (c1 : Nat) (l1 : List S79) (n : Int) (w : World) (hr0 : Kd.C k79 w A0 l0.length l0) (hc0 : l0.length ≤ c0) (hr1 : Kd.C k79 w A1 l1.length l1) (hc1 : l1.length ≤ c1) :
    Calls Try.prog 13 #[.slice A0 l0.length c0, .slice A1 l1.length c1, .int .i64 n] w fun e w' => e = .returned (.bool true) ∧ Below w.heap.size w w' := by
  have hu27 := Try.underlying27
  have HR0 := Aside0.mk hr0
  have HC0 := Aside0.mk hc0
  have HR1 := Aside0.mk hr1
  have HC1 := Aside0.mk hc1
  clear hr0 hc0 hr1 hc1
  have HB := Aside0.mk (Below.refl w.heap.size w)
  cases hR : [l0, l1].all fewB with
  | false =>
    have HF : Aside0 (waterhourlaw02_few.f [l0, l1] = some false) := ⟨by simp only [waterhourlaw02_few.f, hR]; rfl⟩
    clear hR
    go_enter Try.func13, Try.ntmps13
    go_wp2_with fail
    refine (waterhourlaw02_sane.calls true _ rfl).mono ?_
    rintro e w1 ⟨rfl, hb⟩
    replace hb := nb_ HB hb
    replace HB := bs_ HB hb
    clear hb
    go_wp2_with fail
    refine (waterhourlaw02_few.calls _ 2 [l0, l1] false _ (pair_row (Kd.C_below (kc_ HR0 HB) (ba_ _ _)) HC0.out (Kd.C_below (kc_ HR1 HB) (ba_ _ _)) HC1.out (blk_new _ _)) (by simp) HF.out).mono ?_
    rintro e w2 ⟨rfl, hb⟩
    replace hb := below_step (below_alloc (Below.refl _ w1) _) hb
    replace hb := nb_ HB hb
    replace HB := bs_ HB hb
    clear hb
    go_wp2
    go_ret
    exact ⟨by first | rfl | (simp; done), by first | exact HB.out | exact fb_ HB⟩
  | true =>
    have HF : Aside0 (waterhourlaw02_few.f [l0, l1] = some true) := ⟨by simp only [waterhourlaw02_few.f, hR]; rfl⟩
    clear hR
    obtain ⟨p, pe, hp⟩ : ∃ y e, MarksF l0 n = (y, e) := ⟨_, _, rfl⟩
    have HLp : Aside0 (p.length ≤ 200) := ⟨marks_len hp⟩
    have Hp : Aside0 (vessel_Marks.f l0 n = some (p, pe)) := ⟨congrArg some hp⟩
    have Rp : Aside0 (∀ W, Below w.heap.size w W → Calls Try.prog 56 #[.slice A0 l0.length c0, .int .i64 n] W fun e w' => ∃ v0_ : Value, e = .returned (.tuple #[v0_, .int .i64 pe]) ∧ Kd.R k27 27 w' W.heap.size (fun _ => True) v0_ p ∧ Below W.heap.size W w') := ⟨fun W hB => by have h := ref_Marks.calls A0 c0 l0 n W (Kd.C_below HR0.out hB); rw [hp] at h; exact h⟩
    clear hp
    obtain ⟨s1, s2, hs⟩ : ∃ y1 y2, SlowerF l0 l1 = (y1, y2) := ⟨_, _, rfl⟩
    have HS : Aside0 (vessel_Slower.f l0 l1 = some (s1, s2)) := ⟨congrArg some hs⟩
    have RS : Aside0 (∀ W, Below w.heap.size w W → Calls Try.prog 58 #[.slice A0 l0.length c0, .slice A1 l1.length c1] W fun e w' => e = .returned (.tuple #[.bool s1, .int .i64 s2]) ∧ Below W.heap.size W w') := ⟨fun W hB => by have h := ref_Slower.calls A0 c0 l0 A1 c1 l1 W (Kd.C_below HR0.out hB) (Kd.C_below HR1.out hB); rwa [hs] at h⟩
    clear hs
    go_enter Try.func13, Try.ntmps13
    go_wp2_with fail
    refine (waterhourlaw02_sane.calls true _ rfl).mono ?_
    rintro e w1 ⟨rfl, hb⟩
    replace hb := nb_ HB hb
    replace HB := bs_ HB hb
    clear hb
    go_wp2_with fail
    refine (waterhourlaw02_few.calls _ 2 [l0, l1] true _ (pair_row (Kd.C_below (kc_ HR0 HB) (ba_ _ _)) HC0.out (Kd.C_below (kc_ HR1 HB) (ba_ _ _)) HC1.out (blk_new _ _)) (by simp) HF.out).mono ?_
    rintro e w2 ⟨rfl, hb⟩
    replace hb := below_step (below_alloc (Below.refl _ w1) _) hb
    replace hb := nb_ HB hb
    replace HB := bs_ HB hb
    clear hb
    go_wp2_with fail
    refine (vessel_Marks.calls A0 c0 l0 n p pe _ (kc_ HR0 HB) HC0.out Hp.out).mono ?_
    rintro e w3 ⟨v1, rfl, ho, hb⟩
    obtain ⟨A3, c3, rfl, hc1, k1⟩ := Kd.R_reads ho
    have C3 := Aside0.mk hc1
    have K1 := Aside0.mk k1
    clear ho hc1 k1
    replace hb := nb_ HB hb
    replace HB := bs_ HB hb
    clear hb
    go_wp2_with fail
    refine (Rp.out _ HB.out).mono ?_
    rintro e w4 ⟨v1, rfl, ho, hb⟩
    obtain ⟨A4, c4, rfl, hc1, k1⟩ := Kd.R_reads ho
    have C4 := Aside0.mk hc1
    have K2 := Aside0.mk k1
    clear ho hc1 k1
    replace hb := nb_ HB hb
    replace K1 := Aside0.mk (Kd.C_below K1.out hb)
    replace HB := bs_ HB hb
    clear hb
    go_wp2_with fail
    refine (vessel_Slower.calls A0 c0 l0 A1 c1 l1 s1 s2 _ (kc_ HR0 HB) HC0.out (kc_ HR1 HB) HC1.out HS.out).mono ?_
    rintro e w5 ⟨rfl, hb⟩
    replace hb := nb_ HB hb
    replace K1 := Aside0.mk (Kd.C_below K1.out hb)
    replace K2 := Aside0.mk (Kd.C_below K2.out hb)
    replace HB := bs_ HB hb
    clear hb
    go_wp2_with fail
    refine (RS.out _ HB.out).mono ?_
    rintro e w6 ⟨rfl, hb⟩
    replace hb := nb_ HB hb
    replace K1 := Aside0.mk (Kd.C_below K1.out hb)
    replace K2 := Aside0.mk (Kd.C_below K2.out hb)
    replace HB := bs_ HB hb
    clear hb
    go_wp2_with fail
    refine (api_Span_59.calls 300 A3 c3 p A4 c4 p true _ K1.out C3.out K2.out C4.out (eq27_self p HLp.out)).mono ?_
    rintro e w7 ⟨rfl, hb⟩
    replace hb := hb.below
    replace hb := nb_ HB hb
    replace K1 := Aside0.mk (Kd.C_below K1.out hb)
    replace K2 := Aside0.mk (Kd.C_below K2.out hb)
    replace HB := bs_ HB hb
    clear hb
    go_wp2
    go_ret
    exact ⟨by first | rfl | (simp; done), by first | exact HB.out | exact fb_ HB⟩
end Go.Proofs.Ytlhfclpbodfmcaa.Pr
