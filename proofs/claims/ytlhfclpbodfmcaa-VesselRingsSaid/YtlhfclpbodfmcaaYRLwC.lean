/- A part of the proof: LwC. -/
import Derived.Test.YtlhfclpbodfmcaaYRWWords
import Derived.Test.YtlhfclpbodfmcaaYRPr0
import Derived.Test.YtlhfclpbodfmcaaXRt
import Derived.Test.YtlhfclpbodfmcaaXLb
import Derived.Test.YtlhfclpbodfmcaaXSn
namespace Go.Proofs.Ytlhfclpbodfmcaa.Pr
open Go.RowKit Go.Proofs.YtlhfclpbodfmcaaW.PrintWords Go.Proofs.YtlhfclpbodfmcaaW.PrintLast Go.Proofs.YtlhfclpbodfmcaaW.PrintMore
open Go.Proofs.Ytlhfclpbodfmcaa.Vm
set_option linter.unusedVariables false
set_option linter.unusedSimpArgs false
theorem cutGo_len : ∀ {l : List S79} {lv : Int} {x : List S79}, cutGo l lv = some x → x.length ≤ l.length
  | [], lv, x, h => by simp [cutGo] at h; subst h; simp
  | r :: t, lv, x, h => by
    simp only [cutGo] at h
    split at h
    · split at h
      · cases h; simp
      · cases hc : cutGo t (lv - r.f0) with
        | none => rw [hc] at h; cases h
        | some y =>
          rw [hc] at h
          have := cutGo_len hc
          cases h
          simp; omega
    · cases h
theorem valid_len24 {l : List S79} (h : validB l = true) : l.length ≤ 24 := by have := (valid_GV h).h.ln; rwa [List.length_map] at this
theorem cut_len {l : List S79} {a : Int} {y : List S79} {e : Int} (h : CutF l a = (y, e)) : y.length ≤ 200 := by
  unfold CutF at h
  split at h
  · rename_i hv
    have := valid_len24 hv
    split at h
    · cases hc : cutGo l a with
      | none => rw [hc] at h; simp only [Prod.mk.injEq] at h; rw [← h.1]; simp
      | some x => rw [hc] at h; simp only [Prod.mk.injEq] at h; rw [← h.1]; have := cutGo_len hc; omega
    · rw [Prod.mk.injEq] at h; rw [← h.1]; simp
  · rw [Prod.mk.injEq] at h; rw [← h.1]; simp
theorem stk_len {l u : List S79} {y : List S79} {e : Int} (h : StackedF l u = (y, e)) : y.length ≤ 200 := by
  unfold StackedF at h
  split at h
  · split at h
    · split at h
      · rw [Prod.mk.injEq] at h; rw [← h.1]; simp
      · split at h
        · rw [Prod.mk.injEq] at h; rw [← h.1]; omega
        · rw [Prod.mk.injEq] at h; rw [← h.1]; simp
    · rw [Prod.mk.injEq] at h; rw [← h.1]; simp
  · rw [Prod.mk.injEq] at h; rw [← h.1]; simp
theorem mergeS_len (d : List S79) (r : S79) : (mergeS d r).length ≤ d.length + 1 := by
  unfold mergeS
  split
  · simp
  · split <;> simp
theorem merged_len0 : ∀ (l d : List S79), (l.foldl mergeS d).length ≤ d.length + l.length
  | [], d => by simp
  | r :: t, d => by
    have := merged_len0 t (mergeS d r)
    have := mergeS_len d r
    simp only [List.foldl_cons, List.length_cons]
    omega
theorem merged_len {l : List S79} {y : List S79} {e : Int} (h : MergedF l = (y, e)) : y.length ≤ 200 := by
  unfold MergedF at h
  split at h
  · rename_i hv
    rw [Prod.mk.injEq] at h
    rw [← h.1]
    have := merged_len0 l []
    have := valid_len24 hv
    unfold MergedL
    simp at *
    omega
  · rw [Prod.mk.injEq] at h; rw [← h.1]; simp
set_option maxHeartbeats 1600000 in
set_option maxRecDepth 100000 in
theorem rings.walk (A0 : Option Addr) (c0 : Nat) (l0 : List S79) (A1 : Option Addr) (c1 : Nat) (l1 : List S79) (a : Int) (w : World) (hr0 : Kd.C k79 w A0 l0.length l0) (hc0 : l0.length ≤ c0) (hr1 : Kd.C k79 w A1 l1.length l1) (hc1 : l1.length ≤ c1) :
    Calls Try.prog 14 #[.slice A0 l0.length c0, .slice A1 l1.length c1, .int .i64 a] w fun e w' => e = .returned (.bool true) ∧ Below w.heap.size w w' := by
  have hu27 := Try.underlying27
  have HR0 := Aside0.mk hr0
  have HC0 := Aside0.mk hc0
  have HR1 := Aside0.mk hr1
  have HC1 := Aside0.mk hc1
  clear hr0 hc0 hr1 hc1
  have HB := Aside0.mk (Below.refl w.heap.size w)
  cases hR : [l0, l1].all fewB with
  | false =>
    have HF : Aside0 (waterhourlaw02_few.f [l0, l1] = some false) := ⟨by simp only [waterhourlaw02_few.f, hR]; rfl⟩
    clear hR
    go_enter Try.func14, Try.ntmps14
    go_wp2_with fail
    refine (waterhourlaw02_sane.calls true _ rfl).mono ?_
    rintro e w1 ⟨rfl, hb⟩
    replace hb := nb_ HB hb
    replace HB := bs_ HB hb
    clear hb
    go_wp2_with fail
    refine (waterhourlaw02_few.calls _ 2 [l0, l1] false _ (pair_row (Kd.C_below (kc_ HR0 HB) (ba_ _ _)) HC0.out (Kd.C_below (kc_ HR1 HB) (ba_ _ _)) HC1.out (blk_new _ _)) (by simp) HF.out).mono ?_
    rintro e w2 ⟨rfl, hb⟩
    replace hb := below_step (below_alloc (Below.refl _ w1) _) hb
    replace hb := nb_ HB hb
    replace HB := bs_ HB hb
    clear hb
    go_wp2
    go_ret
    exact ⟨by first | rfl | (simp; done), by first | exact HB.out | exact fb_ HB⟩
  | true =>
    have HF : Aside0 (waterhourlaw02_few.f [l0, l1] = some true) := ⟨by simp only [waterhourlaw02_few.f, hR]; rfl⟩
    clear hR
    obtain ⟨p, pe, hp⟩ : ∃ y e, StackedF l0 l1 = (y, e) := ⟨_, _, rfl⟩
    have HLp : Aside0 (p.length ≤ 200) := ⟨stk_len hp⟩
    have Rp0 : Aside0 (∀ W, Below w.heap.size w W → Calls Try.prog 60 #[.slice A0 l0.length c0, .slice A1 l1.length c1] W fun e w' => ∃ v0_ : Value, e = .returned (.tuple #[v0_, .int .i64 pe]) ∧ Kd.R k79 79 w' W.heap.size (fun _ => True) v0_ p ∧ Below W.heap.size W w') := ⟨fun W hB => by have h := vessel_Stacked.calls A0 c0 l0 A1 c1 l1 W (Kd.C_below HR0.out hB) HC0.out (Kd.C_below HR1.out hB) HC1.out; rw [hp] at h; exact h⟩
    have Rp1 : Aside0 (∀ W, Below w.heap.size w W → Calls Try.prog 61 #[.slice A0 l0.length c0, .slice A1 l1.length c1] W fun e w' => ∃ v0_ : Value, e = .returned (.tuple #[v0_, .int .i64 pe]) ∧ Kd.R k79 79 w' W.heap.size (fun _ => True) v0_ p ∧ Below W.heap.size W w') := ⟨fun W hB => by have h := ref_Stacked.calls A0 c0 l0 A1 c1 l1 W (Kd.C_below HR0.out hB) HC0.out (Kd.C_below HR1.out hB) HC1.out; rw [hp] at h; exact h⟩
    clear hp
    obtain ⟨q, qe, hq⟩ : ∃ y e, CutF l0 a = (y, e) := ⟨_, _, rfl⟩
    have HLq : Aside0 (q.length ≤ 200) := ⟨cut_len hq⟩
    have Rq0 : Aside0 (∀ W, Below w.heap.size w W → Calls Try.prog 62 #[.slice A0 l0.length c0, .int .i64 a] W fun e w' => ∃ v0_ : Value, e = .returned (.tuple #[v0_, .int .i64 qe]) ∧ Kd.R k79 79 w' W.heap.size (fun _ => True) v0_ q ∧ Below W.heap.size W w') := ⟨fun W hB => by have h := vessel_Cut.calls A0 c0 l0 a (CutF l0 a).1 (CutF l0 a).2 W (Kd.C_below HR0.out hB) HC0.out rfl; rw [hq] at h; exact h⟩
    have Rq1 : Aside0 (∀ W, Below w.heap.size w W → Calls Try.prog 63 #[.slice A0 l0.length c0, .int .i64 a] W fun e w' => ∃ v0_ : Value, e = .returned (.tuple #[v0_, .int .i64 qe]) ∧ Kd.R k79 79 w' W.heap.size (fun _ => True) v0_ q ∧ Below W.heap.size W w') := ⟨fun W hB => by have h := ref_Cut.calls A0 c0 l0 a W (Kd.C_below HR0.out hB); rw [hq] at h; exact h⟩
    clear hq
    obtain ⟨r, re, hr⟩ : ∃ y e, MergedF l0 = (y, e) := ⟨_, _, rfl⟩
    have HLr : Aside0 (r.length ≤ 200) := ⟨merged_len hr⟩
    have Rr0 : Aside0 (∀ W, Below w.heap.size w W → Calls Try.prog 64 #[.slice A0 l0.length c0] W fun e w' => ∃ v0_ : Value, e = .returned (.tuple #[v0_, .int .i64 re]) ∧ Kd.R k79 79 w' W.heap.size (fun _ => True) v0_ r ∧ Below W.heap.size W w') := ⟨fun W hB => by have h := vessel_Merged.calls A0 c0 l0 W (Kd.C_below HR0.out hB) HC0.out; rw [hr] at h; exact h⟩
    have Rr1 : Aside0 (∀ W, Below w.heap.size w W → Calls Try.prog 65 #[.slice A0 l0.length c0] W fun e w' => ∃ v0_ : Value, e = .returned (.tuple #[v0_, .int .i64 re]) ∧ Kd.R k79 79 w' W.heap.size (fun _ => True) v0_ r ∧ Below W.heap.size W w') := ⟨fun W hB => by have h := ref_Merged.calls A0 c0 l0 W (Kd.C_below HR0.out hB) HC0.out; rw [hr] at h; exact h⟩
    clear hr
    go_enter Try.func14, Try.ntmps14
    go_wp2_with fail
    refine (waterhourlaw02_sane.calls true _ rfl).mono ?_
    rintro e w1 ⟨rfl, hb⟩
    replace hb := nb_ HB hb
    replace HB := bs_ HB hb
    clear hb
    go_wp2_with fail
    refine (waterhourlaw02_few.calls _ 2 [l0, l1] true _ (pair_row (Kd.C_below (kc_ HR0 HB) (ba_ _ _)) HC0.out (Kd.C_below (kc_ HR1 HB) (ba_ _ _)) HC1.out (blk_new _ _)) (by simp) HF.out).mono ?_
    rintro e w2 ⟨rfl, hb⟩
    replace hb := below_step (below_alloc (Below.refl _ w1) _) hb
    replace hb := nb_ HB hb
    replace HB := bs_ HB hb
    clear hb
    go_wp2_with fail
    refine (Rp0.out _ HB.out).mono ?_
    rintro e w3 ⟨v1, rfl, ho, hb⟩
    obtain ⟨A3, c3, rfl, hc1, k1⟩ := Kd.R_reads ho
    have C3 := Aside0.mk hc1
    have Kp0 := Aside0.mk k1
    clear ho hc1 k1
    replace hb := nb_ HB hb
    replace HB := bs_ HB hb
    clear hb
    go_wp2_with fail
    refine (Rp1.out _ HB.out).mono ?_
    rintro e w4 ⟨v1, rfl, ho, hb⟩
    obtain ⟨A4, c4, rfl, hc1, k1⟩ := Kd.R_reads ho
    have C4 := Aside0.mk hc1
    have Kp1 := Aside0.mk k1
    clear ho hc1 k1
    replace hb := nb_ HB hb
    replace Kp0 := Aside0.mk (Kd.C_below Kp0.out hb)
    replace HB := bs_ HB hb
    clear hb
    go_wp2_with fail
    refine (Rq0.out _ HB.out).mono ?_
    rintro e w5 ⟨v1, rfl, ho, hb⟩
    obtain ⟨A5, c5, rfl, hc1, k1⟩ := Kd.R_reads ho
    have C5 := Aside0.mk hc1
    have Kq0 := Aside0.mk k1
    clear ho hc1 k1
    replace hb := nb_ HB hb
    replace Kp0 := Aside0.mk (Kd.C_below Kp0.out hb)
    replace Kp1 := Aside0.mk (Kd.C_below Kp1.out hb)
    replace HB := bs_ HB hb
    clear hb
    go_wp2_with fail
    refine (Rq1.out _ HB.out).mono ?_
    rintro e w6 ⟨v1, rfl, ho, hb⟩
    obtain ⟨A6, c6, rfl, hc1, k1⟩ := Kd.R_reads ho
    have C6 := Aside0.mk hc1
    have Kq1 := Aside0.mk k1
    clear ho hc1 k1
    replace hb := nb_ HB hb
    replace Kp0 := Aside0.mk (Kd.C_below Kp0.out hb)
    replace Kp1 := Aside0.mk (Kd.C_below Kp1.out hb)
    replace Kq0 := Aside0.mk (Kd.C_below Kq0.out hb)
    replace HB := bs_ HB hb
    clear hb
    go_wp2_with fail
    refine (Rr0.out _ HB.out).mono ?_
    rintro e w7 ⟨v1, rfl, ho, hb⟩
    obtain ⟨A7, c7, rfl, hc1, k1⟩ := Kd.R_reads ho
    have C7 := Aside0.mk hc1
    have Kr0 := Aside0.mk k1
    clear ho hc1 k1
    replace hb := nb_ HB hb
    replace Kp0 := Aside0.mk (Kd.C_below Kp0.out hb)
    replace Kp1 := Aside0.mk (Kd.C_below Kp1.out hb)
    replace Kq0 := Aside0.mk (Kd.C_below Kq0.out hb)
    replace Kq1 := Aside0.mk (Kd.C_below Kq1.out hb)
    replace HB := bs_ HB hb
    clear hb
    go_wp2_with fail
    refine (Rr1.out _ HB.out).mono ?_
    rintro e w8 ⟨v1, rfl, ho, hb⟩
    obtain ⟨A8, c8, rfl, hc1, k1⟩ := Kd.R_reads ho
    have C8 := Aside0.mk hc1
    have Kr1 := Aside0.mk k1
    clear ho hc1 k1
    replace hb := nb_ HB hb
    replace Kp0 := Aside0.mk (Kd.C_below Kp0.out hb)
    replace Kp1 := Aside0.mk (Kd.C_below Kp1.out hb)
    replace Kq0 := Aside0.mk (Kd.C_below Kq0.out hb)
    replace Kq1 := Aside0.mk (Kd.C_below Kq1.out hb)
    replace Kr0 := Aside0.mk (Kd.C_below Kr0.out hb)
    replace HB := bs_ HB hb
    clear hb
    go_wp2_with fail
    refine (waterhourref02_Same.calls 300 A3 c3 p A4 c4 p true _ Kp0.out C3.out Kp1.out C4.out (same_self p HLp.out)).mono ?_
    rintro e w9 ⟨rfl, hb⟩
    replace hb := hb.below
    replace hb := nb_ HB hb
    replace Kp0 := Aside0.mk (Kd.C_below Kp0.out hb)
    replace Kp1 := Aside0.mk (Kd.C_below Kp1.out hb)
    replace Kq0 := Aside0.mk (Kd.C_below Kq0.out hb)
    replace Kq1 := Aside0.mk (Kd.C_below Kq1.out hb)
    replace Kr0 := Aside0.mk (Kd.C_below Kr0.out hb)
    replace Kr1 := Aside0.mk (Kd.C_below Kr1.out hb)
    replace HB := bs_ HB hb
    clear hb
    go_wp2_with fail
    refine (waterhourref02_Same.calls 300 A5 c5 q A6 c6 q true _ Kq0.out C5.out Kq1.out C6.out (same_self q HLq.out)).mono ?_
    rintro e w10 ⟨rfl, hb⟩
    replace hb := hb.below
    replace hb := nb_ HB hb
    replace Kp0 := Aside0.mk (Kd.C_below Kp0.out hb)
    replace Kp1 := Aside0.mk (Kd.C_below Kp1.out hb)
    replace Kq0 := Aside0.mk (Kd.C_below Kq0.out hb)
    replace Kq1 := Aside0.mk (Kd.C_below Kq1.out hb)
    replace Kr0 := Aside0.mk (Kd.C_below Kr0.out hb)
    replace Kr1 := Aside0.mk (Kd.C_below Kr1.out hb)
    replace HB := bs_ HB hb
    clear hb
    go_wp2_with fail
    refine (waterhourref02_Same.calls 300 A7 c7 r A8 c8 r true _ Kr0.out C7.out Kr1.out C8.out (same_self r HLr.out)).mono ?_
    rintro e w11 ⟨rfl, hb⟩
    replace hb := hb.below
    replace hb := nb_ HB hb
    replace Kp0 := Aside0.mk (Kd.C_below Kp0.out hb)
    replace Kp1 := Aside0.mk (Kd.C_below Kp1.out hb)
    replace Kq0 := Aside0.mk (Kd.C_below Kq0.out hb)
    replace Kq1 := Aside0.mk (Kd.C_below Kq1.out hb)
    replace Kr0 := Aside0.mk (Kd.C_below Kr0.out hb)
    replace Kr1 := Aside0.mk (Kd.C_below Kr1.out hb)
    replace HB := bs_ HB hb
    clear hb
    go_wp2
    go_ret
    exact ⟨by first | rfl | (simp; done), by first | exact HB.out | exact fb_ HB⟩
end Go.Proofs.Ytlhfclpbodfmcaa.Pr
