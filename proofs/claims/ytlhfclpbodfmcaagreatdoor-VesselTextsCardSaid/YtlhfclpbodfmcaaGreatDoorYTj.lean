/- The law: every vessel, every text. -/
import Derived.Test.YtlhfclpbodfmcaaGreatDoorYTh
import Derived.Test.YtlhfclpbodfmcaaGreatDoorYBSn
import Derived.Test.YtlhfclpbodfmcaaGreatDoorYBFw
import Derived.Test.YtlhfclpbodfmcaaGreatDoorYBKl
import Derived.Test.YtlhfclpbodfmcaaGreatDoorYBPr8
namespace Go.Proofs.YtlhfclpbodfmcaaGreatDoor.Pr
open Go.RowKit Go.Proofs.YtlhfclpbodfmcaaGreatDoorW.PrintWords Go.Proofs.YtlhfclpbodfmcaaGreatDoorW.PrintLast Go.Proofs.YtlhfclpbodfmcaaGreatDoorW.PrintMore
set_option linter.unusedVariables false
set_option linter.unusedSimpArgs false
theorem same_self (l : List S79) (hl : l.length ≤ 200) : waterhourref02_Same.f 300 l l = some true := by
  have key : ∀ (n i k : Nat), n + i = l.length → n < k → waterhourref02_Same.l0 k l l (i : Int) = some true := by
    intro n
    induction n with
    | zero =>
      intro i k h hk
      obtain ⟨k, rfl⟩ : ∃ m, k = m + 1 := ⟨k - 1, by omega⟩
      simp only [waterhourref02_Same.l0]
      rw [if_neg (by omega)]
    | succ n ih =>
      intro i k h hk
      obtain ⟨k, rfl⟩ : ∃ m, k = m + 1 := ⟨k - 1, by omega⟩
      simp only [waterhourref02_Same.l0]
      rw [if_pos (by omega), if_pos (by omega), if_pos (by omega), if_neg (by simp), wr (by omega) (by omega)]
      exact ih (i + 1) k (by omega) (by omega)
  unfold waterhourref02_Same.f
  rw [if_pos rfl]
  exact key l.length 0 300 (by omega) (by omega)
theorem print_len {l : List S79} (h : validB l = true) : (printT l).length ≤ 10000000 := by
  have g := valid_len h
  have hl := join_len 32 300006 (l.map ringT) (by
    intro x hx
    obtain ⟨r, hr, rfl⟩ := List.mem_map.1 hx
    exact ring_len (valid_okR h hr))
  rw [List.length_map] at hl
  have := Nat.mul_le_mul_right 300007 (show l.length ≤ 24 by omega)
  unfold printT
  omega
theorem texts_says (l0 : List S79) (s : List UInt8) : ∃ (pa : List UInt8) (pe : Int) (px : List S79) (pxe : Int) (pt : List UInt8) (pte : Int),
    printF l0 = (pa, pe) ∧ parseF s = (px, pxe) ∧ printF px = (pt, pte) ∧ pa.length ≤ 10000000 ∧ px.length ≤ 200 ∧ (pe = 0 ∧ parseF pa = (l0, 0) ∧ l0.length ≤ 200 ∨ pe = 20) ∧ (pxe = 0 ∧ pte = 0 ∧ pt = s ∨ pxe = 3) := by
  refine ⟨(printF l0).1, (printF l0).2, (parseF s).1, (parseF s).2, (printF (parseF s).1).1, (printF (parseF s).1).2, rfl, rfl, rfl, ?_, ?_, ?_, ?_⟩
  · unfold printF
    by_cases hv : validB l0 = true
    · rw [if_pos hv]; exact print_len hv
    · rw [if_neg hv]; simp
  · by_cases hs : ∃ l, isText s l
    · obtain ⟨l, hl⟩ := hs
      rw [parse_ok hl]
      have := valid_len hl.1
      show l.length ≤ 200
      omega
    · rw [parse_no (fun l hl => hs ⟨l, hl⟩)]; simp
  · unfold printF
    by_cases hv : validB l0 = true
    · rw [if_pos hv]
      have := valid_len hv
      exact .inl ⟨rfl, parse_ok ⟨hv, rfl⟩, by omega⟩
    · rw [if_neg hv]; exact .inr rfl
  · by_cases hs : ∃ l, isText s l
    · obtain ⟨l, hl⟩ := hs
      rw [parse_ok hl]
      have hp : printF l = (printT l, 0) := by unfold printF; rw [if_pos hl.1]
      refine .inl ⟨rfl, ?_, ?_⟩
      · show (printF l).2 = 0
        rw [hp]
      · show (printF l).1 = s
        rw [hp]
        exact hl.2
    · rw [parse_no (fun l hl => hs ⟨l, hl⟩)]; exact .inr rfl
set_option maxHeartbeats 4000000 in
set_option maxRecDepth 100000 in
theorem texts.walk (A0 : Option Addr) (c0 : Nat) (l0 : List S79) (s : ByteArray) (w : World) (hr0 : Kd.C k79 w A0 l0.length l0) (hc0 : l0.length ≤ c0) (he : Env w) :
    Calls Tryz.prog 3 #[.slice A0 l0.length c0, .string s] w fun e w' => e = .returned (.bool true) ∧ Below w.heap.size w w' := by
  have hu35 := Tryz.underlying35
  have HR0 := Aside0.mk hr0
  have HC0 := Aside0.mk hc0
  have HE := Aside0.mk he
  clear hr0 hc0 he
  have HB := Aside0.mk (Below.refl w.heap.size w)
  cases hR : [l0].all fewB with
  | false =>
    have HF : Aside0 (waterhourlaw02_few.f [l0] = some false) := ⟨by simp only [waterhourlaw02_few.f, hR]; rfl⟩
    clear hR
    go_enter Tryz.func3, Tryz.ntmps3
    go_wp2_with fail
    refine (waterhourlaw02_sane.calls true _ rfl).mono ?_
    rintro e w1 ⟨rfl, hb⟩
    replace HB := bs_ HB (nb_ HB hb)
    clear hb
    go_wp2_with fail
    refine (waterhourlaw02_few.calls _ 1 [l0] false _ (litL (kc_ HR0 HB) HC0.out) (by simp) HF.out).mono ?_
    rintro e w2 ⟨rfl, hb⟩
    replace hb := below_step (below_alloc (Below.refl _ w1) _) hb
    replace HB := bs_ HB (nb_ HB hb)
    clear hb
    go_wp2
    go_ret
    exact ⟨by first | rfl | (simp; done), HB.out⟩
  | true =>
    have HF : Aside0 (waterhourlaw02_few.f [l0] = some true) := ⟨by simp only [waterhourlaw02_few.f, hR]; rfl⟩
    clear hR
    by_cases h2 : 2000 < s.size
    · have hd : decide ((2000 : Int) < (s.size : Int)) = true := decide_eq_true (by omega)
      have hd2 : decide (2000 < s.size) = true := decide_eq_true h2
      clear h2
      go_enter Tryz.func3, Tryz.ntmps3
      go_wp2_with fail
      refine (waterhourlaw02_sane.calls true _ rfl).mono ?_
      rintro e w1 ⟨rfl, hb⟩
      replace HB := bs_ HB (nb_ HB hb)
      clear hb
      go_wp2_with fail
      refine (waterhourlaw02_few.calls _ 1 [l0] true _ (litL (kc_ HR0 HB) HC0.out) (by simp) HF.out).mono ?_
      rintro e w2 ⟨rfl, hb⟩
      replace hb := below_step (below_alloc (Below.refl _ w1) _) hb
      replace HB := bs_ HB (nb_ HB hb)
      clear hb
      go_wp2
      go_ret
      exact ⟨by first | rfl | (simp; done), HB.out⟩
    · have hd : decide ((2000 : Int) < (s.size : Int)) = false := decide_eq_false (by omega)
      have hd2 : decide (2000 < s.size) = false := decide_eq_false h2
      have HS : Aside0 (s.size ≤ 10000000) := ⟨by omega⟩
      clear h2
      obtain ⟨pa, pe, px, pxe, pt, pte, e1, e2, e3, ha, hx, hway1, hway2⟩ := texts_says l0 s.data.toList
      obtain ⟨sa, hsa⟩ : ∃ z, strT pa = z := ⟨_, rfl⟩
      have hda : sa.data.toList = pa := by rw [← hsa, strT_data]
      have hza : sa.size ≤ 10000000 := by rw [← hsa, strT_size]; exact ha
      have P1 : Aside0 (∀ W, Below w.heap.size w W → Calls Tryz.prog 6 #[.slice A0 l0.length c0] W fun e w' => e = .returned (.tuple #[.string sa, .int .i64 pe]) ∧ Below W.heap.size W w') := ⟨fun W hB => by have h := vessel_Print.calls A0 c0 l0 W (Kd.C_below HR0.out hB) HC0.out (HE.out.below hB); rwa [e1, hsa] at h⟩
      have P2 : Aside0 (∀ W, Below w.heap.size w W → Calls Tryz.prog 7 #[.slice A0 l0.length c0] W fun e w' => e = .returned (.tuple #[.string sa, .int .i64 pe]) ∧ Below W.heap.size W w') := ⟨fun W hB => by have h := ref_Print.calls A0 c0 l0 W (Kd.C_below HR0.out hB) (HE.out.below hB); rwa [e1, hsa] at h⟩
      have Q1 : Aside0 (∀ W, Below w.heap.size w W → Calls Tryz.prog 8 #[.string s] W fun e w' => ∃ v0_ : Value, e = .returned (.tuple #[v0_, .int .i64 pxe]) ∧ R35 w' W.heap.size v0_ px ∧ Below W.heap.size W w') := ⟨fun W hB => by have h := vessel_Parse.calls s W HS.out (HE.out.below hB); rwa [e2] at h⟩
      have Q2 : Aside0 (∀ W, Below w.heap.size w W → Calls Tryz.prog 9 #[.string s] W fun e w' => ∃ v0_ : Value, e = .returned (.tuple #[v0_, .int .i64 pxe]) ∧ R35 w' W.heap.size v0_ px ∧ Below W.heap.size W w') := ⟨fun W hB => by have h := ref_Parse.calls s W HS.out (HE.out.below hB); rwa [e2] at h⟩
      have P3 : Aside0 (∀ W A c, Below w.heap.size w W → Kd.C k79 W A px.length px → px.length ≤ c → Calls Tryz.prog 6 #[.slice A px.length c] W fun e w' => e = .returned (.tuple #[.string (strT pt), .int .i64 pte]) ∧ Below W.heap.size W w') := ⟨fun W A c hB hk hc => by have h := vessel_Print.calls A c px W hk hc (HE.out.below hB); rwa [e3] at h⟩
      have HLX := Aside0.mk (same_self px hx)
      have HW2 := Aside0.mk hway2
      clear e1 e2 e3 ha hx hway2 hsa
      rcases hway1 with hway1 | hway1
      · obtain ⟨rfl, hpp, hll⟩ := hway1
        have Q3 : Aside0 (∀ W, Below w.heap.size w W → Calls Tryz.prog 8 #[.string sa] W fun e w' => ∃ v0_ : Value, e = .returned (.tuple #[v0_, .int .i64 0]) ∧ R35 w' W.heap.size v0_ l0 ∧ Below W.heap.size W w') := ⟨fun W hB => by have h := vessel_Parse.calls sa W hza (HE.out.below hB); rwa [hda, hpp] at h⟩
        have HLL := Aside0.mk (same_self l0 hll)
        clear hpp hll hda hza
        go_enter Tryz.func3, Tryz.ntmps3
        go_wp2_with fail
        refine (waterhourlaw02_sane.calls true _ rfl).mono ?_
        rintro e w1 ⟨rfl, hb⟩
        replace HB := bs_ HB (nb_ HB hb)
        clear hb
        go_wp2_with fail
        refine (waterhourlaw02_few.calls _ 1 [l0] true _ (litL (kc_ HR0 HB) HC0.out) (by simp) HF.out).mono ?_
        rintro e w2 ⟨rfl, hb⟩
        replace hb := below_step (below_alloc (Below.refl _ w1) _) hb
        replace HB := bs_ HB (nb_ HB hb)
        clear hb
        go_wp2_with fail
        refine (P1.out _ HB.out).mono ?_
        rintro e w3 ⟨rfl, hb⟩
        replace hb := nb_ HB hb
        replace HB := bs_ HB hb
        clear hb
        go_wp2_with fail
        refine (P2.out _ HB.out).mono ?_
        rintro e w4 ⟨rfl, hb⟩
        replace hb := nb_ HB hb
        replace HB := bs_ HB hb
        clear hb
        go_wp2_with fail
        refine (Q1.out _ HB.out).mono ?_
        rintro e w5 ⟨v1, rfl, ho, hb⟩
        obtain ⟨A1, c1, rfl, hc1, k1⟩ := Kd.R_reads ho
        have C1 := Aside0.mk hc1
        have K1 := Aside0.mk k1
        clear ho hc1 k1
        replace hb := nb_ HB hb
        replace HB := bs_ HB hb
        clear hb
        go_wp2_with fail
        refine (Q2.out _ HB.out).mono ?_
        rintro e w6 ⟨v1, rfl, ho, hb⟩
        obtain ⟨A2, c2, rfl, hc1, k1⟩ := Kd.R_reads ho
        have C2 := Aside0.mk hc1
        have K2 := Aside0.mk k1
        clear ho hc1 k1
        replace hb := nb_ HB hb
        replace K1 := Aside0.mk (Kd.C_below K1.out hb)
        replace HB := bs_ HB hb
        clear hb
        go_wp2_with fail
        refine (waterhourref02_Same.calls 300 A1 c1 px A2 c2 px true _ K1.out C1.out K2.out C2.out HLX.out).mono ?_
        rintro e w7 ⟨rfl, hb⟩
        replace hb := hb.below
        replace hb := nb_ HB hb
        replace K1 := Aside0.mk (Kd.C_below K1.out hb)
        replace HB := bs_ HB hb
        clear hb
        go_wp2_with fail
        refine (Q3.out _ HB.out).mono ?_
        rintro e w8 ⟨v1, rfl, ho, hb⟩
        obtain ⟨A3, c3, rfl, hc1, k1⟩ := Kd.R_reads ho
        have C3 := Aside0.mk hc1
        have K3 := Aside0.mk k1
        clear ho hc1 k1
        replace hb := nb_ HB hb
        replace K1 := Aside0.mk (Kd.C_below K1.out hb)
        replace HB := bs_ HB hb
        clear hb
        go_wp2_with fail
        refine (waterhourref02_Same.calls 300 A3 c3 l0 A0 c0 l0 true _ K3.out C3.out (kc_ HR0 HB) HC0.out HLL.out).mono ?_
        rintro e w9 ⟨rfl, hb⟩
        replace hb := hb.below
        replace hb := nb_ HB hb
        replace K1 := Aside0.mk (Kd.C_below K1.out hb)
        replace HB := bs_ HB hb
        clear hb
        go_wp2_with fail
        refine (P3.out _ A1 c1 HB.out K1.out C1.out).mono ?_
        rintro e w10 ⟨rfl, hb⟩
        replace hb := nb_ HB hb
        replace HB := bs_ HB hb
        clear hb
        rcases HW2.out with ⟨rfl, rfl, rfl⟩ | rfl
        · have hte : ((strT s.data.toList).toList == s.toList) = true := by rw [strT_of]; exact beq_self_eq_true _
          go_wp2
          go_ret
          exact ⟨by first | rfl | (simp; done), HB.out⟩
        · go_wp2
          go_ret
          exact ⟨by first | rfl | (simp; done), HB.out⟩
      · subst hway1
        clear hda hza
        go_enter Tryz.func3, Tryz.ntmps3
        go_wp2_with fail
        refine (waterhourlaw02_sane.calls true _ rfl).mono ?_
        rintro e w1 ⟨rfl, hb⟩
        replace HB := bs_ HB (nb_ HB hb)
        clear hb
        go_wp2_with fail
        refine (waterhourlaw02_few.calls _ 1 [l0] true _ (litL (kc_ HR0 HB) HC0.out) (by simp) HF.out).mono ?_
        rintro e w2 ⟨rfl, hb⟩
        replace hb := below_step (below_alloc (Below.refl _ w1) _) hb
        replace HB := bs_ HB (nb_ HB hb)
        clear hb
        go_wp2_with fail
        refine (P1.out _ HB.out).mono ?_
        rintro e w3 ⟨rfl, hb⟩
        replace hb := nb_ HB hb
        replace HB := bs_ HB hb
        clear hb
        go_wp2_with fail
        refine (P2.out _ HB.out).mono ?_
        rintro e w4 ⟨rfl, hb⟩
        replace hb := nb_ HB hb
        replace HB := bs_ HB hb
        clear hb
        go_wp2_with fail
        refine (Q1.out _ HB.out).mono ?_
        rintro e w5 ⟨v1, rfl, ho, hb⟩
        obtain ⟨A1, c1, rfl, hc1, k1⟩ := Kd.R_reads ho
        have C1 := Aside0.mk hc1
        have K1 := Aside0.mk k1
        clear ho hc1 k1
        replace hb := nb_ HB hb
        replace HB := bs_ HB hb
        clear hb
        go_wp2_with fail
        refine (Q2.out _ HB.out).mono ?_
        rintro e w6 ⟨v1, rfl, ho, hb⟩
        obtain ⟨A2, c2, rfl, hc1, k1⟩ := Kd.R_reads ho
        have C2 := Aside0.mk hc1
        have K2 := Aside0.mk k1
        clear ho hc1 k1
        replace hb := nb_ HB hb
        replace K1 := Aside0.mk (Kd.C_below K1.out hb)
        replace HB := bs_ HB hb
        clear hb
        go_wp2_with fail
        refine (waterhourref02_Same.calls 300 A1 c1 px A2 c2 px true _ K1.out C1.out K2.out C2.out HLX.out).mono ?_
        rintro e w7 ⟨rfl, hb⟩
        replace hb := hb.below
        replace hb := nb_ HB hb
        replace K1 := Aside0.mk (Kd.C_below K1.out hb)
        replace HB := bs_ HB hb
        clear hb
        go_wp2_with fail
        refine (P3.out _ A1 c1 HB.out K1.out C1.out).mono ?_
        rintro e w10 ⟨rfl, hb⟩
        replace hb := nb_ HB hb
        replace HB := bs_ HB hb
        clear hb
        rcases HW2.out with ⟨rfl, rfl, rfl⟩ | rfl
        · have hte : ((strT s.data.toList).toList == s.toList) = true := by rw [strT_of]; exact beq_self_eq_true _
          go_wp2
          go_ret
          exact ⟨by first | rfl | (simp; done), HB.out⟩
        · go_wp2
          go_ret
          exact ⟨by first | rfl | (simp; done), HB.out⟩
end Go.Proofs.YtlhfclpbodfmcaaGreatDoor.Pr
