/- A part of the proof: Ro. -/
import Derived.Test.YtlhfclpbodfmcaaYWVm
import Derived.Test.YtlhfclpbodfmcaaYWKq
import Derived.Test.YtlhfclpbodfmcaaXLb
namespace Go.Proofs.Ytlhfclpbodfmcaa.Pr
open Go.RowKit Go.Proofs.YtlhfclpbodfmcaaW.PrintWords Go.Proofs.YtlhfclpbodfmcaaW.PrintLast Go.Proofs.YtlhfclpbodfmcaaW.PrintMore
open Go.Proofs.Ytlhfclpbodfmcaa.Vm
set_option linter.unusedVariables false
set_option linter.unusedSimpArgs false
attribute [local go_sem] fld79_0 fld79_1 fld79_2 max2_int max_two
def ref_Received.T20 : Bool × List (List Nat × List Nat) := (true, [([], []), ([], []), ([0, 1], [0, 1]), ([], []), ([3], [3]), ([2, 4, 2], [2, 4]), ([], []), ([6, 5, 5, 0, 1, 2, 3, 4, 5, 6], [5, 6])])
def ref_Received.B20 : List Nat := [0, 0, 3, 0, 8, 31, 0, 127]
theorem ref_Received.tab20 : rtab .any (opsOf Try.f36 20) = ref_Received.T20 := by kernel_rfl
theorem ref_Received.bits20 : waitsOk ref_Received.T20.2 ref_Received.B20 = true := by kernel_rfl
set_option maxHeartbeats 1600000 in
set_option maxRecDepth 100000 in
theorem ref_Received.calls (A0 : Option Addr) (c0 : Nat) (l0 : List S79) (A1 : Option Addr) (c1 : Nat) (l1 : List S79) (a x : Int) (w : World) (hr0 : Kd.C k79 w A0 l0.length l0) (hr1 : Kd.C k79 w A1 l1.length l1) : Calls Try.prog 36 #[.slice A0 l0.length c0, .slice A1 l1.length c1, .int .i64 a, .int .i64 x] w fun e w' => e = .returned (.tuple #[.agg #[.int .i64 (ReceivedF l0 l1 a x).1, .int .i64 (ReceivedF l0 l1 a x).2.1], .int .i64 (ReceivedF l0 l1 a x).2.2]) ∧ Below w.heap.size w w' := by
  have hu27 := Try.underlying27
  have hu96 := Try.underlying96
  have HR0 := Aside0.mk hr0
  have HR1 := Aside0.mk hr1
  clear hr0 hr1
  have HB := Aside0.mk (Below.refl w.heap.size w)
  have K0 : Aside0 (∀ W, Below w.heap.size w W → Calls Try.prog 53 #[.slice A0 l0.length c0] W fun e w' => e = .returned (.int .i64 (checkF l0)) ∧ Below W.heap.size W w') := ⟨fun W hB => ref_Check.calls A0 c0 l0 W (Kd.C_below HR0.out hB)⟩
  have K1 : Aside0 (∀ W, Below w.heap.size w W → Calls Try.prog 53 #[.slice A1 l1.length c1] W fun e w' => e = .returned (.int .i64 (checkF l1)) ∧ Below W.heap.size W w') := ⟨fun W hB => ref_Check.calls A1 c1 l1 W (Kd.C_below HR1.out hB)⟩
  go_enter Try.func36, Try.ntmps36
  go_wp2_with (first | ((with_reducible refine gate_dst (N := 8) rfl ?_); refine bx_ 8 #[.int .i64 0, .int .i64 0] 27 ?_; intro gb hg w1 hbox hb; have GEgb := ge_ hg HB; replace hb := nb_ HB hb; replace HB := bs_ HB hb; have BKgb := Aside0.mk hbox; clear hb hbox hg))
  cases hv : validB l0
  · have HF : Aside0 (ReceivedF l0 l1 a x = (0, 0, 20)) := ⟨by unfold ReceivedF; rw [hv]; rfl⟩
    have hc_ : checkF l0 = 20 := by unfold checkF; rw [hv]; rfl
    have h_ := K0.out
    rw [hc_] at h_
    have K0v := Aside0.mk h_
    clear h_ hc_ K0
    clear hv
    go_wp2_with fail
    refine (K0v.out _ HB.out).mono ?_
    rintro e w2 ⟨rfl, hb⟩
    replace hb := nb_ HB hb
    replace BKgb := kb_ BKgb hb
    replace HB := bs_ HB hb
    clear hb
    go_wp2_with (first | ((with_reducible refine gate_store (t := 27) (p := 8) rfl ?_); have hc_ := cf2_ BKgb; refine st2_ ?_; intro w3 hp_; clear hc_; replace BKgb := pp2_ BKgb hp_; replace HB := pb2_ GEgb HB hp_; clear hp_))
    try go_wp2
    refine bodyPost_ret (results_ct rfl _ _ gb 27 #[.int .i64 0, .int .i64 0] (0, 0) _ rfl BKgb.out Try.underlying27 rfl (by kernel_rfl)) rfl ?_
    exact ⟨by first | (rw [HF.out]; done) | (rw [HF.out]; rfl), HB.out⟩
  · have hc_ : checkF l0 = 0 := by unfold checkF; rw [hv]; rfl
    have h_ := K0.out
    rw [hc_] at h_
    have K0v := Aside0.mk h_
    clear h_ hc_ K0
    have HV := Aside0.mk hv
    have HG : Aside0 (GV (hsO l0) (vsO l0) (dsO l0)) := ⟨valid_GV hv⟩
    clear hv
    go_wp2_with fail
    refine (K0v.out _ HB.out).mono ?_
    rintro e w2 ⟨rfl, hb⟩
    replace hb := nb_ HB hb
    replace BKgb := kb_ BKgb hb
    replace HB := bs_ HB hb
    clear hb
    cases hu : validB l1
    · have HF : Aside0 (ReceivedF l0 l1 a x = (0, 0, 20)) := ⟨by unfold ReceivedF; rw [HV.out, hu]; rfl⟩
      have hc_ : checkF l1 = 20 := by unfold checkF; rw [hu]; rfl
      have h_ := K1.out
      rw [hc_] at h_
      have K1v := Aside0.mk h_
      clear h_ hc_ K1
      clear hu
      go_wp2_with fail
      refine (K1v.out _ HB.out).mono ?_
      rintro e w3 ⟨rfl, hb⟩
      replace hb := nb_ HB hb
      replace BKgb := kb_ BKgb hb
      replace HB := bs_ HB hb
      clear hb
      go_wp2_with (first | ((with_reducible refine gate_store (t := 27) (p := 8) rfl ?_); have hc_ := cf2_ BKgb; refine st2_ ?_; intro w4 hp_; clear hc_; replace BKgb := pp2_ BKgb hp_; replace HB := pb2_ GEgb HB hp_; clear hp_))
      try go_wp2
      refine bodyPost_ret (results_ct rfl _ _ gb 27 #[.int .i64 0, .int .i64 0] (0, 0) _ rfl BKgb.out Try.underlying27 rfl (by kernel_rfl)) rfl ?_
      exact ⟨by first | (rw [HF.out]; done) | (rw [HF.out]; rfl), HB.out⟩
    · have hc_ : checkF l1 = 0 := by unfold checkF; rw [hu]; rfl
      have h_ := K1.out
      rw [hc_] at h_
      have K1v := Aside0.mk h_
      clear h_ hc_ K1
      have HU := Aside0.mk hu
      have HG1 : Aside0 (GV (hsO l1) (vsO l1) (dsO l1)) := ⟨valid_GV hu⟩
      clear hu
      go_wp2_with fail
      refine (K1v.out _ HB.out).mono ?_
      rintro e w3 ⟨rfl, hb⟩
      replace hb := nb_ HB hb
      replace BKgb := kb_ BKgb hb
      replace HB := bs_ HB hb
      clear hb
      have C4 : Aside0 (∀ W, Below w.heap.size w W → Calls Try.prog 103 #[.slice A0 l0.length c0] W fun e w' => e = .returned (.int .i64 (sm (hsO l0))) ∧ Below W.heap.size W w') := ⟨fun W hB => ref_high.calls A0 c0 l0 W (Kd.C_below HR0.out hB) HG.out⟩
      have C5 : Aside0 (∀ W, Below w.heap.size w W → Calls Try.prog 103 #[.slice A1 l1.length c1] W fun e w' => e = .returned (.int .i64 (sm (hsO l1))) ∧ Below W.heap.size W w') := ⟨fun W hB => ref_high.calls A1 c1 l1 W (Kd.C_below HR1.out hB) HG1.out⟩
      go_wp2_with fail
      refine (C4.out _ HB.out).mono ?_
      rintro e w4 ⟨rfl, hb⟩
      replace hb := nb_ HB hb
      replace BKgb := kb_ BKgb hb
      replace HB := bs_ HB hb
      clear hb
      clear C4
      cases ha : lvB l0 a
      · have HF : Aside0 (ReceivedF l0 l1 a x = (0, 0, 1)) := ⟨by unfold ReceivedF; rw [HV.out, HU.out, ha]; rfl⟩
        have C6 : Aside0 (∀ W, Calls Try.prog 104 #[.int .i64 a, .int .i64 0, .int .i64 (sm (hsO l0))] W fun e w' => e = .returned (.bool false) ∧ Below W.heap.size W w') := ⟨fun W => ha ▸ inB_lvB l0 _ ▸ ref_within.calls a 0 (sm (hsO l0)) W⟩
        clear ha
        go_wp2_with fail
        refine (C6.out _).mono ?_
        rintro e w5 ⟨rfl, hb⟩
        replace hb := nb_ HB hb
        replace BKgb := kb_ BKgb hb
        replace HB := bs_ HB hb
        clear hb
        go_wp2_with (first | ((with_reducible refine gate_store (t := 27) (p := 8) rfl ?_); have hc_ := cf2_ BKgb; refine st2_ ?_; intro w6 hp_; clear hc_; replace BKgb := pp2_ BKgb hp_; replace HB := pb2_ GEgb HB hp_; clear hp_))
        try go_wp2
        refine bodyPost_ret (results_ct rfl _ _ gb 27 #[.int .i64 0, .int .i64 0] (0, 0) _ rfl BKgb.out Try.underlying27 rfl (by kernel_rfl)) rfl ?_
        exact ⟨by first | (rw [HF.out]; done) | (rw [HF.out]; rfl), HB.out⟩
      · have C6 : Aside0 (∀ W, Calls Try.prog 104 #[.int .i64 a, .int .i64 0, .int .i64 (sm (hsO l0))] W fun e w' => e = .returned (.bool true) ∧ Below W.heap.size W w') := ⟨fun W => ha ▸ inB_lvB l0 _ ▸ ref_within.calls a 0 (sm (hsO l0)) W⟩
        have HLA := Aside0.mk ha
        clear ha
        go_wp2_with fail
        refine (C6.out _).mono ?_
        rintro e w5 ⟨rfl, hb⟩
        replace hb := nb_ HB hb
        replace BKgb := kb_ BKgb hb
        replace HB := bs_ HB hb
        clear hb
        clear C6
        go_wp2_with fail
        refine (C5.out _ HB.out).mono ?_
        rintro e w6 ⟨rfl, hb⟩
        replace hb := nb_ HB hb
        replace BKgb := kb_ BKgb hb
        replace HB := bs_ HB hb
        clear hb
        clear C5
        cases hx : lvB l1 x
        · have HF : Aside0 (ReceivedF l0 l1 a x = (0, 0, 1)) := ⟨by unfold ReceivedF; rw [HV.out, HU.out, HLA.out, hx]; rfl⟩
          have C6 : Aside0 (∀ W, Calls Try.prog 104 #[.int .i64 x, .int .i64 0, .int .i64 (sm (hsO l1))] W fun e w' => e = .returned (.bool false) ∧ Below W.heap.size W w') := ⟨fun W => hx ▸ inB_lvB l1 _ ▸ ref_within.calls x 0 (sm (hsO l1)) W⟩
          clear hx
          go_wp2_with fail
          refine (C6.out _).mono ?_
          rintro e w7 ⟨rfl, hb⟩
          replace hb := nb_ HB hb
          replace BKgb := kb_ BKgb hb
          replace HB := bs_ HB hb
          clear hb
          go_wp2_with (first | ((with_reducible refine gate_store (t := 27) (p := 8) rfl ?_); have hc_ := cf2_ BKgb; refine st2_ ?_; intro w8 hp_; clear hc_; replace BKgb := pp2_ BKgb hp_; replace HB := pb2_ GEgb HB hp_; clear hp_))
          try go_wp2
          refine bodyPost_ret (results_ct rfl _ _ gb 27 #[.int .i64 0, .int .i64 0] (0, 0) _ rfl BKgb.out Try.underlying27 rfl (by kernel_rfl)) rfl ?_
          exact ⟨by first | (rw [HF.out]; done) | (rw [HF.out]; rfl), HB.out⟩
        · have C6 : Aside0 (∀ W, Calls Try.prog 104 #[.int .i64 x, .int .i64 0, .int .i64 (sm (hsO l1))] W fun e w' => e = .returned (.bool true) ∧ Below W.heap.size W w') := ⟨fun W => hx ▸ inB_lvB l1 _ ▸ ref_within.calls x 0 (sm (hsO l1)) W⟩
          have HL : Aside0 (VL l0 a) := ⟨⟨HV.out, (lvB_iff.1 HLA.out).1, (lvB_iff.1 HLA.out).2⟩⟩
          have HX1 : Aside0 (VL l1 x) := ⟨⟨HU.out, (lvB_iff.1 hx).1, (lvB_iff.1 hx).2⟩⟩
          clear hx
          go_wp2_with fail
          refine (C6.out _).mono ?_
          rintro e w7 ⟨rfl, hb⟩
          replace hb := nb_ HB hb
          replace BKgb := kb_ BKgb hb
          replace HB := bs_ HB hb
          clear hb
          clear C6
          have C7 : Aside0 (∀ W, Below w.heap.size w W → Calls Try.prog 91 #[.slice A0 l0.length c0, .int .i64 (l0.length : Int)] W fun e w' => e = .returned (.agg #[.int .i64 (sm (hsO l0)), .int .i64 (sm (vsO l0)), .int .i64 (sm (dsO l0))]) ∧ Below W.heap.size W w') := ⟨fun W hB => by
            have h := ref_Sums.calls A0 c0 l0 l0.length W (Kd.C_below HR0.out hB) HG.out (Nat.le_refl _)
            rwa [List.take_of_length_le (l := hsO l0) (by simp), List.take_of_length_le (l := vsO l0) (by simp), List.take_of_length_le (l := dsO l0) (by simp)] at h⟩
          go_wp2_with fail
          refine (C7.out _ HB.out).mono ?_
          rintro e w8 ⟨rfl, hb⟩
          replace hb := nb_ HB hb
          replace BKgb := kb_ BKgb hb
          replace HB := bs_ HB hb
          clear hb
          clear C7
          have HS := Aside0.mk (And.intro HG.out.d.pos.sum HG.out.sums.2.2)
          have C5 : Aside0 (∀ W, Below w.heap.size w W → Calls Try.prog 102 #[.slice A0 l0.length c0, .slice A1 l1.length c1, .int .i64 a, .int .i64 (sm (dsO l0)), .int .i64 x] W fun e w' => e = .returned (.int .i64 (ranC l0 l1 a (sm (dsO l0)) (x))) ∧ Below W.heap.size W w') := ⟨fun W hB => ref_ran.calls A0 c0 l0 A1 c1 l1 a (sm (dsO l0)) (x) W (Kd.C_below HR0.out hB) (Kd.C_below HR1.out hB) HL.out HX1.out HS.out.1 (by have := HS.out; omega)⟩
          go_wp2_with fail
          refine (C5.out _ HB.out).mono ?_
          rintro e w9 ⟨rfl, hb⟩
          replace hb := nb_ HB hb
          replace BKgb := kb_ BKgb hb
          replace HB := bs_ HB hb
          clear hb
          clear C5
          by_cases hp : 0 ≤ ranC l0 l1 a (sm (dsO l0)) x
          · have hpd : decide (ranC l0 l1 a (sm (dsO l0)) x < 0) = false := decide_eq_false (by omega)
            have HR : Aside0 (vT l1 (x : Rat) ≤ runX l0 a (sm (dsO l0))) := ⟨ranC_nn.1 hp⟩
            have HR2 : Aside0 (vT l1 (x : Rat) ≤ vT l0 (a : Rat)) := ⟨by rw [← run_all HL.out]; exact HR.out⟩
            clear hp
            go_wp2
            clear hpd
            go_loopg [13, 14] (sm (dsO l0)).toNat (fun kq v13 v14 w' => ∃ lo hi : Int, v13 = .int .i64 lo ∧ v14 = .int .i64 hi ∧ Aside0 (0 ≤ lo ∧ lo ≤ hi ∧ hi ≤ sm (dsO l0) ∧ vT l1 (x : Rat) ≤ runX l0 a hi ∧ (0 < lo → runX l0 a (lo - 1) < vT l1 (x : Rat)) ∧ (hi - lo).toNat ≤ kq) ∧ Aside0 (w'.heap[gb]? = some (.cells #[.int .i64 0, .int .i64 0] 27 (0, 0))) ∧ Aside0 (Below w.heap.size w w'))
            case atStart => exact ⟨0, _, rfl, rfl, ⟨by omega, HS.out.1, by omega, HR.out, fun h => by omega, by omega⟩, BKgb, HB⟩
            case round =>
              clear BKgb HB
              obtain ⟨lo, hi, rfl, rfl, HI, BKgb, HB⟩ := hrel
              by_cases hlt : lo < hi
              · have hd : decide (lo < hi) = true := decide_eq_true hlt
                have HQ : Aside0 (lo ≤ (lo + hi) / 2 ∧ (lo + hi) / 2 < hi ∧ lo < hi) := ⟨by omega⟩
                have e1 : wrap64 (lo + hi) = lo + hi := by have h := HI.out; have := HS.out; exact wrp_ (by omega) (by omega)
                have e3 : (lo + hi).tdiv 2 = (lo + hi) / 2 := Int.tdiv_eq_ediv_of_nonneg (by have h := HI.out; omega)
                have e4 : wrap64 ((lo + hi) / 2) = (lo + hi) / 2 := by have h := HI.out; have := HS.out; exact wrp_ (by omega) (by omega)
                have e5 : wrap64 ((lo + hi) / 2 + 1) = (lo + hi) / 2 + 1 := by have h := HI.out; have := HS.out; exact wrp_ (by omega) (by omega)
                have q0 : 0 ≤ lo + hi := by have h := HI.out; omega
                have C5 : Aside0 (∀ W, Below w.heap.size w W → Calls Try.prog 102 #[.slice A0 l0.length c0, .slice A1 l1.length c1, .int .i64 a, .int .i64 ((lo + hi) / 2), .int .i64 x] W fun e w' => e = .returned (.int .i64 (ranC l0 l1 a ((lo + hi) / 2) (x))) ∧ Below W.heap.size W w') := ⟨fun W hB => ref_ran.calls A0 c0 l0 A1 c1 l1 a ((lo + hi) / 2) (x) W (Kd.C_below HR0.out hB) (Kd.C_below HR1.out hB) HL.out HX1.out (by have h := HI.out; have := HQ.out; omega) (by have h := HI.out; have := HQ.out; have := HS.out; omega)⟩
                clear hlt
                go_wp2_with fail
                refine (C5.out _ HB.out).mono ?_
                rintro e v1 ⟨rfl, hb⟩
                replace hb := nb_ HB hb
                replace BKgb := kb_ BKgb hb
                replace HB := bs_ HB hb
                clear hb
                clear C5
                by_cases hc : 0 ≤ ranC l0 l1 a ((lo + hi) / 2) x
                · have hcd : decide (0 ≤ ranC l0 l1 a ((lo + hi) / 2) x) = true := decide_eq_true hc
                  have HX := Aside0.mk (ranC_nn.1 hc)
                  clear hc
                  go_wp2
                  go_roundg (gk - 1)
                  case measure => have := HI.out; have := HQ.out; omega
                  case rel => exact ⟨lo, (lo + hi) / 2, rfl, by first | rfl | (simp only [*]; done), ⟨HI.out.1, HQ.out.1, by have := HI.out; have := HQ.out; omega, HX.out, HI.out.2.2.2.2.1, by have := HI.out; have := HQ.out; omega⟩, BKgb, HB⟩
                · have hcd : decide (0 ≤ ranC l0 l1 a ((lo + hi) / 2) x) = false := decide_eq_false hc
                  have HX : Aside0 (runX l0 a ((lo + hi) / 2) < vT l1 (x : Rat)) := ⟨by have h := fun y => hc (ranC_nn.2 y); grind⟩
                  clear hc
                  go_wp2
                  go_roundg (gk - 1)
                  case measure => have := HI.out; have := HQ.out; omega
                  case rel => exact ⟨(lo + hi) / 2 + 1, hi, by first | rfl | (simp only [*]; done), rfl, ⟨by have := HI.out; have := HQ.out; omega, by have := HQ.out; omega, HI.out.2.2.1, HI.out.2.2.2.1, fun _ => (by rw [show (lo + hi) / 2 + 1 - 1 = (lo + hi) / 2 by omega]; exact HX.out), by have := HI.out; have := HQ.out; omega⟩, BKgb, HB⟩
              · have hd : decide (lo < hi) = false := decide_eq_false hlt
                have HF0 : Aside0 (ReceivedF l0 l1 a x = if ranC l0 l1 a lo x = 0 then (if (mT l0 (a : Rat)).floor < lo then ((mT l0 (a : Rat)).floor, (mT l0 (a : Rat)).ceil, 0) else (lo, lo, 0)) else (lo - 1, lo, 0)) := ⟨by
                  have e : lo = hi := by have := HI.out; omega
                  have h4 := HI.out.2.2.2.1
                  rw [← e] at h4
                  exact rec_fin HL.out HX1.out HR2.out HI.out.1 h4 HI.out.2.2.2.2.1⟩
                have C5 : Aside0 (∀ W, Below w.heap.size w W → Calls Try.prog 102 #[.slice A0 l0.length c0, .slice A1 l1.length c1, .int .i64 a, .int .i64 lo, .int .i64 x] W fun e w' => e = .returned (.int .i64 (ranC l0 l1 a (lo) (x))) ∧ Below W.heap.size W w') := ⟨fun W hB => ref_ran.calls A0 c0 l0 A1 c1 l1 a (lo) (x) W (Kd.C_below HR0.out hB) (Kd.C_below HR1.out hB) HL.out HX1.out HI.out.1 (by have := HI.out; have := HS.out; omega)⟩
                have e1 : wrap64 (lo - 1) = lo - 1 := by have h := HI.out; have := HS.out; exact wrp_ (by omega) (by omega)
                clear hlt
                go_wp2_with fail
                refine (C5.out _ HB.out).mono ?_
                rintro e v1 ⟨rfl, hb⟩
                replace hb := nb_ HB hb
                replace BKgb := kb_ BKgb hb
                replace HB := bs_ HB hb
                clear hb
                clear C5
                by_cases hc : ranC l0 l1 a lo x = 0
                · have hcd : (ranC l0 l1 a lo x == 0) = true := beq_iff_eq.2 hc
                  have HF1 : Aside0 (ReceivedF l0 l1 a x = if (mT l0 (a : Rat)).floor < lo then ((mT l0 (a : Rat)).floor, (mT l0 (a : Rat)).ceil, 0) else (lo, lo, 0)) := ⟨by rw [HF0.out, if_pos hc]⟩
                  clear hc
                  have C1 : Aside0 (∀ W, Below w.heap.size w W → Calls Try.prog 78 #[.slice A0 l0.length c0, .int .i64 a] W (PlaceP W (hsO l0) (a : Rat) (1000 * 1))) := ⟨fun W hB => by
                    have h := ref_AtLevel.calls A0 c0 l0 a W (Kd.C_below HR0.out hB) HG.out HL.out.h0 (by have := HL.out.h1; omega)
                    rwa [div_one_] at h⟩
                  go_wp2_with fail
                  refine (C1.out _ HB.out).mono ?_
                  rintro e v2 ⟨p, rfl, hp_, hv_, hd_, hb⟩
                  have HP := Aside0.mk (And.intro hp_ (And.intro hv_ hd_))
                  clear hp_ hv_ hd_
                  replace hb := nb_ HB hb
                  replace BKgb := kb_ BKgb hb
                  replace HB := bs_ HB hb
                  clear hb C1
                  go_upto_region 20 with (fail)
                  have BKgp := Aside0.mk (blk_new v2 (.cells #[.int .i64 ((p.r : Int)), .int .i64 (p.n), .int .i64 (p.d)] 96 (0, 0)))
                  have hb := below_alloc (Below.refl _ v2) (.cells #[.int .i64 ((p.r : Int)), .int .i64 (p.n), .int .i64 (p.d)] 96 (0, 0))
                  have NEgb_gp : Aside0 (gb ≠ v2.heap.size) := ne_ rfl BKgb
                  replace BKgb := kb_ BKgb hb
                  have GEgp : Aside0 (w.heap.size ≤ v2.heap.size) := ge_ rfl HB
                  replace HB := bs_ HB hb
                  clear hb
                  generalize v2.alloc (.cells #[.int .i64 ((p.r : Int)), .int .i64 (p.n), .int .i64 (p.d)] 96 (0, 0)) = v3 at BKgp BKgb HB ⊢
                  generalize v2.heap.size = gp at BKgp GEgp NEgb_gp ⊢
                  have TP := Aside0.mk (timeN_bd HG.out.d (p := p) (by have h := okl HP.out.1; simpa using h))
                  have HD : Aside0 (1 ≤ p.d ∧ p.d ≤ 1000) := ⟨⟨HP.out.1.2.2.2, Int.le_trans HP.out.2.2 (by omega)⟩⟩
                  have HT : Aside0 (spanD (timeN (dsO l0) p) p.d = ((mT l0 (a : Rat)).floor, (mT l0 (a : Rat)).ceil)) := ⟨spanD_v HD.out.1 (time_conv HG.out.hd HG.out.h.pos HG.out.d.pos HP.out.1 HP.out.2.1)⟩
                  have C2 : Aside0 (∀ W, Below w.heap.size w W → Calls Try.prog 80 #[.slice A0 l0.length c0, .agg #[.int .i64 ((p).r : Int), .int .i64 (p).n, .int .i64 (p).d]] W fun e w' => e = .returned (.int .i64 (timeN (dsO l0) p)) ∧ Below W.heap.size W w') := ⟨fun W hB => ref_Time.calls A0 c0 l0 p W (Kd.C_below HR0.out hB) HG.out (okl HP.out.1) (Int.le_trans HP.out.2.2 (by omega))⟩
                  have C3 : Aside0 (∀ W, Calls Try.prog 85 #[.int .i64 (timeN (dsO l0) p), .int .i64 (p.d)] W fun e w' => e = .returned (.agg #[.int .i64 (spanD (timeN (dsO l0) p) p.d).1, .int .i64 (spanD (timeN (dsO l0) p) p.d).2]) ∧ Below W.heap.size W w') := ⟨fun W => by
                    have hd := HD.out
                    have tp := TP.out
                    have hS := HG.out.sums
                    have b1 := mulBd_ HG.out.d.pos.sum hS.2.2 (show 0 ≤ p.d by omega) hd.2
                    exact ref_span.calls _ _ W tp.1 (by omega) hd.1 (by omega)⟩
                  replace BKgb := kd_ BKgb
                  replace BKgp := kd_ BKgp
                  replace HB := bd_ HB
                  refine sM_ [7] (fun w' => (w'.cell? ⟨gp, 0, none⟩ = some (.int .i64 ((p.r : Int))) ∧ w'.cell? ⟨gp, 1, none⟩ = some (.int .i64 (p.n)) ∧ w'.cell? ⟨gp, 2, none⟩ = some (.int .i64 (p.d)))) ref_Received.tab20 ref_Received.bits20 (c3_ BKgp) (fun hHeld HT_ HW_ => ?_)
                  generalize v3.drew = z1 at BKgb BKgp HB hHeld ⊢
                  refine pM_ HT_ 0 84 1 ?_
                  refine pM_ HT_ 3 87 9 ?_
                  refine tM_ HT_ HW_ hHeld 1 85 11 ?_
                  refine tM_ HT_ HW_ hHeld 4 88 27 ?_
                  refine twM_ HT_ 2 (some 86) 31 6 (some 17) 91 (fun K hK => ?_) (fun K hK => ?_)
                  · refine gM_ Try.func80 (C2.out _ HB.out) ?_
                    rintro e z2 ⟨rfl, hb⟩
                    refine ⟨.int .i64 _, rfl, ?_⟩
                    replace hb := nb_ HB hb
                    replace BKgb := kb_ BKgb hb
                    replace BKgp := kb_ BKgp hb
                    replace HB := bs_ HB hb
                    (try clear hb)
                    refine hK.out _ _ (c3_ BKgp) (fun hHeld => ?_)
                    clear hK K
                    refine nM_ ?_
                    refine twM_ HT_ 5 (some 89) 63 6 (some 17) 95 (fun K hK => ?_) (fun K hK => ?_)
                    · refine gM_ Try.func85 (C3.out _) ?_
                      rintro e z3 ⟨rfl, hb⟩
                      refine ⟨.agg _, rfl, ?_⟩
                      replace hb := nb_ HB hb
                      replace BKgb := kb_ BKgb hb
                      replace BKgp := kb_ BKgp hb
                      replace HB := bs_ HB hb
                      (try clear hb)
                      refine hK.out _ _ (c3_ BKgp) (fun hHeld => ?_)
                      clear hK K
                      refine nM_ ?_
                      refine oM_ HT_ 6 (some 17) 127 (fun K hK => ?_)
                      refine bs2_ 17 #[.int .i64 0, .int .i64 0] 27 ?_
                      intro gt hg z4 hbox hb
                      have GEgt := ge_ hg HB
                      have NEgb_gt := ne_ hg BKgb
                      have NEgp_gt := ne_ hg BKgp
                      replace hb := nb_ HB hb
                      replace BKgb := kb_ BKgb hb
                      replace BKgp := kb_ BKgp hb
                      replace HB := bs_ HB hb
                      have BKgt := Aside0.mk hbox
                      clear hb hbox hg
                      refine hK.out _ _ (c3_ BKgp) (fun hHeld => ?_)
                      clear hK K
                      refine nM_ ?_
                      refine lM_ HT_ 7 none 255 (fun K hK => ?_)
                      have hc_ := cf2_ BKgt
                      refine sk2_ ?_
                      intro ws_ hp_
                      clear hc_
                      refine hK.out _ _ ?_
                      clear hK K
                      refine dM_ HT_ ?_
                      replace BKgb := pf2_ NEgb_gt BKgb hp_
                      replace BKgp := pf2_ NEgp_gt BKgp hp_
                      replace BKgt := pp2_ BKgt hp_
                      replace HB := pb2_ GEgt HB hp_
                      clear hp_
                      generalize ws_ = z9 at BKgb BKgp BKgt HB ⊢
                      clear ws_
                      obtain ⟨Ogt_0, Ogt_1⟩ := c2_ BKgt
                      by_cases hf : (spanD (timeN (dsO l0) p) p.d).1 < lo
                      · have hfd : decide ((spanD (timeN (dsO l0) p) p.d).1 < lo) = true := decide_eq_true hf
                        have HF : Aside0 (ReceivedF l0 l1 a x = ((spanD (timeN (dsO l0) p) p.d).1, (spanD (timeN (dsO l0) p) p.d).2, 0)) := ⟨by rw [HF1.out, HT.out, if_pos (by rw [HT.out] at hf; exact hf)]⟩
                        clear hf
                        go_wp2_with (first | ((with_reducible refine gate_store (t := 27) (p := 8) rfl ?_); have hc_ := cf2_ BKgb; refine st2_ ?_; intro z10 hp_; clear hc_; replace BKgb := pp2_ BKgb hp_; replace HB := pb2_ GEgb HB hp_; clear hp_))
                        try go_wp2
                        refine bodyPost_ret (results_ct rfl _ _ gb 27 #[.int .i64 ((spanD (timeN (dsO l0) p) p.d).1), .int .i64 ((spanD (timeN (dsO l0) p) p.d).2)] (0, 0) _ rfl BKgb.out Try.underlying27 rfl (by kernel_rfl)) rfl ?_
                        exact ⟨by first | (rw [HF.out]; done) | (rw [HF.out]; rfl), HB.out⟩
                      · have hfd : decide ((spanD (timeN (dsO l0) p) p.d).1 < lo) = false := decide_eq_false hf
                        have HF : Aside0 (ReceivedF l0 l1 a x = (lo, lo, 0)) := ⟨by rw [HF1.out, if_neg (by rw [HT.out] at hf; exact hf)]⟩
                        clear hf
                        go_wp2_with (first | ((with_reducible refine gate_store (t := 27) (p := 8) rfl ?_); have hc_ := cf2_ BKgb; refine st2_ ?_; intro z9s hp_; clear hc_; replace BKgb := pp2_ BKgb hp_; replace HB := pb2_ GEgb HB hp_; clear hp_))
                        try go_wp2
                        refine bodyPost_ret (results_ct rfl _ _ gb 27 #[.int .i64 lo, .int .i64 lo] (0, 0) _ rfl BKgb.out Try.underlying27 rfl (by kernel_rfl)) rfl ?_
                        exact ⟨by first | (rw [HF.out]; done) | (rw [HF.out]; rfl), HB.out⟩
                    · refine bs2_ 17 #[.int .i64 0, .int .i64 0] 27 ?_
                      intro gt hg z4 hbox hb
                      have GEgt := ge_ hg HB
                      have NEgb_gt := ne_ hg BKgb
                      have NEgp_gt := ne_ hg BKgp
                      replace hb := nb_ HB hb
                      replace BKgb := kb_ BKgb hb
                      replace BKgp := kb_ BKgp hb
                      replace HB := bs_ HB hb
                      have BKgt := Aside0.mk hbox
                      clear hb hbox hg
                      refine hK.out _ _ (c3_ BKgp) (fun hHeld => ?_)
                      clear hK K
                      refine nM_ ?_
                      refine oM_ HT_ 5 (some 89) 127 (fun K hK => ?_)
                      refine gM_ Try.func85 (C3.out _) ?_
                      rintro e z3 ⟨rfl, hb⟩
                      refine ⟨.agg _, rfl, ?_⟩
                      replace hb := nb_ HB hb
                      replace BKgb := kb_ BKgb hb
                      replace BKgp := kb_ BKgp hb
                      replace BKgt := kb_ BKgt hb
                      replace HB := bs_ HB hb
                      (try clear hb)
                      refine hK.out _ _ (c3_ BKgp) (fun hHeld => ?_)
                      clear hK K
                      refine nM_ ?_
                      refine lM_ HT_ 7 none 255 (fun K hK => ?_)
                      have hc_ := cf2_ BKgt
                      refine sk2_ ?_
                      intro ws_ hp_
                      clear hc_
                      refine hK.out _ _ ?_
                      clear hK K
                      refine dM_ HT_ ?_
                      replace BKgb := pf2_ NEgb_gt BKgb hp_
                      replace BKgp := pf2_ NEgp_gt BKgp hp_
                      replace BKgt := pp2_ BKgt hp_
                      replace HB := pb2_ GEgt HB hp_
                      clear hp_
                      generalize ws_ = z9 at BKgb BKgp BKgt HB ⊢
                      clear ws_
                      obtain ⟨Ogt_0, Ogt_1⟩ := c2_ BKgt
                      by_cases hf : (spanD (timeN (dsO l0) p) p.d).1 < lo
                      · have hfd : decide ((spanD (timeN (dsO l0) p) p.d).1 < lo) = true := decide_eq_true hf
                        have HF : Aside0 (ReceivedF l0 l1 a x = ((spanD (timeN (dsO l0) p) p.d).1, (spanD (timeN (dsO l0) p) p.d).2, 0)) := ⟨by rw [HF1.out, HT.out, if_pos (by rw [HT.out] at hf; exact hf)]⟩
                        clear hf
                        go_wp2_with (first | ((with_reducible refine gate_store (t := 27) (p := 8) rfl ?_); have hc_ := cf2_ BKgb; refine st2_ ?_; intro z10 hp_; clear hc_; replace BKgb := pp2_ BKgb hp_; replace HB := pb2_ GEgb HB hp_; clear hp_))
                        try go_wp2
                        refine bodyPost_ret (results_ct rfl _ _ gb 27 #[.int .i64 ((spanD (timeN (dsO l0) p) p.d).1), .int .i64 ((spanD (timeN (dsO l0) p) p.d).2)] (0, 0) _ rfl BKgb.out Try.underlying27 rfl (by kernel_rfl)) rfl ?_
                        exact ⟨by first | (rw [HF.out]; done) | (rw [HF.out]; rfl), HB.out⟩
                      · have hfd : decide ((spanD (timeN (dsO l0) p) p.d).1 < lo) = false := decide_eq_false hf
                        have HF : Aside0 (ReceivedF l0 l1 a x = (lo, lo, 0)) := ⟨by rw [HF1.out, if_neg (by rw [HT.out] at hf; exact hf)]⟩
                        clear hf
                        go_wp2_with (first | ((with_reducible refine gate_store (t := 27) (p := 8) rfl ?_); have hc_ := cf2_ BKgb; refine st2_ ?_; intro z9s hp_; clear hc_; replace BKgb := pp2_ BKgb hp_; replace HB := pb2_ GEgb HB hp_; clear hp_))
                        try go_wp2
                        refine bodyPost_ret (results_ct rfl _ _ gb 27 #[.int .i64 lo, .int .i64 lo] (0, 0) _ rfl BKgb.out Try.underlying27 rfl (by kernel_rfl)) rfl ?_
                        exact ⟨by first | (rw [HF.out]; done) | (rw [HF.out]; rfl), HB.out⟩
                  · refine bs2_ 17 #[.int .i64 0, .int .i64 0] 27 ?_
                    intro gt hg z4 hbox hb
                    have GEgt := ge_ hg HB
                    have NEgb_gt := ne_ hg BKgb
                    have NEgp_gt := ne_ hg BKgp
                    replace hb := nb_ HB hb
                    replace BKgb := kb_ BKgb hb
                    replace BKgp := kb_ BKgp hb
                    replace HB := bs_ HB hb
                    have BKgt := Aside0.mk hbox
                    clear hb hbox hg
                    refine hK.out _ _ (c3_ BKgp) (fun hHeld => ?_)
                    clear hK K
                    refine nM_ ?_
                    refine oM_ HT_ 2 (some 86) 95 (fun K hK => ?_)
                    refine gM_ Try.func80 (C2.out _ HB.out) ?_
                    rintro e z2 ⟨rfl, hb⟩
                    refine ⟨.int .i64 _, rfl, ?_⟩
                    replace hb := nb_ HB hb
                    replace BKgb := kb_ BKgb hb
                    replace BKgp := kb_ BKgp hb
                    replace BKgt := kb_ BKgt hb
                    replace HB := bs_ HB hb
                    (try clear hb)
                    refine hK.out _ _ (c3_ BKgp) (fun hHeld => ?_)
                    clear hK K
                    refine nM_ ?_
                    refine oM_ HT_ 5 (some 89) 127 (fun K hK => ?_)
                    refine gM_ Try.func85 (C3.out _) ?_
                    rintro e z3 ⟨rfl, hb⟩
                    refine ⟨.agg _, rfl, ?_⟩
                    replace hb := nb_ HB hb
                    replace BKgb := kb_ BKgb hb
                    replace BKgp := kb_ BKgp hb
                    replace BKgt := kb_ BKgt hb
                    replace HB := bs_ HB hb
                    (try clear hb)
                    refine hK.out _ _ (c3_ BKgp) (fun hHeld => ?_)
                    clear hK K
                    refine nM_ ?_
                    refine lM_ HT_ 7 none 255 (fun K hK => ?_)
                    have hc_ := cf2_ BKgt
                    refine sk2_ ?_
                    intro ws_ hp_
                    clear hc_
                    refine hK.out _ _ ?_
                    clear hK K
                    refine dM_ HT_ ?_
                    replace BKgb := pf2_ NEgb_gt BKgb hp_
                    replace BKgp := pf2_ NEgp_gt BKgp hp_
                    replace BKgt := pp2_ BKgt hp_
                    replace HB := pb2_ GEgt HB hp_
                    clear hp_
                    generalize ws_ = z9 at BKgb BKgp BKgt HB ⊢
                    clear ws_
                    obtain ⟨Ogt_0, Ogt_1⟩ := c2_ BKgt
                    by_cases hf : (spanD (timeN (dsO l0) p) p.d).1 < lo
                    · have hfd : decide ((spanD (timeN (dsO l0) p) p.d).1 < lo) = true := decide_eq_true hf
                      have HF : Aside0 (ReceivedF l0 l1 a x = ((spanD (timeN (dsO l0) p) p.d).1, (spanD (timeN (dsO l0) p) p.d).2, 0)) := ⟨by rw [HF1.out, HT.out, if_pos (by rw [HT.out] at hf; exact hf)]⟩
                      clear hf
                      go_wp2_with (first | ((with_reducible refine gate_store (t := 27) (p := 8) rfl ?_); have hc_ := cf2_ BKgb; refine st2_ ?_; intro z10 hp_; clear hc_; replace BKgb := pp2_ BKgb hp_; replace HB := pb2_ GEgb HB hp_; clear hp_))
                      try go_wp2
                      refine bodyPost_ret (results_ct rfl _ _ gb 27 #[.int .i64 ((spanD (timeN (dsO l0) p) p.d).1), .int .i64 ((spanD (timeN (dsO l0) p) p.d).2)] (0, 0) _ rfl BKgb.out Try.underlying27 rfl (by kernel_rfl)) rfl ?_
                      exact ⟨by first | (rw [HF.out]; done) | (rw [HF.out]; rfl), HB.out⟩
                    · have hfd : decide ((spanD (timeN (dsO l0) p) p.d).1 < lo) = false := decide_eq_false hf
                      have HF : Aside0 (ReceivedF l0 l1 a x = (lo, lo, 0)) := ⟨by rw [HF1.out, if_neg (by rw [HT.out] at hf; exact hf)]⟩
                      clear hf
                      go_wp2_with (first | ((with_reducible refine gate_store (t := 27) (p := 8) rfl ?_); have hc_ := cf2_ BKgb; refine st2_ ?_; intro z9s hp_; clear hc_; replace BKgb := pp2_ BKgb hp_; replace HB := pb2_ GEgb HB hp_; clear hp_))
                      try go_wp2
                      refine bodyPost_ret (results_ct rfl _ _ gb 27 #[.int .i64 lo, .int .i64 lo] (0, 0) _ rfl BKgb.out Try.underlying27 rfl (by kernel_rfl)) rfl ?_
                      exact ⟨by first | (rw [HF.out]; done) | (rw [HF.out]; rfl), HB.out⟩
                · have hcd : (ranC l0 l1 a lo x == 0) = false := beq_eq_false_iff_ne.2 hc
                  have HF : Aside0 (ReceivedF l0 l1 a x = (lo - 1, lo, 0)) := ⟨by rw [HF0.out, if_neg hc]⟩
                  clear hc
                  go_wp2_with (first | ((with_reducible refine gate_store (t := 27) (p := 8) rfl ?_); have hc_ := cf2_ BKgb; refine st2_ ?_; intro v1s hp_; clear hc_; replace BKgb := pp2_ BKgb hp_; replace HB := pb2_ GEgb HB hp_; clear hp_))
                  try go_wp2
                  refine bodyPost_ret (results_ct rfl _ _ gb 27 #[.int .i64 (lo - 1), .int .i64 lo] (0, 0) _ rfl BKgb.out Try.underlying27 rfl (by kernel_rfl)) rfl ?_
                  exact ⟨by first | (rw [HF.out]; done) | (rw [HF.out]; rfl), HB.out⟩
          · have HF : Aside0 (ReceivedF l0 l1 a x = (0, 0, 4)) := ⟨by
              have h := fun y => hp (ranC_nn.2 y)
              rw [run_all HL.out] at h
              rw [received_val HL.out HX1.out, if_pos (by grind)]; rfl⟩
            have hpd : decide (ranC l0 l1 a (sm (dsO l0)) x < 0) = true := decide_eq_true (by omega)
            clear hp
            go_wp2_with (first | ((with_reducible refine gate_store (t := 27) (p := 8) rfl ?_); have hc_ := cf2_ BKgb; refine st2_ ?_; intro w10 hp_; clear hc_; replace BKgb := pp2_ BKgb hp_; replace HB := pb2_ GEgb HB hp_; clear hp_))
            try go_wp2
            refine bodyPost_ret (results_ct rfl _ _ gb 27 #[.int .i64 0, .int .i64 0] (0, 0) _ rfl BKgb.out Try.underlying27 rfl (by kernel_rfl)) rfl ?_
            exact ⟨by first | (rw [HF.out]; done) | (rw [HF.out]; rfl), HB.out⟩
end Go.Proofs.Ytlhfclpbodfmcaa.Pr
