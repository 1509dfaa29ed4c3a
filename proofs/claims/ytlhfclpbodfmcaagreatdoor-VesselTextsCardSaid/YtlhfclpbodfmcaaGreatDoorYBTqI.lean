/- A part of the proof: TqI. -/
import Derived.Test.YtlhfclpbodfmcaaGreatDoorYBTp
import Derived.Outline
namespace Go.Proofs.YtlhfclpbodfmcaaGreatDoor.Pr
open Go.RowKit Go.Proofs.YtlhfclpbodfmcaaGreatDoorW.PrintWords Go.Proofs.YtlhfclpbodfmcaaGreatDoorW.PrintLast Go.Proofs.YtlhfclpbodfmcaaGreatDoorW.PrintMore
open Go.Proofs.YtlhfclpbodfmcaaGreatDoor.Vm
set_option linter.unusedVariables false
set_option linter.unusedSimpArgs false
def vessel_Marks.T12 : Bool × List (List Nat × List Nat) := (true, [([], []), ([], []), ([1], [1]), ([], []), ([3], [3]), ([], []), ([4, 5], [4, 5]), ([2, 6, 6], [2, 6]), ([7, 7], [7]), ([8], [8]), ([0, 9, 8], [0, 9]), ([10, 10, 0, 1, 2, 3, 4, 5, 6, 7, 8, 9, 10], [0, 10])])
def vessel_Marks.B12 : List Nat := [0, 0, 2, 0, 8, 0, 56, 126, 254, 510, 1023, 2047]
theorem vessel_Marks.tab12 : rtab .any (opsOf Tryz.f21 12) = vessel_Marks.T12 := by kernel_rfl
theorem vessel_Marks.bits12 : waitsOk vessel_Marks.T12.2 vessel_Marks.B12 = true := by kernel_rfl
def vessel_Marks.f (l0 : List S79) (a1 : Int) : Option (List S27 × Int) := some (MarksF l0 a1)
set_option maxHeartbeats 1600000 in
set_option maxRecDepth 100000 in
theorem vessel_Marks.calls (A0 : Option Addr) (c0 : Nat) (l0 : List S79) (a1 : Int) (r1 : List S27) (r2 : Int) (w : World) (hr0 : Kd.C k79 w A0 l0.length l0) (hc0 : l0.length ≤ c0) (h : vessel_Marks.f l0 a1 = some (r1, r2)) :
    Calls Tryz.prog 21 #[.slice A0 l0.length c0, .int .i64 a1] w fun e w' => ∃ v0_ : Value, e = .returned (.tuple #[v0_, .int .i64 r2]) ∧ Kd.R k27 37 w' w.heap.size (fun _ => True) v0_ r1 ∧ Below w.heap.size w w' := by
  have hu86 := Tryz.underlying73
  have hu90 := Tryz.underlying77
  have hu27 := Tryz.underlying37
  have HR0 := Aside0.mk hr0
  have HC0 := Aside0.mk hc0
  clear hr0 hc0
  replace h : MarksF l0 a1 = (r1, r2) := Option.some.inj h
  have HB := Aside0.mk (Below.refl w.heap.size w)
  unfold MarksF at h
  by_cases hv : validB l0 = true
  · rw [if_pos hv] at h
    have hG : GV (hsO l0) (vsO l0) (dsO l0) := valid_GV hv
    have HK : Aside0 (vessel_Check.f 30 l0 = some 0) := ⟨by rw [vCheck]; unfold checkF; rw [hv]; rfl⟩
    have HN : Aside0 (l0.length ≤ 900) := ⟨by have := hG.h.ln; rw [List.length_map] at this; omega⟩
    by_cases hp : 1 ≤ a1 ∧ a1 ≤ 60
    · rw [if_pos hp] at h
      obtain ⟨rfl, rfl⟩ : marksL l0 a1 (a1 - 1).toNat = r1 ∧ (0 : Int) = r2 := by simpa using h
      clear h
      have hd : decide (a1 < 1) = false := decide_eq_false (by omega)
      have hd2 : decide (60 < a1) = false := decide_eq_false (by omega)
      have C1 : Aside0 (∀ W g1 g2 g3, VeAt W (hsO l0) (vsO l0) (dsO l0) g1 g2 g3 → Calls Tryz.prog 46 #[.pointer (some ⟨g3, 0, none⟩)] W fun e w' => e = .returned (.int .i64 (sm (dsO l0))) ∧ Below W.heap.size W w') := ⟨fun W g1 g2 g3 hV => by have hh := minute_all.calls2 g3 (dsO l0) (sums 0 (dsO l0)) W hV.s3 (by rw [sums_length]; omega); rw [hG.d.rd (by decide) (Nat.le_refl _), List.take_length] at hh; exact hh⟩
      have HG := Aside0.mk hG
      have HP := Aside0.mk hp
      clear hG hv
      go_enter Tryz.func21, Tryz.ntmps21
      go_wp2_with (first | ((with_reducible refine gate_callee (f := 26) rfl ?_); refine gL_ (some 12) Tryz.func26 (vessel_Check.calls 30 A0 c0 l0 0 _ (Kd.C_below HR0.out HB.out) HC0.out HK.out) ?_; rintro e w1b ⟨rfl, hb⟩; refine ⟨.int .i64 0, rfl, ?_⟩; replace hb := nb_ HB hb; replace HB := bs_ HB hb; clear hb) | ((with_reducible refine gate_callee (f := 36) rfl ?_); refine gL_ (some 23) Tryz.func36 (vessel_open.calls A0 c0 l0 _ (Kd.C_below HR0.out HB.out) HN.out) ?_; rintro e w2 ⟨g1, g2, g3, rfl, s_, hb⟩; refine ⟨.agg #[.pointer (some ⟨g1, 0, none⟩), .pointer (some ⟨g2, 0, none⟩), .pointer (some ⟨g3, 0, none⟩)], rfl, ?_⟩; replace hb := nb_ HB hb; replace HB := bs_ HB hb; have VE := Aside0.mk s_.at_; clear s_; clear hb) | ((with_reducible refine gate_dst (N := 7) rfl ?_); refine bx_ 7 #[.pointer none, .pointer none, .pointer none] 73 ?_; intro gx hg w3 hbox hb; have GEgx := ge_ hg HB; replace hb := nb_ HB hb; replace VE := Aside0.mk (VeAt.below VE.out hb); replace HB := bs_ HB hb; have BKgx := Aside0.mk hbox; clear hb hbox hg) | ((with_reducible refine gate_store (t := 73) (p := 7) rfl ?_); have hc_ := cf3_ BKgx; refine st3_ ?_; intro wv hp_; clear hc_; replace VE : Aside0 (VeAt wv (hsO l0) (vsO l0) (dsO l0) g1 g2 g3) := ⟨by rw [← hp_.e]; exact VE.out.set3 BKgx.out⟩; replace BKgx := pp3_ BKgx hp_; replace HB := pb3_ GEgx HB hp_; clear hp_; have HV := Aside0.mk (Below.refl wv.heap.size wv)))
      have hwv := HB.out.size
      have HWV := Aside0.mk hwv
      clear hwv
      have RO : Aside0 (Kd.R k27 37 wv wv.heap.size (fun _ => True) (.slice none 0 0) (marksL l0 a1 0)) := ⟨Kd.R_nil _ _ _ _ _⟩
      go_loopg [8, 9] (a1 - 1).toNat (fun kq v8 v9 w' => ∃ (i : Int) (n : Nat), v9 = .int .i64 i ∧ Aside0 (i = (n : Int) + 1 ∧ 1 ≤ i ∧ i ≤ a1 ∧ n + kq = (a1 - 1).toNat) ∧ Aside0 (Kd.R k27 37 w' wv.heap.size (fun _ => True) v8 (marksL l0 a1 n)) ∧ Aside0 (w'.heap[gx]? = some (.cells #[.pointer (some ⟨g1, 0, none⟩), .pointer (some ⟨g2, 0, none⟩), .pointer (some ⟨g3, 0, none⟩)] 73 (0, 0))) ∧ Aside0 (Below w.heap.size w w') ∧ Aside0 (Below wv.heap.size wv w'))
      case atStart => exact ⟨1, 0, rfl, ⟨by omega, by omega, by have := HP.out; omega, by omega⟩, RO, BKgx, HB, HV⟩
      case round =>
        clear RO BKgx HB HV
        obtain ⟨i, n, rfl, HI, RO, BKgx, HB, HV⟩ := hrel
        obtain ⟨hi1, hi2, hi3, hi4⟩ := HI.out
        clear HI
        by_cases hlt : i < a1
        · have hdl : decide (i < a1) = true := decide_eq_true hlt
          obtain ⟨m1, m2, m3, m4, m5, m6, m7⟩ := mark_spec HG.out HP.out (show 0 ≤ i ∧ i ≤ a1 by omega)
          obtain ⟨f1, f2, f3, f4, f5, f6, f7⟩ := tell HG.out.d HG.out.h HG.out.hd.symm m4 m6 m7 m5
          have hS := HG.out.sums
          have fw := w_le_v' f4 f7
          have hpp := HP.out
          have C2 : Aside0 (∀ W, Calls Tryz.prog 55 #[.int .i64 0, .int .i64 (sm (dsO l0) * (a1 - i)), .int .i64 a1] W fun e w' => e = .returned (.agg #[.int .i64 (ofF 0 (sm (dsO l0) * (a1 - i)) a1).w, .int .i64 (ofF 0 (sm (dsO l0) * (a1 - i)) a1).n, .int .i64 (ofF 0 (sm (dsO l0) * (a1 - i)) a1).d]) ∧ Below W.heap.size W w') := ⟨fun W => of_good 0 (sm (dsO l0) * (a1 - i)) a1 W (by omega) (by omega) (by omega) (by omega)⟩
          have C3 : Aside0 (∀ W g1 g2 g3, VeAt W (hsO l0) (vsO l0) (dsO l0) g1 g2 g3 → Calls Tryz.prog 47 #[.pointer (some ⟨g3, 0, none⟩), .agg #[.int .i64 (ofF 0 (sm (dsO l0) * (a1 - i)) a1).w, .int .i64 (ofF 0 (sm (dsO l0) * (a1 - i)) a1).n, .int .i64 (ofF 0 (sm (dsO l0) * (a1 - i)) a1).d]] W fun e w' => e = .returned (.agg #[.int .i64 ((findF (dsO l0) (ofF 0 (sm (dsO l0) * (a1 - i)) a1)).r : Int), .int .i64 (findF (dsO l0) (ofF 0 (sm (dsO l0) * (a1 - i)) a1)).n, .int .i64 (findF (dsO l0) (ofF 0 (sm (dsO l0) * (a1 - i)) a1)).d]) ∧ Below W.heap.size W w') := ⟨fun W g1 g2 g3 hV => minute_find.good g3 (dsO l0) 20000 (ofF 0 (sm (dsO l0) * (a1 - i)) a1) W hV.s3 HG.out.d (by decide) m4 m6 m7 (by omega)⟩
          have C4 : Aside0 (∀ W g1 g2 g3, VeAt W (hsO l0) (vsO l0) (dsO l0) g1 g2 g3 → Calls Tryz.prog 42 #[.pointer (some ⟨g1, 0, none⟩), .agg #[.int .i64 ((findF (dsO l0) (ofF 0 (sm (dsO l0) * (a1 - i)) a1)).r : Int), .int .i64 (findF (dsO l0) (ofF 0 (sm (dsO l0) * (a1 - i)) a1)).n, .int .i64 (findF (dsO l0) (ofF 0 (sm (dsO l0) * (a1 - i)) a1)).d]] W fun e w' => e = .returned (.agg #[.int .i64 (markF l0 a1 i).w, .int .i64 (markF l0 a1 i).n, .int .i64 (markF l0 a1 i).d]) ∧ Below W.heap.size W w') := ⟨fun W g1 g2 g3 hV => height_at.good g1 (hsO l0) 1000 (findF (dsO l0) (ofF 0 (sm (dsO l0) * (a1 - i)) a1)) W hV.s1 HG.out.h (by decide) (HG.out.hd ▸ f1) (by omega) (by omega)⟩
          have C5 : Aside0 (∀ W, Calls Tryz.prog 40 #[.agg #[.int .i64 (markF l0 a1 i).w, .int .i64 (markF l0 a1 i).n, .int .i64 (markF l0 a1 i).d]] W fun e w' => e = .returned (.agg #[.int .i64 (spanF (markF l0 a1 i)).1, .int .i64 (spanF (markF l0 a1 i)).2]) ∧ Below W.heap.size W w') := ⟨fun W => span_good (markF l0 a1 i) W (by show _ ≤ (atF _ _).w ∧ (atF _ _).w ≤ _; omega)⟩
          have hln : (marksL l0 a1 n).length ≤ 1000 := by rw [marksL_length]; omega
          have HLN := Aside0.mk hln
          have HHI := Aside0.mk hi1
          have HLT := Aside0.mk hlt
          have HI3 := Aside0.mk hi4
          clear m3 m4 m5 m6 m7 f1 f2 f3 f4 f5 f6 f7 fw hS hln hi1 hi4 hlt hpp
          obtain ⟨Ogx_0, Ogx_1, Ogx_2⟩ := c3_ BKgx
          go_wp2_with (first | ((with_reducible refine gate_callee (f := 46) rfl ?_); refine gL_ (some 31) Tryz.func46 (C1.out _ _ _ _ (VE.out.below HV.out)) ?_; rintro e w5 ⟨rfl, hb⟩; refine ⟨.int .i64 (sm (dsO l0)), rfl, ?_⟩; replace hb := nb_ HB hb; replace BKgx := kb_ BKgx hb; replace RO := Aside0.mk (Kd.R_below RO.out hb); replace HB := bs_ HB hb; replace HV := bs_ HV hb; clear Ogx_0 Ogx_1 Ogx_2; obtain ⟨Ogx_0, Ogx_1, Ogx_2⟩ := c3_ BKgx; clear hb) | ((with_reducible refine gate_callee (f := 55) rfl ?_); refine gL_ (some 37) Tryz.func55 (C2.out _) ?_; rintro e w6 ⟨rfl, hb⟩; refine ⟨.agg #[.int .i64 (ofF 0 (sm (dsO l0) * (a1 - i)) a1).w, .int .i64 (ofF 0 (sm (dsO l0) * (a1 - i)) a1).n, .int .i64 (ofF 0 (sm (dsO l0) * (a1 - i)) a1).d], rfl, ?_⟩; replace hb := nb_ HB hb; replace BKgx := kb_ BKgx hb; replace RO := Aside0.mk (Kd.R_below RO.out hb); replace HB := bs_ HB hb; replace HV := bs_ HV hb; clear Ogx_0 Ogx_1 Ogx_2; obtain ⟨Ogx_0, Ogx_1, Ogx_2⟩ := c3_ BKgx; clear hb) | ((with_reducible refine gate_dst (N := 10) rfl ?_); refine bx_ 10 #[.int .i64 0, .int .i64 0, .int .i64 0] 77 ?_; intro gt hg w7 hbox hb; have GEgt := ge_ hg HB; have GVgt := ge_ hg HV; have NEgx_gt := ne_ hg BKgx; replace hb := nb_ HB hb; replace BKgx := kb_ BKgx hb; replace RO := Aside0.mk (Kd.R_below RO.out hb); replace HB := bs_ HB hb; replace HV := bs_ HV hb; clear Ogx_0 Ogx_1 Ogx_2; obtain ⟨Ogx_0, Ogx_1, Ogx_2⟩ := c3_ BKgx; have BKgt := Aside0.mk hbox; clear Ogx_0 Ogx_1 Ogx_2; obtain ⟨Ogx_0, Ogx_1, Ogx_2⟩ := c3_ BKgx; clear hb hbox hg) | ((with_reducible refine gate_store (t := 77) (p := 10) rfl ?_); have hc_ := cf3_ BKgt; refine st3_ ?_; intro w8 hp_; clear hc_; clear Ogx_0 Ogx_1 Ogx_2; replace RO : Aside0 (Kd.R k27 37 w8 wv.heap.size (fun _ => True) u8 (marksL l0 a1 n)) := ⟨by rw [← hp_.e]; exact row_set3 (by decide) RO.out BKgt.out⟩; replace BKgx := pf3_ NEgx_gt BKgx hp_; replace BKgt := pp3_ BKgt hp_; replace HB := pb3_ GEgt HB hp_; replace HV := pb3_ GVgt HV hp_; clear hp_; obtain ⟨Ogx_0, Ogx_1, Ogx_2⟩ := c3_ BKgx))
          clear Ogx_0 Ogx_1 Ogx_2
          replace BKgx := kd_ BKgx
          replace BKgt := kd_ BKgt
          replace RO := Aside0.mk (Kd.R_drew RO.out)
          replace HB := bd_ HB
          replace HV := bd_ HV
          refine sM_ [] (fun w' => (w'.cell? ⟨gx, 0, none⟩ = some (.pointer (some ⟨g1, 0, none⟩)) ∧ w'.cell? ⟨gx, 1, none⟩ = some (.pointer (some ⟨g2, 0, none⟩)) ∧ w'.cell? ⟨gx, 2, none⟩ = some (.pointer (some ⟨g3, 0, none⟩))) ∧ (w'.cell? ⟨gt, 0, none⟩ = some (.int .i64 (ofF 0 (sm (dsO l0) * (a1 - i)) a1).w) ∧ w'.cell? ⟨gt, 1, none⟩ = some (.int .i64 (ofF 0 (sm (dsO l0) * (a1 - i)) a1).n) ∧ w'.cell? ⟨gt, 2, none⟩ = some (.int .i64 (ofF 0 (sm (dsO l0) * (a1 - i)) a1).d))) vessel_Marks.tab12 vessel_Marks.bits12 ⟨c3_ BKgx, c3_ BKgt⟩ (fun hHeld HT_ HW_ => ?_)
          generalize w8.drew = w9 at BKgx BKgt RO HB HV hHeld ⊢
          refine pM_ HT_ 0 38 1 ?_
          refine pM_ HT_ 1 39 3 ?_
          refine pM_ HT_ 3 41 11 ?_
          refine tM_ HT_ HW_ hHeld 2 40 15 ?_
          refine tM_ HT_ HW_ hHeld 4 42 31 ?_
          refine tM_ HT_ HW_ hHeld 5 43 63 ?_
          refine oM_ HT_ 6 (some 44) 127 (fun K hK => ?_)
          refine gM_ Tryz.func47 (C3.out _ _ _ _ (VE.out.below HV.out)) ?_
          rintro e w10 ⟨rfl, hb⟩
          refine ⟨.agg #[.int .i64 ((findF (dsO l0) (ofF 0 (sm (dsO l0) * (a1 - i)) a1)).r : Int), .int .i64 (findF (dsO l0) (ofF 0 (sm (dsO l0) * (a1 - i)) a1)).n, .int .i64 (findF (dsO l0) (ofF 0 (sm (dsO l0) * (a1 - i)) a1)).d], rfl, ?_⟩
          replace hb := nb_ HB hb
          replace BKgx := kb_ BKgx hb
          replace BKgt := kb_ BKgt hb
          replace RO := Aside0.mk (Kd.R_below RO.out hb)
          replace HB := bs_ HB hb
          replace HV := bs_ HV hb
          (try clear hb)
          refine hK.out _ _ ⟨c3_ BKgx, c3_ BKgt⟩ (fun hHeld => ?_)
          clear hK K
          refine nM_ ?_
          refine oM_ HT_ 7 (some 45) 255 (fun K hK => ?_)
          refine gM_ Tryz.func42 (C4.out _ _ _ _ (VE.out.below HV.out)) ?_
          rintro e w11 ⟨rfl, hb⟩
          refine ⟨.agg #[.int .i64 (markF l0 a1 i).w, .int .i64 (markF l0 a1 i).n, .int .i64 (markF l0 a1 i).d], rfl, ?_⟩
          replace hb := nb_ HB hb
          replace BKgx := kb_ BKgx hb
          replace BKgt := kb_ BKgt hb
          replace RO := Aside0.mk (Kd.R_below RO.out hb)
          replace HB := bs_ HB hb
          replace HV := bs_ HV hb
          (try clear hb)
          refine hK.out _ _ ⟨c3_ BKgx, c3_ BKgt⟩ (fun hHeld => ?_)
          clear hK K
          refine nM_ ?_
          refine oM_ HT_ 8 (some 46) 511 (fun K hK => ?_)
          refine gM_ Tryz.func40 (C5.out _) ?_
          rintro e w12 ⟨rfl, hb⟩
          refine ⟨.agg #[.int .i64 (spanF (markF l0 a1 i)).1, .int .i64 (spanF (markF l0 a1 i)).2], rfl, ?_⟩
          replace hb := nb_ HB hb
          replace BKgx := kb_ BKgx hb
          replace BKgt := kb_ BKgt hb
          replace RO := Aside0.mk (Kd.R_below RO.out hb)
          replace HB := bs_ HB hb
          replace HV := bs_ HV hb
          (try clear hb)
          refine hK.out _ _ ⟨c3_ BKgx, c3_ BKgt⟩ (fun hHeld => ?_)
          clear hK K
          refine nM_ ?_
          refine oM_ HT_ 9 (some 47) 1023 (fun K hK => ?_)
          refine lit27_step (by rfl) (N := 47) rfl (cs := #[.int .i64 (spanF (markF l0 a1 i)).1, .int .i64 (spanF (markF l0 a1 i)).2]) (E := 37) ?hr ?_
          (case hr => first | (go_simp; done) | (go_simp; rfl))
          intro ga hg w13 hbox hb
          replace hb := nb_ HB hb
          replace BKgx := kb_ BKgx hb
          replace BKgt := kb_ BKgt hb
          replace RO := Aside0.mk (Kd.R_below RO.out hb)
          replace HB := bs_ HB hb
          replace HV := bs_ HV hb
          have BKga := Aside0.mk hbox
          clear hb hbox hg
          refine hK.out _ _ ⟨c3_ BKgx, c3_ BKgt⟩ (fun hHeld => ?_)
          clear hK K
          refine nM_ ?_
          refine oM_ HT_ 10 (some 48) 2047 (fun K hK => ?_)
          refine app27_step (w := wv) (by rfl) (.tmp 38) (.tmp 47) 42 37 rfl Tryz.underlying42 info27 u8 (marksL l0 a1 n) (markS l0 a1 i) ga rfl rfl RO.out BKga.out HV.out HLN.out ?_
          intro u9_ w14 ho hb hg hat
          have n0_ := Aside0.mk (blk_grown BKgx.out hg (Kd.R_ne RO.out BKgx.out (by decide)))
          have n1_ := Aside0.mk (blk_grown BKgt.out hg (Kd.R_ne RO.out BKgt.out (by decide)))
          have n2_ := Aside0.mk (pw_below_grown HB.out _ HB.out.size hg (fun k hk => Nat.le_trans HWV.out (Kd.R_base RO.out k hk)))
          have n3_ := Aside0.mk hb
          have n4_ := Aside0.mk ho
          clear BKgx BKgt HB HV RO BKga
          have BKgx := n0_
          have BKgt := n1_
          have HB := n2_
          have HV := n3_
          have RO := n4_
          clear n0_ n1_ n2_ n3_ n4_ ho hb hg hat
          refine hK.out _ _ ⟨c3_ BKgx, c3_ BKgt⟩ (fun hHeld => ?_)
          clear hK K
          refine nM_ ?_
          refine pM_ HT_ 11 8 4095 ?_
          refine dM_ HT_ ?_
          go_wp2
          have hmk : marksL l0 a1 n ++ [markS l0 a1 i] = marksL l0 a1 (n + 1) := by rw [HHI.out]; rfl
          rw [hmk] at RO
          clear hmk
          go_roundg (gk - 1)
          case measure => have := HI3.out; have := HLT.out; have := HHI.out; omega
          case rel => exact ⟨i + 1, n + 1, by first | rfl | (simp; done), ⟨by have := HHI.out; omega, by have := HHI.out; omega, by have := HLT.out; omega, by have := HI3.out; have := HLT.out; have := HHI.out; omega⟩, RO, BKgx, HB, HV⟩
        · have hdl : decide (i < a1) = false := decide_eq_false hlt
          have HN9 : Aside0 ((a1 - 1).toNat = n) := ⟨by omega⟩
          have HN8 : Aside0 (a1.toNat - 1 = n) := ⟨by omega⟩
          clear hi1 hi4
          go_wp2
          go_ret2
          exact ⟨_, rfl, by first | (rw [HN9.out]; exact Kd.R_lower RO.out HWV.out) | (rw [HN8.out]; exact Kd.R_lower RO.out HWV.out), HB.out⟩
    · rw [if_neg hp] at h
      obtain ⟨rfl, rfl⟩ : ([] : List S27) = r1 ∧ (1 : Int) = r2 := by simpa using h
      clear h hG hv
      by_cases hlo : a1 < 1
      · have hd : decide (a1 < 1) = true := decide_eq_true hlo
        go_enter Tryz.func21, Tryz.ntmps21
        go_wp2_with (first | ((with_reducible refine gate_callee (f := 26) rfl ?_); refine gL_ (some 12) Tryz.func26 (vessel_Check.calls 30 A0 c0 l0 0 _ (Kd.C_below HR0.out HB.out) HC0.out HK.out) ?_; rintro e w2 ⟨rfl, hb⟩; refine ⟨.int .i64 0, rfl, ?_⟩; replace hb := nb_ HB hb; replace HB := bs_ HB hb; clear hb))
        go_ret2
        exact ⟨_, rfl, Kd.R_nil _ _ _ _ _, HB.out⟩
      · have hd : decide (a1 < 1) = false := decide_eq_false hlo
        have hd2 : decide (60 < a1) = true := decide_eq_true (by omega)
        go_enter Tryz.func21, Tryz.ntmps21
        go_wp2_with (first | ((with_reducible refine gate_callee (f := 26) rfl ?_); refine gL_ (some 12) Tryz.func26 (vessel_Check.calls 30 A0 c0 l0 0 _ (Kd.C_below HR0.out HB.out) HC0.out HK.out) ?_; rintro e w2 ⟨rfl, hb⟩; refine ⟨.int .i64 0, rfl, ?_⟩; replace hb := nb_ HB hb; replace HB := bs_ HB hb; clear hb))
        go_ret2
        exact ⟨_, rfl, Kd.R_nil _ _ _ _ _, HB.out⟩
  · rw [if_neg hv] at h
    obtain ⟨rfl, rfl⟩ : ([] : List S27) = r1 ∧ (20 : Int) = r2 := by simpa using h
    clear h
    have HK : Aside0 (vessel_Check.f 30 l0 = some 20) := ⟨by rw [vCheck]; unfold checkF; rw [if_neg hv]⟩
    clear hv
    go_enter Tryz.func21, Tryz.ntmps21
    go_wp2_with (first | ((with_reducible refine gate_callee (f := 26) rfl ?_); refine gL_ (some 12) Tryz.func26 (vessel_Check.calls 30 A0 c0 l0 20 _ (Kd.C_below HR0.out HB.out) HC0.out HK.out) ?_; rintro e w2 ⟨rfl, hb⟩; refine ⟨.int .i64 20, rfl, ?_⟩; replace hb := nb_ HB hb; replace HB := bs_ HB hb; clear hb))
    go_ret2
    exact ⟨_, rfl, Kd.R_nil _ _ _ _ _, HB.out⟩
end Go.Proofs.YtlhfclpbodfmcaaGreatDoor.Pr
