/- A part of the proof: TqC. -/
import Derived.Test.YtlhfclpbodfmcaaGreatDoorYBTp
import Derived.Outline
namespace Go.Proofs.YtlhfclpbodfmcaaGreatDoor.Pr
open Go.RowKit Go.Proofs.YtlhfclpbodfmcaaGreatDoorW.PrintWords Go.Proofs.YtlhfclpbodfmcaaGreatDoorW.PrintLast Go.Proofs.YtlhfclpbodfmcaaGreatDoorW.PrintMore
open Go.Proofs.YtlhfclpbodfmcaaGreatDoor.Vm
set_option linter.unusedVariables false
set_option linter.unusedSimpArgs false
def vessel_Before.T5 : Bool × List (List Nat × List Nat) := (true, [([], []), ([], []), ([1], [1]), ([2], [2]), ([0, 3, 3], [0, 3])])
def vessel_Before.B5 : List Nat := [0, 0, 2, 6, 15]
theorem vessel_Before.tab5 : rtab .any (opsOf Tryz.f14 5) = vessel_Before.T5 := by kernel_rfl
theorem vessel_Before.bits5 : waitsOk vessel_Before.T5.2 vessel_Before.B5 = true := by kernel_rfl
def vessel_Before.T7 : Bool × List (List Nat × List Nat) := (true, [([], []), ([0], [0]), ([], []), ([2], [2]), ([], []), ([3, 4], [3, 4]), ([1, 5, 5], [1, 5]), ([6, 6], [6]), ([7, 7, 0, 1, 2, 3, 4, 5, 6, 7], [7]), ([8, 0, 1, 2, 3, 4, 5, 6, 7, 8], [])])
def vessel_Before.B7 : List Nat := [0, 1, 0, 4, 0, 28, 63, 127, 255, 511]
theorem vessel_Before.tab7 : rtab .any (opsOf Tryz.f14 7) = vessel_Before.T7 := by kernel_rfl
theorem vessel_Before.bits7 : waitsOk vessel_Before.T7.2 vessel_Before.B7 = true := by kernel_rfl
def vessel_Before.f (l0 : List S79) (a1 a2 : Int) : Option (Int × Int × Int) := some (BeforeF l0 a1 a2)
set_option maxHeartbeats 1600000 in
set_option maxRecDepth 100000 in
theorem vessel_Before.calls (A0 : Option Addr) (c0 : Nat) (l0 : List S79) (a1 a2 r1 r2 r3 : Int) (w : World) (hr0 : Kd.C k79 w A0 l0.length l0) (hc0 : l0.length ≤ c0) (h : vessel_Before.f l0 a1 a2 = some (r1, r2, r3)) :
    Calls Tryz.prog 14 #[.slice A0 l0.length c0, .int .i64 a1, .int .i64 a2] w fun e w' => e = .returned (.tuple #[.agg #[.int .i64 r1, .int .i64 r2], .int .i64 r3]) ∧ Below w.heap.size w w' := by
  have hu86 := Tryz.underlying73
  have hu90 := Tryz.underlying77
  have hu27 := Tryz.underlying37
  have hu105 := Tryz.underlying86
  have HR0 := Aside0.mk hr0
  have HC0 := Aside0.mk hc0
  clear hr0 hc0
  replace h : BeforeF l0 a1 a2 = (r1, r2, r3) := Option.some.inj h
  have HB := Aside0.mk (Below.refl w.heap.size w)
  unfold BeforeF asks at h
  by_cases hv : validB l0 = true
  · rw [if_pos hv] at h
    by_cases ha : (lvB l0 a1 && manyB a2) = true
    · rw [if_pos ha] at h
      rw [Bool.and_eq_true] at ha
      have hl := lvB_iff.1 ha.1
      have hm := manyB_iff.1 ha.2
      have hG : GV (hsO l0) (vsO l0) (dsO l0) := valid_GV hv
      clear ha
      have HVAL := Aside0.mk hv
      have HLV := Aside0.mk hl
      have HM := Aside0.mk hm
      by_cases hu : aboveF (beforeE l0 a1 a2) (sm (dsO l0)) = true
      · rw [if_pos hu] at h
        obtain ⟨z1, z2, t1, t2, t3, t4, t5⟩ := timeF_spec hG.h hG.d hG.hd hl.1 hl.2
        have hS := hG.sums
        have tw := w_le_v' t2 t5
        obtain ⟨e1, e2, e3⟩ := plusF_spec t2 a2
        have hX : plusF (timeF (hsO l0) (dsO l0) a1) a2 = beforeE l0 a1 a2 := rfl
        rw [hX] at e1 e2 e3
        have ew : (beforeE l0 a1 a2).w = (timeF (hsO l0) (dsO l0) a1).w + a2 := rfl
        have ed : (beforeE l0 a1 a2).d ≤ 1000 := by rw [e3]; exact t3
        obtain ⟨rfl, rfl, rfl⟩ : (0 : Int) = r1 ∧ (0 : Int) = r2 ∧ (4 : Int) = r3 := by simpa [erS] using h
        have hu2 : aboveF (beforeE l0 a1 a2) (sm (dsO l0)) = true := hu
        have C1 : Aside0 (∀ W g1 g2 g3, VeAt W (hsO l0) (vsO l0) (dsO l0) g1 g2 g3 → Calls Tryz.prog 38 #[.agg #[.pointer (some ⟨g1, 0, none⟩), .pointer (some ⟨g2, 0, none⟩), .pointer (some ⟨g3, 0, none⟩)], .int .i64 a1] W fun e w' => e = .returned (.agg #[.int .i64 (timeF (hsO l0) (dsO l0) a1).w, .int .i64 (timeF (hsO l0) (dsO l0) a1).n, .int .i64 (timeF (hsO l0) (dsO l0) a1).d]) ∧ Below W.heap.size W w') := ⟨fun W g1 g2 g3 hV => vessel_time.calls _ _ _ g1 g2 g3 a1 W hV hG hl.1 hl.2⟩
        have C2 : Aside0 (∀ W, Calls Tryz.prog 44 #[.agg #[.int .i64 (timeF (hsO l0) (dsO l0) a1).w, .int .i64 (timeF (hsO l0) (dsO l0) a1).n, .int .i64 (timeF (hsO l0) (dsO l0) a1).d], .int .i64 a2] W fun e w' => e = .returned (.agg #[.int .i64 (beforeE l0 a1 a2).w, .int .i64 (beforeE l0 a1 a2).n, .int .i64 (beforeE l0 a1 a2).d]) ∧ Below W.heap.size W w') := ⟨fun W => plus_good (timeF (hsO l0) (dsO l0) a1) a2 W (by omega)⟩
        have C3 : Aside0 (∀ W g1 g2 g3, VeAt W (hsO l0) (vsO l0) (dsO l0) g1 g2 g3 → Calls Tryz.prog 46 #[.pointer (some ⟨g3, 0, none⟩)] W fun e w' => e = .returned (.int .i64 (sm (dsO l0))) ∧ Below W.heap.size W w') := ⟨fun W g1 g2 g3 hV => by have hh := minute_all.calls2 g3 (dsO l0) (sums 0 (dsO l0)) W hV.s3 (by rw [sums_length]; omega); rw [hG.d.rd (by decide) (Nat.le_refl _), List.take_length] at hh; exact hh⟩
        have C4 : Aside0 (∀ W, Calls Tryz.prog 45 #[.agg #[.int .i64 (beforeE l0 a1 a2).w, .int .i64 (beforeE l0 a1 a2).n, .int .i64 (beforeE l0 a1 a2).d], .int .i64 (sm (dsO l0))] W fun e w' => e = .returned (.bool true) ∧ Below W.heap.size W w') := ⟨fun W => by have hh := above_good (beforeE l0 a1 a2) (sm (dsO l0)) W; rwa [hu2] at hh⟩
        clear h hu hu2 z1 z2 t1 t2 t3 t4 t5 tw e1 e2 e3 hX ew ed hS hG hl hm hv
        go_enter Tryz.func14, Tryz.ntmps14
        go_wp2_with (first | ((with_reducible refine gate_dst (N := 6) rfl ?_); refine bx_ 6 #[.int .i64 0, .int .i64 0] 37 ?_; intro gb hg w1 hbox hb; have GEgb := ge_ hg HB; replace hb := nb_ HB hb; replace HB := bs_ HB hb; have BKgb := Aside0.mk hbox; clear hb hbox hg) | ((with_reducible refine gate_callee (f := 41) rfl ?_); refine gL_ (some 15) Tryz.func41 (vessel_asked.good A0 c0 l0 a1 a2 _ (Kd.C_below HR0.out HB.out) HC0.out HVAL.out HLV.out HM.out) ?_; rintro e w2 ⟨g1, g2, g3, rfl, s_, hb⟩; refine ⟨.tuple #[.agg #[.pointer (some ⟨g1, 0, none⟩), .pointer (some ⟨g2, 0, none⟩), .pointer (some ⟨g3, 0, none⟩)], .int .i64 0], rfl, ?_⟩; replace hb := nb_ HB hb; replace BKgb := kb_ BKgb hb; replace HB := bs_ HB hb; have VE := Aside0.mk s_; clear s_; clear hb) | ((with_reducible refine gate_dst (N := 8) rfl ?_); refine bx_ 8 #[.pointer none, .pointer none, .pointer none] 73 ?_; intro gx hg w3 hbox hb; have GEgx := ge_ hg HB; have NEgb_gx := ne_ hg BKgb; replace hb := nb_ HB hb; replace BKgb := kb_ BKgb hb; replace VE := Aside0.mk (VeAt.below VE.out hb); replace HB := bs_ HB hb; have BKgx := Aside0.mk hbox; obtain ⟨Ogx_0, Ogx_1, Ogx_2⟩ := c3_ BKgx; clear hb hbox hg) | ((with_reducible refine gate_store (t := 73) (p := 8) rfl ?_); have hc_ := cf3_ BKgx; refine st3_ ?_; intro wv hp_; clear hc_; clear Ogx_0 Ogx_1 Ogx_2; replace VE : Aside0 (VeAt wv (hsO l0) (vsO l0) (dsO l0) g1 g2 g3) := ⟨by rw [← hp_.e]; exact VE.out.set3 BKgx.out⟩; replace BKgb := pf3_ NEgb_gx BKgb hp_; replace BKgx := pp3_ BKgx hp_; replace HB := pb3_ GEgx HB hp_; clear hp_; obtain ⟨Ogx_0, Ogx_1, Ogx_2⟩ := c3_ BKgx; have HV := Aside0.mk (Below.refl wv.heap.size wv)) | ((with_reducible refine gate_callee (f := 38) rfl ?_); refine gL_ (some 24) Tryz.func38 (C1.out _ _ _ _ (VE.out.below HV.out)) ?_; rintro e w6 ⟨rfl, hb⟩; refine ⟨.agg #[.int .i64 (timeF (hsO l0) (dsO l0) a1).w, .int .i64 (timeF (hsO l0) (dsO l0) a1).n, .int .i64 (timeF (hsO l0) (dsO l0) a1).d], rfl, ?_⟩; replace hb := nb_ HB hb; replace BKgb := kb_ BKgb hb; replace BKgx := kb_ BKgx hb; replace HB := bs_ HB hb; replace HV := bs_ HV hb; clear Ogx_0 Ogx_1 Ogx_2; obtain ⟨Ogx_0, Ogx_1, Ogx_2⟩ := c3_ BKgx; clear hb) | ((with_reducible refine gate_callee (f := 44) rfl ?_); refine gL_ (some 26) Tryz.func44 (C2.out _) ?_; rintro e w7 ⟨rfl, hb⟩; refine ⟨.agg #[.int .i64 (beforeE l0 a1 a2).w, .int .i64 (beforeE l0 a1 a2).n, .int .i64 (beforeE l0 a1 a2).d], rfl, ?_⟩; replace hb := nb_ HB hb; replace BKgb := kb_ BKgb hb; replace BKgx := kb_ BKgx hb; replace HB := bs_ HB hb; replace HV := bs_ HV hb; clear Ogx_0 Ogx_1 Ogx_2; obtain ⟨Ogx_0, Ogx_1, Ogx_2⟩ := c3_ BKgx; clear hb) | ((with_reducible refine gate_dst (N := 10) rfl ?_); refine bx_ 10 #[.int .i64 0, .int .i64 0, .int .i64 0] 77 ?_; intro gt hg w8 hbox hb; have GEgt := ge_ hg HB; have GVgt := ge_ hg HV; have NEgb_gt := ne_ hg BKgb; have NEgx_gt := ne_ hg BKgx; replace hb := nb_ HB hb; replace BKgb := kb_ BKgb hb; replace BKgx := kb_ BKgx hb; replace HB := bs_ HB hb; replace HV := bs_ HV hb; clear Ogx_0 Ogx_1 Ogx_2; obtain ⟨Ogx_0, Ogx_1, Ogx_2⟩ := c3_ BKgx; have BKgt := Aside0.mk hbox; clear Ogx_0 Ogx_1 Ogx_2; obtain ⟨Ogx_0, Ogx_1, Ogx_2⟩ := c3_ BKgx; clear hb hbox hg) | ((with_reducible refine gate_store (t := 77) (p := 10) rfl ?_); have hc_ := cf3_ BKgt; refine st3_ ?_; intro w9 hp_; clear hc_; clear Ogx_0 Ogx_1 Ogx_2; replace BKgb := pf3_ NEgb_gt BKgb hp_; replace BKgx := pf3_ NEgx_gt BKgx hp_; replace BKgt := pp3_ BKgt hp_; replace HB := pb3_ GEgt HB hp_; replace HV := pb3_ GVgt HV hp_; clear hp_; obtain ⟨Ogx_0, Ogx_1, Ogx_2⟩ := c3_ BKgx))
        clear Ogx_0 Ogx_1 Ogx_2
        replace BKgb := kd_ BKgb
        replace BKgx := kd_ BKgx
        replace BKgt := kd_ BKgt
        replace HB := bd_ HB
        replace HV := bd_ HV
        refine sM_ [] (fun w' => (w'.cell? ⟨gx, 0, none⟩ = some (.pointer (some ⟨g1, 0, none⟩)) ∧ w'.cell? ⟨gx, 1, none⟩ = some (.pointer (some ⟨g2, 0, none⟩)) ∧ w'.cell? ⟨gx, 2, none⟩ = some (.pointer (some ⟨g3, 0, none⟩))) ∧ (w'.cell? ⟨gt, 0, none⟩ = some (.int .i64 (beforeE l0 a1 a2).w) ∧ w'.cell? ⟨gt, 1, none⟩ = some (.int .i64 (beforeE l0 a1 a2).n) ∧ w'.cell? ⟨gt, 2, none⟩ = some (.int .i64 (beforeE l0 a1 a2).d))) vessel_Before.tab5 vessel_Before.bits5 ⟨c3_ BKgx, c3_ BKgt⟩ (fun hHeld HT_ HW_ => ?_)
        generalize w9.drew = w10 at BKgb BKgx BKgt HB HV hHeld ⊢
        refine pM_ HT_ 1 28 2 ?_
        refine tM_ HT_ HW_ hHeld 0 27 3 ?_
        refine tM_ HT_ HW_ hHeld 2 29 7 ?_
        refine oM_ HT_ 3 (some 30) 15 (fun K hK => ?_)
        refine gM_ Tryz.func46 (C3.out _ _ _ _ (VE.out.below HV.out)) ?_
        rintro e w11 ⟨rfl, hb⟩
        refine ⟨.int .i64 (sm (dsO l0)), rfl, ?_⟩
        replace hb := nb_ HB hb
        replace BKgb := kb_ BKgb hb
        replace BKgx := kb_ BKgx hb
        replace BKgt := kb_ BKgt hb
        replace HB := bs_ HB hb
        replace HV := bs_ HV hb
        (try clear hb)
        refine hK.out _ _ ⟨c3_ BKgx, c3_ BKgt⟩ (fun hHeld => ?_)
        clear hK K
        refine nM_ ?_
        refine oM_ HT_ 4 (some 31) 31 (fun K hK => ?_)
        refine gM_ Tryz.func45 (C4.out _) ?_
        rintro e w12 ⟨rfl, hb⟩
        refine ⟨.bool true, rfl, ?_⟩
        replace hb := nb_ HB hb
        replace BKgb := kb_ BKgb hb
        replace BKgx := kb_ BKgx hb
        replace BKgt := kb_ BKgt hb
        replace HB := bs_ HB hb
        replace HV := bs_ HV hb
        (try clear hb)
        refine hK.out _ _ ⟨c3_ BKgx, c3_ BKgt⟩ (fun hHeld => ?_)
        clear hK K
        refine nM_ ?_
        refine dM_ HT_ ?_
        go_wp2_with (first | ((with_reducible refine gate_store (t := 37) (p := 6) rfl ?_); have hc_ := cf2_ BKgb; refine st2_ ?_; intro w13 hp_; clear hc_; replace BKgb := pp2_ BKgb hp_; replace BKgx := pf2r_ NEgb_gx BKgx hp_; replace BKgt := pf2r_ NEgb_gt BKgt hp_; replace HB := pb2_ GEgb HB hp_; clear HV; clear hp_))
        try go_wp2
        refine bodyPost_ret (results_ct rfl _ _ gb 37 #[.int .i64 0, .int .i64 0] (0, 0) _ rfl BKgb.out Tryz.underlying37 rfl (by kernel_rfl)) rfl ?_
        exact ⟨rfl, HB.out⟩
      · rw [if_neg hu] at h
        obtain ⟨z1, z2, t1, t2, t3, t4, t5⟩ := timeF_spec hG.h hG.d hG.hd hl.1 hl.2
        have hS := hG.sums
        have tw := w_le_v' t2 t5
        obtain ⟨e1, e2, e3⟩ := plusF_spec t2 a2
        have hX : plusF (timeF (hsO l0) (dsO l0) a1) a2 = beforeE l0 a1 a2 := rfl
        rw [hX] at e1 e2 e3
        have ew : (beforeE l0 a1 a2).w = (timeF (hsO l0) (dsO l0) a1).w + a2 := rfl
        have ed : (beforeE l0 a1 a2).d ≤ 1000 := by rw [e3]; exact t3
        have hu2 : aboveF (beforeE l0 a1 a2) (sm (dsO l0)) = false := by simpa using hu
        have hv2 := not_above e1 hu2
        obtain ⟨f1, f2, f3, f4, f5, f6, f7⟩ := tell hG.d hG.h hG.hd.symm e1 (by omega) hv2 ed
        have fw := w_le_v' f4 f7
        obtain ⟨rfl, rfl, rfl⟩ : (spanF (atF (hsO l0) (findF (dsO l0) (beforeE l0 a1 a2)))).1 = r1 ∧ (spanF (atF (hsO l0) (findF (dsO l0) (beforeE l0 a1 a2)))).2 = r2 ∧ (0 : Int) = r3 := by simpa [okS] using h
        have C5 : Aside0 (∀ W g1 g2 g3, VeAt W (hsO l0) (vsO l0) (dsO l0) g1 g2 g3 → Calls Tryz.prog 47 #[.pointer (some ⟨g3, 0, none⟩), .agg #[.int .i64 (beforeE l0 a1 a2).w, .int .i64 (beforeE l0 a1 a2).n, .int .i64 (beforeE l0 a1 a2).d]] W fun e w' => e = .returned (.agg #[.int .i64 ((findF (dsO l0) (beforeE l0 a1 a2)).r : Int), .int .i64 (findF (dsO l0) (beforeE l0 a1 a2)).n, .int .i64 (findF (dsO l0) (beforeE l0 a1 a2)).d]) ∧ Below W.heap.size W w') := ⟨fun W g1 g2 g3 hV => minute_find.good g3 (dsO l0) 20000 (beforeE l0 a1 a2) W hV.s3 hG.d (by decide) e1 (by omega) hv2 (by omega)⟩
        have C6 : Aside0 (∀ W g1 g2 g3, VeAt W (hsO l0) (vsO l0) (dsO l0) g1 g2 g3 → Calls Tryz.prog 42 #[.pointer (some ⟨g1, 0, none⟩), .agg #[.int .i64 ((findF (dsO l0) (beforeE l0 a1 a2)).r : Int), .int .i64 (findF (dsO l0) (beforeE l0 a1 a2)).n, .int .i64 (findF (dsO l0) (beforeE l0 a1 a2)).d]] W fun e w' => e = .returned (.agg #[.int .i64 (atF (hsO l0) (findF (dsO l0) (beforeE l0 a1 a2))).w, .int .i64 (atF (hsO l0) (findF (dsO l0) (beforeE l0 a1 a2))).n, .int .i64 (atF (hsO l0) (findF (dsO l0) (beforeE l0 a1 a2))).d]) ∧ Below W.heap.size W w') := ⟨fun W g1 g2 g3 hV => height_at.good g1 (hsO l0) 1000 (findF (dsO l0) (beforeE l0 a1 a2)) W hV.s1 hG.h (by decide) (hG.hd ▸ f1) (by omega) (by omega)⟩
        have C7 : Aside0 (∀ W, Calls Tryz.prog 40 #[.agg #[.int .i64 (atF (hsO l0) (findF (dsO l0) (beforeE l0 a1 a2))).w, .int .i64 (atF (hsO l0) (findF (dsO l0) (beforeE l0 a1 a2))).n, .int .i64 (atF (hsO l0) (findF (dsO l0) (beforeE l0 a1 a2))).d]] W fun e w' => e = .returned (.agg #[.int .i64 (spanF (atF (hsO l0) (findF (dsO l0) (beforeE l0 a1 a2)))).1, .int .i64 (spanF (atF (hsO l0) (findF (dsO l0) (beforeE l0 a1 a2)))).2]) ∧ Below W.heap.size W w') := ⟨fun W => span_good (atF (hsO l0) (findF (dsO l0) (beforeE l0 a1 a2))) W (by omega)⟩
        clear f1 f2 f3 f4 f5 f6 f7 fw hv2
        have C1 : Aside0 (∀ W g1 g2 g3, VeAt W (hsO l0) (vsO l0) (dsO l0) g1 g2 g3 → Calls Tryz.prog 38 #[.agg #[.pointer (some ⟨g1, 0, none⟩), .pointer (some ⟨g2, 0, none⟩), .pointer (some ⟨g3, 0, none⟩)], .int .i64 a1] W fun e w' => e = .returned (.agg #[.int .i64 (timeF (hsO l0) (dsO l0) a1).w, .int .i64 (timeF (hsO l0) (dsO l0) a1).n, .int .i64 (timeF (hsO l0) (dsO l0) a1).d]) ∧ Below W.heap.size W w') := ⟨fun W g1 g2 g3 hV => vessel_time.calls _ _ _ g1 g2 g3 a1 W hV hG hl.1 hl.2⟩
        have C2 : Aside0 (∀ W, Calls Tryz.prog 44 #[.agg #[.int .i64 (timeF (hsO l0) (dsO l0) a1).w, .int .i64 (timeF (hsO l0) (dsO l0) a1).n, .int .i64 (timeF (hsO l0) (dsO l0) a1).d], .int .i64 a2] W fun e w' => e = .returned (.agg #[.int .i64 (beforeE l0 a1 a2).w, .int .i64 (beforeE l0 a1 a2).n, .int .i64 (beforeE l0 a1 a2).d]) ∧ Below W.heap.size W w') := ⟨fun W => plus_good (timeF (hsO l0) (dsO l0) a1) a2 W (by omega)⟩
        have C3 : Aside0 (∀ W g1 g2 g3, VeAt W (hsO l0) (vsO l0) (dsO l0) g1 g2 g3 → Calls Tryz.prog 46 #[.pointer (some ⟨g3, 0, none⟩)] W fun e w' => e = .returned (.int .i64 (sm (dsO l0))) ∧ Below W.heap.size W w') := ⟨fun W g1 g2 g3 hV => by have hh := minute_all.calls2 g3 (dsO l0) (sums 0 (dsO l0)) W hV.s3 (by rw [sums_length]; omega); rw [hG.d.rd (by decide) (Nat.le_refl _), List.take_length] at hh; exact hh⟩
        have C4 : Aside0 (∀ W, Calls Tryz.prog 45 #[.agg #[.int .i64 (beforeE l0 a1 a2).w, .int .i64 (beforeE l0 a1 a2).n, .int .i64 (beforeE l0 a1 a2).d], .int .i64 (sm (dsO l0))] W fun e w' => e = .returned (.bool false) ∧ Below W.heap.size W w') := ⟨fun W => by have hh := above_good (beforeE l0 a1 a2) (sm (dsO l0)) W; rwa [hu2] at hh⟩
        clear h hu hu2 z1 z2 t1 t2 t3 t4 t5 tw e1 e2 e3 hX ew ed hS hG hl hm hv
        go_enter Tryz.func14, Tryz.ntmps14
        go_wp2_with (first | ((with_reducible refine gate_dst (N := 6) rfl ?_); refine bx_ 6 #[.int .i64 0, .int .i64 0] 37 ?_; intro gb hg w1 hbox hb; have GEgb := ge_ hg HB; replace hb := nb_ HB hb; replace HB := bs_ HB hb; have BKgb := Aside0.mk hbox; clear hb hbox hg) | ((with_reducible refine gate_callee (f := 41) rfl ?_); refine gL_ (some 15) Tryz.func41 (vessel_asked.good A0 c0 l0 a1 a2 _ (Kd.C_below HR0.out HB.out) HC0.out HVAL.out HLV.out HM.out) ?_; rintro e w2 ⟨g1, g2, g3, rfl, s_, hb⟩; refine ⟨.tuple #[.agg #[.pointer (some ⟨g1, 0, none⟩), .pointer (some ⟨g2, 0, none⟩), .pointer (some ⟨g3, 0, none⟩)], .int .i64 0], rfl, ?_⟩; replace hb := nb_ HB hb; replace BKgb := kb_ BKgb hb; replace HB := bs_ HB hb; have VE := Aside0.mk s_; clear s_; clear hb) | ((with_reducible refine gate_dst (N := 8) rfl ?_); refine bx_ 8 #[.pointer none, .pointer none, .pointer none] 73 ?_; intro gx hg w3 hbox hb; have GEgx := ge_ hg HB; have NEgb_gx := ne_ hg BKgb; replace hb := nb_ HB hb; replace BKgb := kb_ BKgb hb; replace VE := Aside0.mk (VeAt.below VE.out hb); replace HB := bs_ HB hb; have BKgx := Aside0.mk hbox; obtain ⟨Ogx_0, Ogx_1, Ogx_2⟩ := c3_ BKgx; clear hb hbox hg) | ((with_reducible refine gate_store (t := 73) (p := 8) rfl ?_); have hc_ := cf3_ BKgx; refine st3_ ?_; intro wv hp_; clear hc_; clear Ogx_0 Ogx_1 Ogx_2; replace VE : Aside0 (VeAt wv (hsO l0) (vsO l0) (dsO l0) g1 g2 g3) := ⟨by rw [← hp_.e]; exact VE.out.set3 BKgx.out⟩; replace BKgb := pf3_ NEgb_gx BKgb hp_; replace BKgx := pp3_ BKgx hp_; replace HB := pb3_ GEgx HB hp_; clear hp_; obtain ⟨Ogx_0, Ogx_1, Ogx_2⟩ := c3_ BKgx; have HV := Aside0.mk (Below.refl wv.heap.size wv)) | ((with_reducible refine gate_callee (f := 38) rfl ?_); refine gL_ (some 24) Tryz.func38 (C1.out _ _ _ _ (VE.out.below HV.out)) ?_; rintro e w6 ⟨rfl, hb⟩; refine ⟨.agg #[.int .i64 (timeF (hsO l0) (dsO l0) a1).w, .int .i64 (timeF (hsO l0) (dsO l0) a1).n, .int .i64 (timeF (hsO l0) (dsO l0) a1).d], rfl, ?_⟩; replace hb := nb_ HB hb; replace BKgb := kb_ BKgb hb; replace BKgx := kb_ BKgx hb; replace HB := bs_ HB hb; replace HV := bs_ HV hb; clear Ogx_0 Ogx_1 Ogx_2; obtain ⟨Ogx_0, Ogx_1, Ogx_2⟩ := c3_ BKgx; clear hb) | ((with_reducible refine gate_callee (f := 44) rfl ?_); refine gL_ (some 26) Tryz.func44 (C2.out _) ?_; rintro e w7 ⟨rfl, hb⟩; refine ⟨.agg #[.int .i64 (beforeE l0 a1 a2).w, .int .i64 (beforeE l0 a1 a2).n, .int .i64 (beforeE l0 a1 a2).d], rfl, ?_⟩; replace hb := nb_ HB hb; replace BKgb := kb_ BKgb hb; replace BKgx := kb_ BKgx hb; replace HB := bs_ HB hb; replace HV := bs_ HV hb; clear Ogx_0 Ogx_1 Ogx_2; obtain ⟨Ogx_0, Ogx_1, Ogx_2⟩ := c3_ BKgx; clear hb) | ((with_reducible refine gate_dst (N := 10) rfl ?_); refine bx_ 10 #[.int .i64 0, .int .i64 0, .int .i64 0] 77 ?_; intro gt hg w8 hbox hb; have GEgt := ge_ hg HB; have GVgt := ge_ hg HV; have NEgb_gt := ne_ hg BKgb; have NEgx_gt := ne_ hg BKgx; replace hb := nb_ HB hb; replace BKgb := kb_ BKgb hb; replace BKgx := kb_ BKgx hb; replace HB := bs_ HB hb; replace HV := bs_ HV hb; clear Ogx_0 Ogx_1 Ogx_2; obtain ⟨Ogx_0, Ogx_1, Ogx_2⟩ := c3_ BKgx; have BKgt := Aside0.mk hbox; clear Ogx_0 Ogx_1 Ogx_2; obtain ⟨Ogx_0, Ogx_1, Ogx_2⟩ := c3_ BKgx; clear hb hbox hg) | ((with_reducible refine gate_store (t := 77) (p := 10) rfl ?_); have hc_ := cf3_ BKgt; refine st3_ ?_; intro w9 hp_; clear hc_; clear Ogx_0 Ogx_1 Ogx_2; replace BKgb := pf3_ NEgb_gt BKgb hp_; replace BKgx := pf3_ NEgx_gt BKgx hp_; replace BKgt := pp3_ BKgt hp_; replace HB := pb3_ GEgt HB hp_; replace HV := pb3_ GVgt HV hp_; clear hp_; obtain ⟨Ogx_0, Ogx_1, Ogx_2⟩ := c3_ BKgx))
        clear Ogx_0 Ogx_1 Ogx_2
        replace BKgb := kd_ BKgb
        replace BKgx := kd_ BKgx
        replace BKgt := kd_ BKgt
        replace HB := bd_ HB
        replace HV := bd_ HV
        refine sM_ [] (fun w' => (w'.cell? ⟨gx, 0, none⟩ = some (.pointer (some ⟨g1, 0, none⟩)) ∧ w'.cell? ⟨gx, 1, none⟩ = some (.pointer (some ⟨g2, 0, none⟩)) ∧ w'.cell? ⟨gx, 2, none⟩ = some (.pointer (some ⟨g3, 0, none⟩))) ∧ (w'.cell? ⟨gt, 0, none⟩ = some (.int .i64 (beforeE l0 a1 a2).w) ∧ w'.cell? ⟨gt, 1, none⟩ = some (.int .i64 (beforeE l0 a1 a2).n) ∧ w'.cell? ⟨gt, 2, none⟩ = some (.int .i64 (beforeE l0 a1 a2).d))) vessel_Before.tab5 vessel_Before.bits5 ⟨c3_ BKgx, c3_ BKgt⟩ (fun hHeld HT_ HW_ => ?_)
        generalize w9.drew = w10 at BKgb BKgx BKgt HB HV hHeld ⊢
        refine pM_ HT_ 1 28 2 ?_
        refine tM_ HT_ HW_ hHeld 0 27 3 ?_
        refine tM_ HT_ HW_ hHeld 2 29 7 ?_
        refine oM_ HT_ 3 (some 30) 15 (fun K hK => ?_)
        refine gM_ Tryz.func46 (C3.out _ _ _ _ (VE.out.below HV.out)) ?_
        rintro e w11 ⟨rfl, hb⟩
        refine ⟨.int .i64 (sm (dsO l0)), rfl, ?_⟩
        replace hb := nb_ HB hb
        replace BKgb := kb_ BKgb hb
        replace BKgx := kb_ BKgx hb
        replace BKgt := kb_ BKgt hb
        replace HB := bs_ HB hb
        replace HV := bs_ HV hb
        (try clear hb)
        refine hK.out _ _ ⟨c3_ BKgx, c3_ BKgt⟩ (fun hHeld => ?_)
        clear hK K
        refine nM_ ?_
        refine oM_ HT_ 4 (some 31) 31 (fun K hK => ?_)
        refine gM_ Tryz.func45 (C4.out _) ?_
        rintro e w12 ⟨rfl, hb⟩
        refine ⟨.bool false, rfl, ?_⟩
        replace hb := nb_ HB hb
        replace BKgb := kb_ BKgb hb
        replace BKgx := kb_ BKgx hb
        replace BKgt := kb_ BKgt hb
        replace HB := bs_ HB hb
        replace HV := bs_ HV hb
        (try clear hb)
        refine hK.out _ _ ⟨c3_ BKgx, c3_ BKgt⟩ (fun hHeld => ?_)
        clear hK K
        refine nM_ ?_
        refine dM_ HT_ ?_
        try go_wp2
        replace BKgb := kd_ BKgb
        replace BKgx := kd_ BKgx
        replace BKgt := kd_ BKgt
        replace HB := bd_ HB
        replace HV := bd_ HV
        refine sM_ [8] (fun w' => (w'.cell? ⟨gx, 0, none⟩ = some (.pointer (some ⟨g1, 0, none⟩)) ∧ w'.cell? ⟨gx, 1, none⟩ = some (.pointer (some ⟨g2, 0, none⟩)) ∧ w'.cell? ⟨gx, 2, none⟩ = some (.pointer (some ⟨g3, 0, none⟩))) ∧ (w'.cell? ⟨gt, 0, none⟩ = some (.int .i64 (beforeE l0 a1 a2).w) ∧ w'.cell? ⟨gt, 1, none⟩ = some (.int .i64 (beforeE l0 a1 a2).n) ∧ w'.cell? ⟨gt, 2, none⟩ = some (.int .i64 (beforeE l0 a1 a2).d))) vessel_Before.tab7 vessel_Before.bits7 ⟨c3_ BKgx, c3_ BKgt⟩ (fun hHeld HT_ HW_ => ?_)
        generalize w12.drew = w14 at BKgb BKgx BKgt HB HV hHeld ⊢
        refine pM_ HT_ 0 33 1 ?_
        refine pM_ HT_ 2 35 5 ?_
        refine tM_ HT_ HW_ hHeld 1 34 7 ?_
        refine tM_ HT_ HW_ hHeld 3 36 15 ?_
        refine tM_ HT_ HW_ hHeld 4 37 31 ?_
        refine oM_ HT_ 5 (some 38) 63 (fun K hK => ?_)
        refine gM_ Tryz.func47 (C5.out _ _ _ _ (VE.out.below HV.out)) ?_
        rintro e w15 ⟨rfl, hb⟩
        refine ⟨.agg #[.int .i64 ((findF (dsO l0) (beforeE l0 a1 a2)).r : Int), .int .i64 (findF (dsO l0) (beforeE l0 a1 a2)).n, .int .i64 (findF (dsO l0) (beforeE l0 a1 a2)).d], rfl, ?_⟩
        replace hb := nb_ HB hb
        replace BKgb := kb_ BKgb hb
        replace BKgx := kb_ BKgx hb
        replace BKgt := kb_ BKgt hb
        replace HB := bs_ HB hb
        replace HV := bs_ HV hb
        (try clear hb)
        refine hK.out _ _ ⟨c3_ BKgx, c3_ BKgt⟩ (fun hHeld => ?_)
        clear hK K
        refine nM_ ?_
        refine oM_ HT_ 6 (some 39) 127 (fun K hK => ?_)
        refine gM_ Tryz.func42 (C6.out _ _ _ _ (VE.out.below HV.out)) ?_
        rintro e w16 ⟨rfl, hb⟩
        refine ⟨.agg #[.int .i64 (atF (hsO l0) (findF (dsO l0) (beforeE l0 a1 a2))).w, .int .i64 (atF (hsO l0) (findF (dsO l0) (beforeE l0 a1 a2))).n, .int .i64 (atF (hsO l0) (findF (dsO l0) (beforeE l0 a1 a2))).d], rfl, ?_⟩
        replace hb := nb_ HB hb
        replace BKgb := kb_ BKgb hb
        replace BKgx := kb_ BKgx hb
        replace BKgt := kb_ BKgt hb
        replace HB := bs_ HB hb
        replace HV := bs_ HV hb
        (try clear hb)
        refine hK.out _ _ ⟨c3_ BKgx, c3_ BKgt⟩ (fun hHeld => ?_)
        clear hK K
        refine nM_ ?_
        refine oM_ HT_ 7 (some 40) 255 (fun K hK => ?_)
        refine gM_ Tryz.func40 (C7.out _) ?_
        rintro e w17 ⟨rfl, hb⟩
        refine ⟨.agg #[.int .i64 (spanF (atF (hsO l0) (findF (dsO l0) (beforeE l0 a1 a2)))).1, .int .i64 (spanF (atF (hsO l0) (findF (dsO l0) (beforeE l0 a1 a2)))).2], rfl, ?_⟩
        replace hb := nb_ HB hb
        replace BKgb := kb_ BKgb hb
        replace BKgx := kb_ BKgx hb
        replace BKgt := kb_ BKgt hb
        replace HB := bs_ HB hb
        replace HV := bs_ HV hb
        (try clear hb)
        refine hK.out _ _ ⟨c3_ BKgx, c3_ BKgt⟩ (fun hHeld => ?_)
        clear hK K
        refine nM_ ?_
        refine lM_ HT_ 8 none 511 (fun K hK => ?_)
        have hc_ := cf2_ BKgb
        refine sk2_ ?_
        intro ws_ hp_
        clear hc_
        refine hK.out _ _ ?_
        clear hK K
        refine pM_ HT_ 9 7 1023 ?_
        refine dM_ HT_ ?_
        try go_wp2
        replace BKgb := pp2_ BKgb hp_
        replace BKgx := pf2r_ NEgb_gx BKgx hp_
        replace BKgt := pf2r_ NEgb_gt BKgt hp_
        replace HB := pb2_ GEgb HB hp_
        clear HV
        clear hp_
        generalize ws_ = w18 at BKgb BKgx BKgt HB ⊢
        clear ws_
        refine bodyPost_ret (results_ct rfl _ _ gb 37 #[.int .i64 (spanF (atF (hsO l0) (findF (dsO l0) (beforeE l0 a1 a2)))).1, .int .i64 (spanF (atF (hsO l0) (findF (dsO l0) (beforeE l0 a1 a2)))).2] (0, 0) _ rfl BKgb.out Tryz.underlying37 rfl (by kernel_rfl)) rfl ?_
        exact ⟨rfl, HB.out⟩
    · rw [if_neg ha] at h
      obtain ⟨rfl, rfl, rfl⟩ : (0 : Int) = r1 ∧ (0 : Int) = r2 ∧ (1 : Int) = r3 := by simpa [erS] using h
      clear h
      have HA : Aside0 (∀ W, Below w.heap.size w W → Calls Tryz.prog 41 #[.slice A0 l0.length c0, .int .i64 a1, .int .i64 a2] W fun e w' => e = .returned (.tuple #[.agg #[.pointer none, .pointer none, .pointer none], .int .i64 1]) ∧ Below W.heap.size W w') := ⟨fun W hB => vessel_asked.arg A0 c0 l0 a1 a2 W (Kd.C_below HR0.out hB) HC0.out hv (fun hh => ha (by rw [Bool.and_eq_true]; exact ⟨lvB_iff.2 hh.1, manyB_iff.2 hh.2⟩))⟩
      go_enter Tryz.func14, Tryz.ntmps14
      go_wp2_with (first | ((with_reducible refine gate_dst (N := 6) rfl ?_); refine bx_ 6 #[.int .i64 0, .int .i64 0] 37 ?_; intro gb hg w1 hbox hb; have GEgb := ge_ hg HB; replace hb := nb_ HB hb; replace HB := bs_ HB hb; have BKgb := Aside0.mk hbox; clear hb hbox hg) | ((with_reducible refine gate_callee (f := 41) rfl ?_); refine gL_ (some 15) Tryz.func41 (HA.out _ HB.out) ?_; rintro e w2 ⟨rfl, hb⟩; refine ⟨.tuple #[.agg #[.pointer none, .pointer none, .pointer none], .int .i64 1], rfl, ?_⟩; replace hb := nb_ HB hb; replace BKgb := kb_ BKgb hb; replace HB := bs_ HB hb; clear hb) | ((with_reducible refine gate_dst (N := 8) rfl ?_); refine bx_ 8 #[.pointer none, .pointer none, .pointer none] 73 ?_; intro gx hg w3 hbox hb; have GEgx := ge_ hg HB; have NEgb_gx := ne_ hg BKgb; replace hb := nb_ HB hb; replace BKgb := kb_ BKgb hb; replace HB := bs_ HB hb; have BKgx := Aside0.mk hbox; clear hb hbox hg) | ((with_reducible refine gate_store (t := 73) (p := 8) rfl ?_); have hc_ := cf3_ BKgx; refine st3_ ?_; intro w4 hp_; clear hc_; replace BKgb := pf3_ NEgb_gx BKgb hp_; replace BKgx := pp3_ BKgx hp_; replace HB := pb3_ GEgx HB hp_; clear hp_) | ((with_reducible refine gate_store (t := 37) (p := 6) rfl ?_); have hc_ := cf2_ BKgb; refine st2_ ?_; intro w5 hp_; clear hc_; replace BKgb := pp2_ BKgb hp_; replace BKgx := pf2r_ NEgb_gx BKgx hp_; replace HB := pb2_ GEgb HB hp_; clear hp_))
      try go_wp2
      refine bodyPost_ret (results_ct rfl _ _ gb 37 #[.int .i64 0, .int .i64 0] (0, 0) _ rfl BKgb.out Tryz.underlying37 rfl (by kernel_rfl)) rfl ?_
      exact ⟨rfl, HB.out⟩
  · rw [if_neg hv] at h
    obtain ⟨rfl, rfl, rfl⟩ : (0 : Int) = r1 ∧ (0 : Int) = r2 ∧ (20 : Int) = r3 := by simpa [erS] using h
    clear h
    have HA : Aside0 (∀ W, Below w.heap.size w W → Calls Tryz.prog 41 #[.slice A0 l0.length c0, .int .i64 a1, .int .i64 a2] W fun e w' => e = .returned (.tuple #[.agg #[.pointer none, .pointer none, .pointer none], .int .i64 20]) ∧ Below W.heap.size W w') := ⟨fun W hB => vessel_asked.bad A0 c0 l0 a1 a2 W (Kd.C_below HR0.out hB) HC0.out (by simpa using hv)⟩
    go_enter Tryz.func14, Tryz.ntmps14
    go_wp2_with (first | ((with_reducible refine gate_dst (N := 6) rfl ?_); refine bx_ 6 #[.int .i64 0, .int .i64 0] 37 ?_; intro gb hg w1 hbox hb; have GEgb := ge_ hg HB; replace hb := nb_ HB hb; replace HB := bs_ HB hb; have BKgb := Aside0.mk hbox; clear hb hbox hg) | ((with_reducible refine gate_callee (f := 41) rfl ?_); refine gL_ (some 15) Tryz.func41 (HA.out _ HB.out) ?_; rintro e w2 ⟨rfl, hb⟩; refine ⟨.tuple #[.agg #[.pointer none, .pointer none, .pointer none], .int .i64 20], rfl, ?_⟩; replace hb := nb_ HB hb; replace BKgb := kb_ BKgb hb; replace HB := bs_ HB hb; clear hb) | ((with_reducible refine gate_dst (N := 8) rfl ?_); refine bx_ 8 #[.pointer none, .pointer none, .pointer none] 73 ?_; intro gx hg w3 hbox hb; have GEgx := ge_ hg HB; have NEgb_gx := ne_ hg BKgb; replace hb := nb_ HB hb; replace BKgb := kb_ BKgb hb; replace HB := bs_ HB hb; have BKgx := Aside0.mk hbox; clear hb hbox hg) | ((with_reducible refine gate_store (t := 73) (p := 8) rfl ?_); have hc_ := cf3_ BKgx; refine st3_ ?_; intro w4 hp_; clear hc_; replace BKgb := pf3_ NEgb_gx BKgb hp_; replace BKgx := pp3_ BKgx hp_; replace HB := pb3_ GEgx HB hp_; clear hp_) | ((with_reducible refine gate_store (t := 37) (p := 6) rfl ?_); have hc_ := cf2_ BKgb; refine st2_ ?_; intro w5 hp_; clear hc_; replace BKgb := pp2_ BKgb hp_; replace BKgx := pf2r_ NEgb_gx BKgx hp_; replace HB := pb2_ GEgb HB hp_; clear hp_))
    try go_wp2
    refine bodyPost_ret (results_ct rfl _ _ gb 37 #[.int .i64 0, .int .i64 0] (0, 0) _ rfl BKgb.out Tryz.underlying37 rfl (by kernel_rfl)) rfl ?_
    exact ⟨rfl, HB.out⟩
end Go.Proofs.YtlhfclpbodfmcaaGreatDoor.Pr
