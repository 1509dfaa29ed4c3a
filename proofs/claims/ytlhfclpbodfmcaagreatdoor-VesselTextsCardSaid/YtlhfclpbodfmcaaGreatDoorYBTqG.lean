/- A part of the proof: TqG. -/
import Derived.Test.YtlhfclpbodfmcaaGreatDoorYBTp
import Derived.Outline
import Derived.Test.YtlhfclpbodfmcaaGreatDoorYBPr1
namespace Go.Proofs.YtlhfclpbodfmcaaGreatDoor.Pr
open Go.RowKit Go.Proofs.YtlhfclpbodfmcaaGreatDoorW.PrintWords Go.Proofs.YtlhfclpbodfmcaaGreatDoorW.PrintLast Go.Proofs.YtlhfclpbodfmcaaGreatDoorW.PrintMore
open Go.Proofs.YtlhfclpbodfmcaaGreatDoor.Vm
set_option linter.unusedVariables false
set_option linter.unusedSimpArgs false
def vessel_Cascade.T7 : Bool × List (List Nat × List Nat) := (true, [([], []), ([0], [0]), ([], []), ([], []), ([], []), ([2, 3, 4, 1], [2, 3, 4]), ([], []), ([], []), ([6, 1, 5, 0, 1, 6, 7], [1, 6]), ([7, 5, 8, 0, 1, 2, 3, 4, 5, 6, 7, 8], [5, 7])])
def vessel_Cascade.B7 : List Nat := [0, 1, 0, 0, 0, 31, 0, 0, 255, 511]
theorem vessel_Cascade.tab7 : rtab .any (opsOf Tryz.f18 7) = vessel_Cascade.T7 := by kernel_rfl
theorem vessel_Cascade.bits7 : waitsOk vessel_Cascade.T7.2 vessel_Cascade.B7 = true := by kernel_rfl
def vessel_Cascade.T8 : Bool × List (List Nat × List Nat) := (true, [([], []), ([], []), ([1], [1]), ([2], [2]), ([0, 3, 3], [0, 3])])
def vessel_Cascade.B8 : List Nat := [0, 0, 2, 6, 15]
theorem vessel_Cascade.tab8 : rtab .any (opsOf Tryz.f18 8) = vessel_Cascade.T8 := by kernel_rfl
theorem vessel_Cascade.bits8 : waitsOk vessel_Cascade.T8.2 vessel_Cascade.B8 = true := by kernel_rfl
def vessel_Cascade.T10 : Bool × List (List Nat × List Nat) := (true, [([], []), ([0], [0]), ([], []), ([2], [2]), ([], []), ([3, 4], [3, 4]), ([1, 5, 5], [1, 5]), ([6, 6], [6]), ([7, 7, 0, 1, 2, 3, 4, 5, 6, 7], [7]), ([8, 0, 1, 2, 3, 4, 5, 6, 7, 8], [])])
def vessel_Cascade.B10 : List Nat := [0, 1, 0, 4, 0, 28, 63, 127, 255, 511]
theorem vessel_Cascade.tab10 : rtab .any (opsOf Tryz.f18 10) = vessel_Cascade.T10 := by kernel_rfl
theorem vessel_Cascade.bits10 : waitsOk vessel_Cascade.T10.2 vessel_Cascade.B10 = true := by kernel_rfl
def vessel_Cascade.f (l0 l1 : List S79) (a2 a3 : Int) : Option (Int × Int × Int) := some (CascadeF l0 l1 a2 a3)
set_option maxHeartbeats 1600000 in
set_option maxRecDepth 100000 in
theorem vessel_Cascade.calls (A0 : Option Addr) (c0 : Nat) (l0 : List S79) (A1 : Option Addr) (c1 : Nat) (l1 : List S79) (a2 a3 r1 r2 r3 : Int) (w : World) (hr0 : Kd.C k79 w A0 l0.length l0) (hc0 : l0.length ≤ c0) (hr1 : Kd.C k79 w A1 l1.length l1) (hc1 : l1.length ≤ c1) (h : vessel_Cascade.f l0 l1 a2 a3 = some (r1, r2, r3)) :
    Calls Tryz.prog 18 #[.slice A0 l0.length c0, .slice A1 l1.length c1, .int .i64 a2, .int .i64 a3] w fun e w' => e = .returned (.tuple #[.agg #[.int .i64 r1, .int .i64 r2], .int .i64 r3]) ∧ Below w.heap.size w w' := by
  have hu86 := Tryz.underlying73
  have hu90 := Tryz.underlying77
  have hu27 := Tryz.underlying37
  have HR0 := Aside0.mk hr0
  have HC0 := Aside0.mk hc0
  have HR1 := Aside0.mk hr1
  have HC1 := Aside0.mk hc1
  clear hr0 hc0 hr1 hc1
  replace h : CascadeF l0 l1 a2 a3 = (r1, r2, r3) := Option.some.inj h
  have HB := Aside0.mk (Below.refl w.heap.size w)
  unfold CascadeF at h
  by_cases hv : validB l0 = true
  · rw [if_pos hv] at h
    by_cases hu : validB l1 = true
    · rw [if_pos hu] at h
      by_cases ha : (lvB l0 a2 && manyB a3) = true
      · rw [if_pos ha] at h
        rw [Bool.and_eq_true] at ha
        have hl := lvB_iff.1 ha.1
        have hm := manyB_iff.1 ha.2
        clear ha
        have hG : GV (hsO l0) (vsO l0) (dsO l0) := valid_GV hv
        have hU : GV (hsO l1) (vsO l1) (dsO l1) := valid_GV hu
        by_cases hab : aboveF (runF (hsO l0) (vsO l0) (dsO l0) a2 a3) (sm (vsO l1)) = true
        · rw [if_pos hab] at h
          obtain ⟨z1, p3, p4, p5, p6⟩ := runF_spec hG hl.1 hl.2 hm.1
          obtain ⟨rfl, rfl, rfl⟩ : (0 : Int) = r1 ∧ (0 : Int) = r2 ∧ (4 : Int) = r3 := by simpa [erS] using h
          have hab2 : aboveF (runF (hsO l0) (vsO l0) (dsO l0) a2 a3) (sm (vsO l1)) = true := hab
          have C1 : Aside0 (∀ W g1 g2 g3, VeAt W (hsO l0) (vsO l0) (dsO l0) g1 g2 g3 → Calls Tryz.prog 48 #[.agg #[.pointer (some ⟨g1, 0, none⟩), .pointer (some ⟨g2, 0, none⟩), .pointer (some ⟨g3, 0, none⟩)], .int .i64 a2, .int .i64 a3] W fun e w' => e = .returned (.agg #[.int .i64 (runF (hsO l0) (vsO l0) (dsO l0) a2 a3).w, .int .i64 (runF (hsO l0) (vsO l0) (dsO l0) a2 a3).n, .int .i64 (runF (hsO l0) (vsO l0) (dsO l0) a2 a3).d]) ∧ Below W.heap.size W w') := ⟨fun W g1 g2 g3 hV => vessel_run.calls _ _ _ g1 g2 g3 a2 a3 W hV hG hl.1 hl.2 hm.1 hm.2⟩
          have C3 : Aside0 (∀ W g1 g2 g3, VeAt W (hsO l1) (vsO l1) (dsO l1) g1 g2 g3 → Calls Tryz.prog 52 #[.pointer (some ⟨g2, 0, none⟩)] W fun e w' => e = .returned (.int .i64 (sm (vsO l1))) ∧ Below W.heap.size W w') := ⟨fun W g1 g2 g3 hV => by have hh := volume_all.calls2 g2 (vsO l1) (sums 0 (vsO l1)) W hV.s2 (by rw [sums_length]; omega); rw [hU.v.rd (by decide) (Nat.le_refl _), List.take_length] at hh; exact hh⟩
          have C4 : Aside0 (∀ W, Calls Tryz.prog 45 #[.agg #[.int .i64 (runF (hsO l0) (vsO l0) (dsO l0) a2 a3).w, .int .i64 (runF (hsO l0) (vsO l0) (dsO l0) a2 a3).n, .int .i64 (runF (hsO l0) (vsO l0) (dsO l0) a2 a3).d], .int .i64 (sm (vsO l1))] W fun e w' => e = .returned (.bool true) ∧ Below W.heap.size W w') := ⟨fun W => by have hh := above_good (runF (hsO l0) (vsO l0) (dsO l0) a2 a3) (sm (vsO l1)) W; rwa [hab2] at hh⟩
          have HCK : Aside0 (vessel_checked.f 40 [l0, l1] = some 0) := ⟨checked_good hv hu⟩
          have HN1 : Aside0 (l1.length ≤ 900) := ⟨by have := hU.h.ln; rw [List.length_map] at this; omega⟩
          have HVAL := Aside0.mk hv
          have HLV := Aside0.mk hl
          have HM := Aside0.mk hm
          clear h hab hab2 z1 p3 p4 p5 p6 hG hU hl hm hv hu
          go_enter Tryz.func18, Tryz.ntmps18
          go_wp2_with (first | ((with_reducible refine gate_dst (N := 8) rfl ?_); refine bx_ 8 #[.int .i64 0, .int .i64 0] 37 ?_; intro gb hg w1 hbox hb; have GEgb := ge_ hg HB; replace hb := nb_ HB hb; replace HB := bs_ HB hb; have BKgb := Aside0.mk hbox; clear hb hbox hg) | ((with_reducible refine gate_dst (N := 17) rfl ?_); refine lit2_list ?hg (N := 17) ?hd (x := .slice A0 l0.length c0) (y := .slice A1 l1.length c1) (E := 23) ?hr ?_; (case hd => rfl); (case hg => rfl); (case hr => first | (go_simp; done) | (go_simp; rfl)); intro gl hg w1b hbox hb; replace hb := nb_ HB hb; replace BKgb := kb_ BKgb hb; replace HB := bs_ HB hb; have HPL := Aside0.mk (pair_row (Kd.C_below HR0.out HB.out) HC0.out (Kd.C_below HR1.out HB.out) HC1.out hbox); clear hb hbox hg) | ((with_reducible refine gate_callee (f := 54) rfl ?_); refine gL_ (some 18) Tryz.func54 (vessel_checked.calls 40 (some ⟨gl, 0, none⟩) 2 [l0, l1] 0 _ HPL.out (Nat.le_refl 2) HCK.out) ?_; rintro e w2 ⟨rfl, hb⟩; refine ⟨.int .i64 0, rfl, ?_⟩; replace hb := nb_ HB hb; replace BKgb := kb_ BKgb hb; replace HB := bs_ HB hb; clear HPL; clear hb) | ((with_reducible refine gate_callee (f := 41) rfl ?_); refine gL_ (some 27) Tryz.func41 (vessel_asked.good A0 c0 l0 a2 a3 _ (Kd.C_below HR0.out HB.out) HC0.out HVAL.out HLV.out HM.out) ?_; rintro e w3 ⟨g1, g2, g3, rfl, s_, hb⟩; refine ⟨.tuple #[.agg #[.pointer (some ⟨g1, 0, none⟩), .pointer (some ⟨g2, 0, none⟩), .pointer (some ⟨g3, 0, none⟩)], .int .i64 0], rfl, ?_⟩; replace hb := nb_ HB hb; replace BKgb := kb_ BKgb hb; replace HB := bs_ HB hb; have VE := Aside0.mk s_; clear s_; clear hb) | ((with_reducible refine gate_dst (N := 11) rfl ?_); refine bx_ 11 #[.pointer none, .pointer none, .pointer none] 73 ?_; intro gx hg w4 hbox hb; have GEgx := ge_ hg HB; have NEgb_gx := ne_ hg BKgb; replace hb := nb_ HB hb; replace BKgb := kb_ BKgb hb; replace VE := Aside0.mk (VeAt.below VE.out hb); replace HB := bs_ HB hb; have BKgx := Aside0.mk hbox; clear hb hbox hg) | ((with_reducible refine gate_store (t := 73) (p := 11) rfl ?_); have hc_ := cf3_ BKgx; refine st3_ ?_; intro wv hp_; clear hc_; replace VE : Aside0 (VeAt wv (hsO l0) (vsO l0) (dsO l0) g1 g2 g3) := ⟨by rw [← hp_.e]; exact VE.out.set3 BKgx.out⟩; replace BKgb := pf3_ NEgb_gx BKgb hp_; replace BKgx := pp3_ BKgx hp_; replace HB := pb3_ GEgx HB hp_; clear hp_; have HV := Aside0.mk (Below.refl wv.heap.size wv)))
          replace BKgb := kd_ BKgb
          replace BKgx := kd_ BKgx
          replace HB := bd_ HB
          replace HV := bd_ HV
          refine sM_ [8, 9] (fun w' => (w'.cell? ⟨gx, 0, none⟩ = some (.pointer (some ⟨g1, 0, none⟩)) ∧ w'.cell? ⟨gx, 1, none⟩ = some (.pointer (some ⟨g2, 0, none⟩)) ∧ w'.cell? ⟨gx, 2, none⟩ = some (.pointer (some ⟨g3, 0, none⟩)))) vessel_Cascade.tab7 vessel_Cascade.bits7 (c3_ BKgx) (fun hHeld HT_ HW_ => ?_)
          generalize wv.drew = w6 at BKgb BKgx HB HV hHeld ⊢
          refine pM_ HT_ 0 34 1 ?_
          refine pM_ HT_ 3 37 9 ?_
          refine pM_ HT_ 4 38 25 ?_
          refine tM_ HT_ HW_ hHeld 2 36 29 ?_
          refine join_ (σ := Nat × Nat × Nat × Nat × Nat) 2 (bm 10 255) (fun s => [(35, .agg #[.pointer (some ⟨s.1, 0, none⟩), .pointer (some ⟨s.2.1, 0, none⟩), .pointer (some ⟨s.2.2.1, 0, none⟩)]), (39, .agg #[.int .i64 (runF (hsO l0) (vsO l0) (dsO l0) a2 a3).w, .int .i64 (runF (hsO l0) (vsO l0) (dsO l0) a2 a3).n, .int .i64 (runF (hsO l0) (vsO l0) (dsO l0) a2 a3).d]), (13, .pointer (some ⟨s.2.2.2.1, 0, none⟩)), (14, .pointer (some ⟨s.2.2.2.2, 0, none⟩))]) (fun s w' => Below w.heap.size w w' ∧ Below wv.heap.size wv w' ∧ w'.heap[gb]? = some (.cells #[.int .i64 0, .int .i64 0] 37 (0, 0)) ∧ w'.heap[gx]? = some (.cells #[.pointer (some ⟨g1, 0, none⟩), .pointer (some ⟨g2, 0, none⟩), .pointer (some ⟨g3, 0, none⟩)] 73 (0, 0)) ∧ w'.heap[s.2.2.2.1]? = some (.cells #[.pointer none, .pointer none, .pointer none] 73 (0, 0)) ∧ w'.heap[s.2.2.2.2]? = some (.cells #[.int .i64 0, .int .i64 0, .int .i64 0] 77 (0, 0)) ∧ w.heap.size ≤ s.2.2.2.1 ∧ w.heap.size ≤ s.2.2.2.2 ∧ wv.heap.size ≤ s.2.2.2.1 ∧ wv.heap.size ≤ s.2.2.2.2 ∧ s.2.2.2.1 ≠ s.2.2.2.2 ∧ gb ≠ s.2.2.2.1 ∧ gb ≠ s.2.2.2.2 ∧ gx ≠ s.2.2.2.1 ∧ gx ≠ s.2.2.2.2 ∧ VeX w' (fun k => k = s.2.2.2.2) (hsO l1) (vsO l1) (dsO l1) s.1 s.2.1 s.2.2.1) ?_ ?_
          · rintro ⟨h1, h2, h3, gy, gt⟩ wj ⟨f0_, f1_, f2_, f3_, f4_, f5_, f6_, f7_, f8_, f9_, f10_, f11_, f12_, f13_, f14_, f15_⟩
            refine nM_ ?_
            clear HB HV BKgb BKgx
            have HB := Aside0.mk f0_
            have HV := Aside0.mk f1_
            have BKgb := Aside0.mk f2_
            have BKgx := Aside0.mk f3_
            have BKgy := Aside0.mk f4_
            have BKgt := Aside0.mk f5_
            have GEgy := Aside0.mk f6_
            have GEgt := Aside0.mk f7_
            have GVgy := Aside0.mk f8_
            have GVgt := Aside0.mk f9_
            have NEgy_gt := Aside0.mk f10_
            have NEgb_gy := Aside0.mk f11_
            have NEgb_gt := Aside0.mk f12_
            have NEgx_gy := Aside0.mk f13_
            have NEgx_gt := Aside0.mk f14_
            have VX := Aside0.mk f15_
            clear f0_ f1_ f2_ f3_ f4_ f5_ f6_ f7_ f8_ f9_ f10_ f11_ f12_ f13_ f14_ f15_
            refine lM_ HT_ 8 none 511 (fun K hK => ?_)
            have hc_ := cf3_ BKgy
            refine sk3_ ?_
            intro ws_ hp_
            clear hc_
            refine hK.out _ _ ?_
            replace VX : Aside0 (VeX ws_ (fun k => k = gt) (hsO l1) (vsO l1) (dsO l1) h1 h2 h3) := ⟨by rw [← hp_.e]; exact VX.out.set3 BKgy.out⟩
            replace BKgb := pf3_ NEgb_gy BKgb hp_
            replace BKgx := pf3_ NEgx_gy BKgx hp_
            replace BKgy := pp3_ BKgy hp_
            replace BKgt := pf3r_ NEgy_gt BKgt hp_
            replace HB := pb3_ GEgy HB hp_
            replace HV := pb3_ GVgy HV hp_
            clear hp_
            generalize ws_ = w11 at VX BKgb BKgx BKgy BKgt HB HV ⊢
            clear ws_
            clear hK K
            refine lM_ HT_ 9 none 1023 (fun K hK => ?_)
            have hc_ := cf3_ BKgt
            refine sk3_ ?_
            intro ws_ hp_
            clear hc_
            refine hK.out _ _ ?_
            replace VX : Aside0 (VeX ws_ (fun k => k = gt) (hsO l1) (vsO l1) (dsO l1) h1 h2 h3) := ⟨by rw [← hp_.e]; exact (VeX.setP (c := gt) rfl (VeX.setP (c := gt) rfl (VeX.setP (c := gt) rfl VX.out)))⟩
            replace BKgb := pf3_ NEgb_gt BKgb hp_
            replace BKgx := pf3_ NEgx_gt BKgx hp_
            replace BKgy := pf3_ NEgy_gt BKgy hp_
            replace BKgt := pp3_ BKgt hp_
            replace HB := pb3_ GEgt HB hp_
            replace HV := pb3_ GVgt HV hp_
            clear hp_
            generalize ws_ = w12 at VX BKgb BKgx BKgy BKgt HB HV ⊢
            clear ws_
            clear hK K
            refine dM_ HT_ ?_
            try go_wp2
            replace BKgb := kd_ BKgb
            replace BKgx := kd_ BKgx
            replace BKgy := kd_ BKgy
            replace BKgt := kd_ BKgt
            replace VX := Aside0.mk (VeX.drew VX.out)
            replace HB := bd_ HB
            replace HV := bd_ HV
            refine sM_ [] (fun w' => (w'.cell? ⟨gy, 0, none⟩ = some (.pointer (some ⟨h1, 0, none⟩)) ∧ w'.cell? ⟨gy, 1, none⟩ = some (.pointer (some ⟨h2, 0, none⟩)) ∧ w'.cell? ⟨gy, 2, none⟩ = some (.pointer (some ⟨h3, 0, none⟩))) ∧ (w'.cell? ⟨gt, 0, none⟩ = some (.int .i64 (runF (hsO l0) (vsO l0) (dsO l0) a2 a3).w) ∧ w'.cell? ⟨gt, 1, none⟩ = some (.int .i64 (runF (hsO l0) (vsO l0) (dsO l0) a2 a3).n) ∧ w'.cell? ⟨gt, 2, none⟩ = some (.int .i64 (runF (hsO l0) (vsO l0) (dsO l0) a2 a3).d))) vessel_Cascade.tab8 vessel_Cascade.bits8 ⟨c3_ BKgy, c3_ BKgt⟩ (fun hHeld HT_ HW_ => ?_)
            generalize w12.drew = w14 at BKgb BKgx BKgy BKgt VX HB HV hHeld ⊢
            refine pM_ HT_ 1 41 2 ?_
            refine tM_ HT_ HW_ hHeld 0 40 3 ?_
            refine tM_ HT_ HW_ hHeld 2 42 7 ?_
            refine oM_ HT_ 3 (some 43) 15 (fun K hK => ?_)
            refine gM_ Tryz.func52 (C3.out _ _ _ _ VX.out.at_) ?_
            rintro e w15 ⟨rfl, hb⟩
            refine ⟨.int .i64 (sm (vsO l1)), rfl, ?_⟩
            replace hb := nb_ HB hb
            replace BKgb := kb_ BKgb hb
            replace BKgx := kb_ BKgx hb
            replace BKgy := kb_ BKgy hb
            replace BKgt := kb_ BKgt hb
            replace VX := Aside0.mk (VeX.below VX.out hb)
            replace HB := bs_ HB hb
            replace HV := bs_ HV hb
            (try clear hb)
            refine hK.out _ _ ⟨c3_ BKgy, c3_ BKgt⟩ (fun hHeld => ?_)
            clear hK K
            refine nM_ ?_
            refine oM_ HT_ 4 (some 44) 31 (fun K hK => ?_)
            refine gM_ Tryz.func45 (C4.out _) ?_
            rintro e w16 ⟨rfl, hb⟩
            refine ⟨.bool true, rfl, ?_⟩
            replace hb := nb_ HB hb
            replace BKgb := kb_ BKgb hb
            replace BKgx := kb_ BKgx hb
            replace BKgy := kb_ BKgy hb
            replace BKgt := kb_ BKgt hb
            replace VX := Aside0.mk (VeX.below VX.out hb)
            replace HB := bs_ HB hb
            replace HV := bs_ HV hb
            (try clear hb)
            refine hK.out _ _ ⟨c3_ BKgy, c3_ BKgt⟩ (fun hHeld => ?_)
            clear hK K
            refine nM_ ?_
            refine dM_ HT_ ?_
            clear VX
            go_wp2_with (first | ((with_reducible refine gate_store (t := 37) (p := 8) rfl ?_); have hc_ := cf2_ BKgb; refine st2_ ?_; intro w17 hp_; clear hc_; replace BKgb := pp2_ BKgb hp_; replace BKgx := pf2r_ NEgb_gx BKgx hp_; replace BKgy := pf2r_ NEgb_gy BKgy hp_; replace BKgt := pf2r_ NEgb_gt BKgt hp_; replace HB := pb2_ GEgb HB hp_; clear HV; clear hp_))
            try go_wp2
            refine bodyPost_ret (results_ct rfl _ _ gb 37 #[.int .i64 0, .int .i64 0] (0, 0) _ rfl BKgb.out Tryz.underlying37 rfl (by kernel_rfl)) rfl ?_
            exact ⟨rfl, HB.out⟩
          · intro hcont
            refine thM_ HT_ 1 (some 35) 31 6 (some 13) 93 7 (some 14) 157 (fun K hK => ?_) (fun K hK => ?_) (fun K hK => ?_)
            · refine gM_ Tryz.func36 (vessel_open.calls A1 c1 l1 _ (Kd.C_below HR1.out HB.out) HN1.out) ?_
              rintro e w7 ⟨h1, h2, h3, rfl, s_, hb⟩
              refine ⟨.agg #[.pointer (some ⟨h1, 0, none⟩), .pointer (some ⟨h2, 0, none⟩), .pointer (some ⟨h3, 0, none⟩)], rfl, ?_⟩
              replace hb := nb_ HB hb
              replace BKgb := kb_ BKgb hb
              replace BKgx := kb_ BKgx hb
              replace HB := bs_ HB hb
              replace HV := bs_ HV hb
              (try clear hb)
              have VX := Aside0.mk s_
              clear s_
              refine hK.out _ _ (c3_ BKgx) (fun hHeld => ?_)
              clear hK K
              refine nM_ ?_
              refine thM_ HT_ 5 (some 39) 63 6 (some 13) 95 7 (some 14) 159 (fun K hK => ?_) (fun K hK => ?_) (fun K hK => ?_)
              · refine gM_ Tryz.func48 (C1.out _ _ _ _ (VE.out.below HV.out)) ?_
                rintro e w8 ⟨rfl, hb⟩
                refine ⟨.agg #[.int .i64 (runF (hsO l0) (vsO l0) (dsO l0) a2 a3).w, .int .i64 (runF (hsO l0) (vsO l0) (dsO l0) a2 a3).n, .int .i64 (runF (hsO l0) (vsO l0) (dsO l0) a2 a3).d], rfl, ?_⟩
                replace hb := nb_ HB hb
                replace BKgb := kb_ BKgb hb
                replace BKgx := kb_ BKgx hb
                replace VX := Aside0.mk (VeX.below VX.out hb)
                replace HB := bs_ HB hb
                replace HV := bs_ HV hb
                (try clear hb)
                refine hK.out _ _ (c3_ BKgx) (fun hHeld => ?_)
                clear hK K
                refine nM_ ?_
                refine twM_ HT_ 6 (some 13) 127 7 (some 14) 191 (fun K hK => ?_) (fun K hK => ?_)
                · refine bs2_ 13 #[.pointer none, .pointer none, .pointer none] 73 ?_
                  intro gy hg w10 hbox hb
                  have GEgy := ge_ hg HB
                  have GVgy := ge_ hg HV
                  have NEgb_gy := ne_ hg BKgb
                  have NEgx_gy := ne_ hg BKgx
                  replace hb := nb_ HB hb
                  replace BKgb := kb_ BKgb hb
                  replace BKgx := kb_ BKgx hb
                  replace VX := Aside0.mk (VeX.below VX.out hb)
                  replace HB := bs_ HB hb
                  replace HV := bs_ HV hb
                  have BKgy := Aside0.mk hbox
                  clear hb hbox hg
                  refine hK.out _ _ (c3_ BKgx) (fun hHeld => ?_)
                  clear hK K
                  refine nM_ ?_
                  refine oM_ HT_ 7 (some 14) 255 (fun K hK => ?_)
                  refine bs2_ 14 #[.int .i64 0, .int .i64 0, .int .i64 0] 77 ?_
                  intro gt hg w9 hbox hb
                  have VL_ := (VeX.later VX.out hb).mono (P' := fun k => k = gt) (fun k_ hk_ => .inr (by rw [hk_, hg]; exact Nat.le_refl _))
                  have GEgt := ge_ hg HB
                  have GVgt := ge_ hg HV
                  have NEgb_gt := ne_ hg BKgb
                  have NEgx_gt := ne_ hg BKgx
                  have NEgy_gt := ne_ hg BKgy
                  replace hb := nb_ HB hb
                  replace BKgb := kb_ BKgb hb
                  replace BKgx := kb_ BKgx hb
                  replace BKgy := kb_ BKgy hb
                  replace VX := Aside0.mk (VeX.below VX.out hb)
                  replace HB := bs_ HB hb
                  replace HV := bs_ HV hb
                  have BKgt := Aside0.mk hbox
                  clear hb hbox hg
                  clear VX
                  have VX := Aside0.mk VL_
                  clear VL_
                  refine hK.out _ _ (c3_ BKgx) (fun hHeld => ?_)
                  clear hK K
                  refine nM_ ?_
                  exact norm_ rfl (hcont (h1, h2, h3, gy, gt) _ ⟨HB.out, HV.out, BKgb.out, BKgx.out, BKgy.out, BKgt.out, GEgy.out, GEgt.out, GVgy.out, GVgt.out, NEgy_gt.out, NEgb_gy.out, NEgb_gt.out, NEgx_gy.out, NEgx_gt.out, VX.out⟩)
                · refine bs2_ 14 #[.int .i64 0, .int .i64 0, .int .i64 0] 77 ?_
                  intro gt hg w9 hbox hb
                  have VL_ := (VeX.later VX.out hb).mono (P' := fun k => k = gt) (fun k_ hk_ => .inr (by rw [hk_, hg]; exact Nat.le_refl _))
                  have GEgt := ge_ hg HB
                  have GVgt := ge_ hg HV
                  have NEgb_gt := ne_ hg BKgb
                  have NEgx_gt := ne_ hg BKgx
                  replace hb := nb_ HB hb
                  replace BKgb := kb_ BKgb hb
                  replace BKgx := kb_ BKgx hb
                  replace VX := Aside0.mk (VeX.below VX.out hb)
                  replace HB := bs_ HB hb
                  replace HV := bs_ HV hb
                  have BKgt := Aside0.mk hbox
                  clear hb hbox hg
                  clear VX
                  have VX := Aside0.mk VL_
                  clear VL_
                  refine hK.out _ _ (c3_ BKgx) (fun hHeld => ?_)
                  clear hK K
                  refine nM_ ?_
                  refine oM_ HT_ 6 (some 13) 255 (fun K hK => ?_)
                  refine bs2_ 13 #[.pointer none, .pointer none, .pointer none] 73 ?_
                  intro gy hg w10 hbox hb
                  have GEgy := ge_ hg HB
                  have GVgy := ge_ hg HV
                  have NEgb_gy := ne_ hg BKgb
                  have NEgx_gy := ne_ hg BKgx
                  have NEgt_gy := ne_ hg BKgt
                  replace hb := nb_ HB hb
                  replace BKgb := kb_ BKgb hb
                  replace BKgx := kb_ BKgx hb
                  replace BKgt := kb_ BKgt hb
                  replace VX := Aside0.mk (VeX.below VX.out hb)
                  replace HB := bs_ HB hb
                  replace HV := bs_ HV hb
                  have BKgy := Aside0.mk hbox
                  clear hb hbox hg
                  refine hK.out _ _ (c3_ BKgx) (fun hHeld => ?_)
                  clear hK K
                  refine nM_ ?_
                  exact norm_ rfl (hcont (h1, h2, h3, gy, gt) _ ⟨HB.out, HV.out, BKgb.out, BKgx.out, BKgy.out, BKgt.out, GEgy.out, GEgt.out, GVgy.out, GVgt.out, (Ne.symm NEgt_gy.out), NEgb_gy.out, NEgb_gt.out, NEgx_gy.out, NEgx_gt.out, VX.out⟩)
              · refine bs2_ 13 #[.pointer none, .pointer none, .pointer none] 73 ?_
                intro gy hg w10 hbox hb
                have GEgy := ge_ hg HB
                have GVgy := ge_ hg HV
                have NEgb_gy := ne_ hg BKgb
                have NEgx_gy := ne_ hg BKgx
                replace hb := nb_ HB hb
                replace BKgb := kb_ BKgb hb
                replace BKgx := kb_ BKgx hb
                replace VX := Aside0.mk (VeX.below VX.out hb)
                replace HB := bs_ HB hb
                replace HV := bs_ HV hb
                have BKgy := Aside0.mk hbox
                clear hb hbox hg
                refine hK.out _ _ (c3_ BKgx) (fun hHeld => ?_)
                clear hK K
                refine nM_ ?_
                refine twM_ HT_ 5 (some 39) 127 7 (some 14) 223 (fun K hK => ?_) (fun K hK => ?_)
                · refine gM_ Tryz.func48 (C1.out _ _ _ _ (VE.out.below HV.out)) ?_
                  rintro e w8 ⟨rfl, hb⟩
                  refine ⟨.agg #[.int .i64 (runF (hsO l0) (vsO l0) (dsO l0) a2 a3).w, .int .i64 (runF (hsO l0) (vsO l0) (dsO l0) a2 a3).n, .int .i64 (runF (hsO l0) (vsO l0) (dsO l0) a2 a3).d], rfl, ?_⟩
                  replace hb := nb_ HB hb
                  replace BKgb := kb_ BKgb hb
                  replace BKgx := kb_ BKgx hb
                  replace BKgy := kb_ BKgy hb
                  replace VX := Aside0.mk (VeX.below VX.out hb)
                  replace HB := bs_ HB hb
                  replace HV := bs_ HV hb
                  (try clear hb)
                  refine hK.out _ _ (c3_ BKgx) (fun hHeld => ?_)
                  clear hK K
                  refine nM_ ?_
                  refine oM_ HT_ 7 (some 14) 255 (fun K hK => ?_)
                  refine bs2_ 14 #[.int .i64 0, .int .i64 0, .int .i64 0] 77 ?_
                  intro gt hg w9 hbox hb
                  have VL_ := (VeX.later VX.out hb).mono (P' := fun k => k = gt) (fun k_ hk_ => .inr (by rw [hk_, hg]; exact Nat.le_refl _))
                  have GEgt := ge_ hg HB
                  have GVgt := ge_ hg HV
                  have NEgb_gt := ne_ hg BKgb
                  have NEgx_gt := ne_ hg BKgx
                  have NEgy_gt := ne_ hg BKgy
                  replace hb := nb_ HB hb
                  replace BKgb := kb_ BKgb hb
                  replace BKgx := kb_ BKgx hb
                  replace BKgy := kb_ BKgy hb
                  replace VX := Aside0.mk (VeX.below VX.out hb)
                  replace HB := bs_ HB hb
                  replace HV := bs_ HV hb
                  have BKgt := Aside0.mk hbox
                  clear hb hbox hg
                  clear VX
                  have VX := Aside0.mk VL_
                  clear VL_
                  refine hK.out _ _ (c3_ BKgx) (fun hHeld => ?_)
                  clear hK K
                  refine nM_ ?_
                  exact norm_ rfl (hcont (h1, h2, h3, gy, gt) _ ⟨HB.out, HV.out, BKgb.out, BKgx.out, BKgy.out, BKgt.out, GEgy.out, GEgt.out, GVgy.out, GVgt.out, NEgy_gt.out, NEgb_gy.out, NEgb_gt.out, NEgx_gy.out, NEgx_gt.out, VX.out⟩)
                · refine bs2_ 14 #[.int .i64 0, .int .i64 0, .int .i64 0] 77 ?_
                  intro gt hg w9 hbox hb
                  have VL_ := (VeX.later VX.out hb).mono (P' := fun k => k = gt) (fun k_ hk_ => .inr (by rw [hk_, hg]; exact Nat.le_refl _))
                  have GEgt := ge_ hg HB
                  have GVgt := ge_ hg HV
                  have NEgb_gt := ne_ hg BKgb
                  have NEgx_gt := ne_ hg BKgx
                  have NEgy_gt := ne_ hg BKgy
                  replace hb := nb_ HB hb
                  replace BKgb := kb_ BKgb hb
                  replace BKgx := kb_ BKgx hb
                  replace BKgy := kb_ BKgy hb
                  replace VX := Aside0.mk (VeX.below VX.out hb)
                  replace HB := bs_ HB hb
                  replace HV := bs_ HV hb
                  have BKgt := Aside0.mk hbox
                  clear hb hbox hg
                  clear VX
                  have VX := Aside0.mk VL_
                  clear VL_
                  refine hK.out _ _ (c3_ BKgx) (fun hHeld => ?_)
                  clear hK K
                  refine nM_ ?_
                  refine oM_ HT_ 5 (some 39) 255 (fun K hK => ?_)
                  refine gM_ Tryz.func48 (C1.out _ _ _ _ (VE.out.below HV.out)) ?_
                  rintro e w8 ⟨rfl, hb⟩
                  refine ⟨.agg #[.int .i64 (runF (hsO l0) (vsO l0) (dsO l0) a2 a3).w, .int .i64 (runF (hsO l0) (vsO l0) (dsO l0) a2 a3).n, .int .i64 (runF (hsO l0) (vsO l0) (dsO l0) a2 a3).d], rfl, ?_⟩
                  replace hb := nb_ HB hb
                  replace BKgb := kb_ BKgb hb
                  replace BKgx := kb_ BKgx hb
                  replace BKgy := kb_ BKgy hb
                  replace BKgt := kb_ BKgt hb
                  replace VX := Aside0.mk (VeX.below VX.out hb)
                  replace HB := bs_ HB hb
                  replace HV := bs_ HV hb
                  (try clear hb)
                  refine hK.out _ _ (c3_ BKgx) (fun hHeld => ?_)
                  clear hK K
                  refine nM_ ?_
                  exact norm_ rfl (hcont (h1, h2, h3, gy, gt) _ ⟨HB.out, HV.out, BKgb.out, BKgx.out, BKgy.out, BKgt.out, GEgy.out, GEgt.out, GVgy.out, GVgt.out, NEgy_gt.out, NEgb_gy.out, NEgb_gt.out, NEgx_gy.out, NEgx_gt.out, VX.out⟩)
              · refine bs2_ 14 #[.int .i64 0, .int .i64 0, .int .i64 0] 77 ?_
                intro gt hg w9 hbox hb
                have VL_ := (VeX.later VX.out hb).mono (P' := fun k => k = gt) (fun k_ hk_ => .inr (by rw [hk_, hg]; exact Nat.le_refl _))
                have GEgt := ge_ hg HB
                have GVgt := ge_ hg HV
                have NEgb_gt := ne_ hg BKgb
                have NEgx_gt := ne_ hg BKgx
                replace hb := nb_ HB hb
                replace BKgb := kb_ BKgb hb
                replace BKgx := kb_ BKgx hb
                replace VX := Aside0.mk (VeX.below VX.out hb)
                replace HB := bs_ HB hb
                replace HV := bs_ HV hb
                have BKgt := Aside0.mk hbox
                clear hb hbox hg
                clear VX
                have VX := Aside0.mk VL_
                clear VL_
                refine hK.out _ _ (c3_ BKgx) (fun hHeld => ?_)
                clear hK K
                refine nM_ ?_
                refine twM_ HT_ 5 (some 39) 191 6 (some 13) 223 (fun K hK => ?_) (fun K hK => ?_)
                · refine gM_ Tryz.func48 (C1.out _ _ _ _ (VE.out.below HV.out)) ?_
                  rintro e w8 ⟨rfl, hb⟩
                  refine ⟨.agg #[.int .i64 (runF (hsO l0) (vsO l0) (dsO l0) a2 a3).w, .int .i64 (runF (hsO l0) (vsO l0) (dsO l0) a2 a3).n, .int .i64 (runF (hsO l0) (vsO l0) (dsO l0) a2 a3).d], rfl, ?_⟩
                  replace hb := nb_ HB hb
                  replace BKgb := kb_ BKgb hb
                  replace BKgx := kb_ BKgx hb
                  replace BKgt := kb_ BKgt hb
                  replace VX := Aside0.mk (VeX.below VX.out hb)
                  replace HB := bs_ HB hb
                  replace HV := bs_ HV hb
                  (try clear hb)
                  refine hK.out _ _ (c3_ BKgx) (fun hHeld => ?_)
                  clear hK K
                  refine nM_ ?_
                  refine oM_ HT_ 6 (some 13) 255 (fun K hK => ?_)
                  refine bs2_ 13 #[.pointer none, .pointer none, .pointer none] 73 ?_
                  intro gy hg w10 hbox hb
                  have GEgy := ge_ hg HB
                  have GVgy := ge_ hg HV
                  have NEgb_gy := ne_ hg BKgb
                  have NEgx_gy := ne_ hg BKgx
                  have NEgt_gy := ne_ hg BKgt
                  replace hb := nb_ HB hb
                  replace BKgb := kb_ BKgb hb
                  replace BKgx := kb_ BKgx hb
                  replace BKgt := kb_ BKgt hb
                  replace VX := Aside0.mk (VeX.below VX.out hb)
                  replace HB := bs_ HB hb
                  replace HV := bs_ HV hb
                  have BKgy := Aside0.mk hbox
                  clear hb hbox hg
                  refine hK.out _ _ (c3_ BKgx) (fun hHeld => ?_)
                  clear hK K
                  refine nM_ ?_
                  exact norm_ rfl (hcont (h1, h2, h3, gy, gt) _ ⟨HB.out, HV.out, BKgb.out, BKgx.out, BKgy.out, BKgt.out, GEgy.out, GEgt.out, GVgy.out, GVgt.out, (Ne.symm NEgt_gy.out), NEgb_gy.out, NEgb_gt.out, NEgx_gy.out, NEgx_gt.out, VX.out⟩)
                · refine bs2_ 13 #[.pointer none, .pointer none, .pointer none] 73 ?_
                  intro gy hg w10 hbox hb
                  have GEgy := ge_ hg HB
                  have GVgy := ge_ hg HV
                  have NEgb_gy := ne_ hg BKgb
                  have NEgx_gy := ne_ hg BKgx
                  have NEgt_gy := ne_ hg BKgt
                  replace hb := nb_ HB hb
                  replace BKgb := kb_ BKgb hb
                  replace BKgx := kb_ BKgx hb
                  replace BKgt := kb_ BKgt hb
                  replace VX := Aside0.mk (VeX.below VX.out hb)
                  replace HB := bs_ HB hb
                  replace HV := bs_ HV hb
                  have BKgy := Aside0.mk hbox
                  clear hb hbox hg
                  refine hK.out _ _ (c3_ BKgx) (fun hHeld => ?_)
                  clear hK K
                  refine nM_ ?_
                  refine oM_ HT_ 5 (some 39) 255 (fun K hK => ?_)
                  refine gM_ Tryz.func48 (C1.out _ _ _ _ (VE.out.below HV.out)) ?_
                  rintro e w8 ⟨rfl, hb⟩
                  refine ⟨.agg #[.int .i64 (runF (hsO l0) (vsO l0) (dsO l0) a2 a3).w, .int .i64 (runF (hsO l0) (vsO l0) (dsO l0) a2 a3).n, .int .i64 (runF (hsO l0) (vsO l0) (dsO l0) a2 a3).d], rfl, ?_⟩
                  replace hb := nb_ HB hb
                  replace BKgb := kb_ BKgb hb
                  replace BKgx := kb_ BKgx hb
                  replace BKgt := kb_ BKgt hb
                  replace BKgy := kb_ BKgy hb
                  replace VX := Aside0.mk (VeX.below VX.out hb)
                  replace HB := bs_ HB hb
                  replace HV := bs_ HV hb
                  (try clear hb)
                  refine hK.out _ _ (c3_ BKgx) (fun hHeld => ?_)
                  clear hK K
                  refine nM_ ?_
                  exact norm_ rfl (hcont (h1, h2, h3, gy, gt) _ ⟨HB.out, HV.out, BKgb.out, BKgx.out, BKgy.out, BKgt.out, GEgy.out, GEgt.out, GVgy.out, GVgt.out, (Ne.symm NEgt_gy.out), NEgb_gy.out, NEgb_gt.out, NEgx_gy.out, NEgx_gt.out, VX.out⟩)
            · refine bs2_ 13 #[.pointer none, .pointer none, .pointer none] 73 ?_
              intro gy hg w10 hbox hb
              have GEgy := ge_ hg HB
              have GVgy := ge_ hg HV
              have NEgb_gy := ne_ hg BKgb
              have NEgx_gy := ne_ hg BKgx
              replace hb := nb_ HB hb
              replace BKgb := kb_ BKgb hb
              replace BKgx := kb_ BKgx hb
              replace HB := bs_ HB hb
              replace HV := bs_ HV hb
              have BKgy := Aside0.mk hbox
              clear hb hbox hg
              refine hK.out _ _ (c3_ BKgx) (fun hHeld => ?_)
              clear hK K
              refine nM_ ?_
              refine twM_ HT_ 1 (some 35) 95 7 (some 14) 221 (fun K hK => ?_) (fun K hK => ?_)
              · refine gM_ Tryz.func36 (vessel_open.calls A1 c1 l1 _ (Kd.C_below HR1.out HB.out) HN1.out) ?_
                rintro e w7 ⟨h1, h2, h3, rfl, s_, hb⟩
                refine ⟨.agg #[.pointer (some ⟨h1, 0, none⟩), .pointer (some ⟨h2, 0, none⟩), .pointer (some ⟨h3, 0, none⟩)], rfl, ?_⟩
                replace hb := nb_ HB hb
                replace BKgb := kb_ BKgb hb
                replace BKgx := kb_ BKgx hb
                replace BKgy := kb_ BKgy hb
                replace HB := bs_ HB hb
                replace HV := bs_ HV hb
                (try clear hb)
                have VX := Aside0.mk s_
                clear s_
                refine hK.out _ _ (c3_ BKgx) (fun hHeld => ?_)
                clear hK K
                refine nM_ ?_
                refine twM_ HT_ 5 (some 39) 127 7 (some 14) 223 (fun K hK => ?_) (fun K hK => ?_)
                · refine gM_ Tryz.func48 (C1.out _ _ _ _ (VE.out.below HV.out)) ?_
                  rintro e w8 ⟨rfl, hb⟩
                  refine ⟨.agg #[.int .i64 (runF (hsO l0) (vsO l0) (dsO l0) a2 a3).w, .int .i64 (runF (hsO l0) (vsO l0) (dsO l0) a2 a3).n, .int .i64 (runF (hsO l0) (vsO l0) (dsO l0) a2 a3).d], rfl, ?_⟩
                  replace hb := nb_ HB hb
                  replace BKgb := kb_ BKgb hb
                  replace BKgx := kb_ BKgx hb
                  replace BKgy := kb_ BKgy hb
                  replace VX := Aside0.mk (VeX.below VX.out hb)
                  replace HB := bs_ HB hb
                  replace HV := bs_ HV hb
                  (try clear hb)
                  refine hK.out _ _ (c3_ BKgx) (fun hHeld => ?_)
                  clear hK K
                  refine nM_ ?_
                  refine oM_ HT_ 7 (some 14) 255 (fun K hK => ?_)
                  refine bs2_ 14 #[.int .i64 0, .int .i64 0, .int .i64 0] 77 ?_
                  intro gt hg w9 hbox hb
                  have VL_ := (VeX.later VX.out hb).mono (P' := fun k => k = gt) (fun k_ hk_ => .inr (by rw [hk_, hg]; exact Nat.le_refl _))
                  have GEgt := ge_ hg HB
                  have GVgt := ge_ hg HV
                  have NEgb_gt := ne_ hg BKgb
                  have NEgx_gt := ne_ hg BKgx
                  have NEgy_gt := ne_ hg BKgy
                  replace hb := nb_ HB hb
                  replace BKgb := kb_ BKgb hb
                  replace BKgx := kb_ BKgx hb
                  replace BKgy := kb_ BKgy hb
                  replace VX := Aside0.mk (VeX.below VX.out hb)
                  replace HB := bs_ HB hb
                  replace HV := bs_ HV hb
                  have BKgt := Aside0.mk hbox
                  clear hb hbox hg
                  clear VX
                  have VX := Aside0.mk VL_
                  clear VL_
                  refine hK.out _ _ (c3_ BKgx) (fun hHeld => ?_)
                  clear hK K
                  refine nM_ ?_
                  exact norm_ rfl (hcont (h1, h2, h3, gy, gt) _ ⟨HB.out, HV.out, BKgb.out, BKgx.out, BKgy.out, BKgt.out, GEgy.out, GEgt.out, GVgy.out, GVgt.out, NEgy_gt.out, NEgb_gy.out, NEgb_gt.out, NEgx_gy.out, NEgx_gt.out, VX.out⟩)
                · refine bs2_ 14 #[.int .i64 0, .int .i64 0, .int .i64 0] 77 ?_
                  intro gt hg w9 hbox hb
                  have VL_ := (VeX.later VX.out hb).mono (P' := fun k => k = gt) (fun k_ hk_ => .inr (by rw [hk_, hg]; exact Nat.le_refl _))
                  have GEgt := ge_ hg HB
                  have GVgt := ge_ hg HV
                  have NEgb_gt := ne_ hg BKgb
                  have NEgx_gt := ne_ hg BKgx
                  have NEgy_gt := ne_ hg BKgy
                  replace hb := nb_ HB hb
                  replace BKgb := kb_ BKgb hb
                  replace BKgx := kb_ BKgx hb
                  replace BKgy := kb_ BKgy hb
                  replace VX := Aside0.mk (VeX.below VX.out hb)
                  replace HB := bs_ HB hb
                  replace HV := bs_ HV hb
                  have BKgt := Aside0.mk hbox
                  clear hb hbox hg
                  clear VX
                  have VX := Aside0.mk VL_
                  clear VL_
                  refine hK.out _ _ (c3_ BKgx) (fun hHeld => ?_)
                  clear hK K
                  refine nM_ ?_
                  refine oM_ HT_ 5 (some 39) 255 (fun K hK => ?_)
                  refine gM_ Tryz.func48 (C1.out _ _ _ _ (VE.out.below HV.out)) ?_
                  rintro e w8 ⟨rfl, hb⟩
                  refine ⟨.agg #[.int .i64 (runF (hsO l0) (vsO l0) (dsO l0) a2 a3).w, .int .i64 (runF (hsO l0) (vsO l0) (dsO l0) a2 a3).n, .int .i64 (runF (hsO l0) (vsO l0) (dsO l0) a2 a3).d], rfl, ?_⟩
                  replace hb := nb_ HB hb
                  replace BKgb := kb_ BKgb hb
                  replace BKgx := kb_ BKgx hb
                  replace BKgy := kb_ BKgy hb
                  replace BKgt := kb_ BKgt hb
                  replace VX := Aside0.mk (VeX.below VX.out hb)
                  replace HB := bs_ HB hb
                  replace HV := bs_ HV hb
                  (try clear hb)
                  refine hK.out _ _ (c3_ BKgx) (fun hHeld => ?_)
                  clear hK K
                  refine nM_ ?_
                  exact norm_ rfl (hcont (h1, h2, h3, gy, gt) _ ⟨HB.out, HV.out, BKgb.out, BKgx.out, BKgy.out, BKgt.out, GEgy.out, GEgt.out, GVgy.out, GVgt.out, NEgy_gt.out, NEgb_gy.out, NEgb_gt.out, NEgx_gy.out, NEgx_gt.out, VX.out⟩)
              · refine bs2_ 14 #[.int .i64 0, .int .i64 0, .int .i64 0] 77 ?_
                intro gt hg w9 hbox hb
                have GEgt := ge_ hg HB
                have GVgt := ge_ hg HV
                have NEgb_gt := ne_ hg BKgb
                have NEgx_gt := ne_ hg BKgx
                have NEgy_gt := ne_ hg BKgy
                replace hb := nb_ HB hb
                replace BKgb := kb_ BKgb hb
                replace BKgx := kb_ BKgx hb
                replace BKgy := kb_ BKgy hb
                replace HB := bs_ HB hb
                replace HV := bs_ HV hb
                have BKgt := Aside0.mk hbox
                clear hb hbox hg
                refine hK.out _ _ (c3_ BKgx) (fun hHeld => ?_)
                clear hK K
                refine nM_ ?_
                refine oM_ HT_ 1 (some 35) 223 (fun K hK => ?_)
                have LT_ := blk_lt BKgt.out
                refine gM_ Tryz.func36 (vessel_open.calls A1 c1 l1 _ (Kd.C_below HR1.out HB.out) HN1.out) ?_
                rintro e w7 ⟨h1, h2, h3, rfl, s_, hb⟩
                refine ⟨.agg #[.pointer (some ⟨h1, 0, none⟩), .pointer (some ⟨h2, 0, none⟩), .pointer (some ⟨h3, 0, none⟩)], rfl, ?_⟩
                replace hb := nb_ HB hb
                replace BKgb := kb_ BKgb hb
                replace BKgx := kb_ BKgx hb
                replace BKgy := kb_ BKgy hb
                replace BKgt := kb_ BKgt hb
                replace HB := bs_ HB hb
                replace HV := bs_ HV hb
                (try clear hb)
                have VX := Aside0.mk (VeX.mono (P' := fun k => k = gt) s_ (fun k_ hk_ => by rw [hk_]; exact LT_))
                clear LT_
                clear s_
                refine hK.out _ _ (c3_ BKgx) (fun hHeld => ?_)
                clear hK K
                refine nM_ ?_
                refine oM_ HT_ 5 (some 39) 255 (fun K hK => ?_)
                refine gM_ Tryz.func48 (C1.out _ _ _ _ (VE.out.below HV.out)) ?_
                rintro e w8 ⟨rfl, hb⟩
                refine ⟨.agg #[.int .i64 (runF (hsO l0) (vsO l0) (dsO l0) a2 a3).w, .int .i64 (runF (hsO l0) (vsO l0) (dsO l0) a2 a3).n, .int .i64 (runF (hsO l0) (vsO l0) (dsO l0) a2 a3).d], rfl, ?_⟩
                replace hb := nb_ HB hb
                replace BKgb := kb_ BKgb hb
                replace BKgx := kb_ BKgx hb
                replace BKgy := kb_ BKgy hb
                replace BKgt := kb_ BKgt hb
                replace VX := Aside0.mk (VeX.below VX.out hb)
                replace HB := bs_ HB hb
                replace HV := bs_ HV hb
                (try clear hb)
                refine hK.out _ _ (c3_ BKgx) (fun hHeld => ?_)
                clear hK K
                refine nM_ ?_
                exact norm_ rfl (hcont (h1, h2, h3, gy, gt) _ ⟨HB.out, HV.out, BKgb.out, BKgx.out, BKgy.out, BKgt.out, GEgy.out, GEgt.out, GVgy.out, GVgt.out, NEgy_gt.out, NEgb_gy.out, NEgb_gt.out, NEgx_gy.out, NEgx_gt.out, VX.out⟩)
            · refine bs2_ 14 #[.int .i64 0, .int .i64 0, .int .i64 0] 77 ?_
              intro gt hg w9 hbox hb
              have GEgt := ge_ hg HB
              have GVgt := ge_ hg HV
              have NEgb_gt := ne_ hg BKgb
              have NEgx_gt := ne_ hg BKgx
              replace hb := nb_ HB hb
              replace BKgb := kb_ BKgb hb
              replace BKgx := kb_ BKgx hb
              replace HB := bs_ HB hb
              replace HV := bs_ HV hb
              have BKgt := Aside0.mk hbox
              clear hb hbox hg
              refine hK.out _ _ (c3_ BKgx) (fun hHeld => ?_)
              clear hK K
              refine nM_ ?_
              refine twM_ HT_ 1 (some 35) 159 6 (some 13) 221 (fun K hK => ?_) (fun K hK => ?_)
              · have LT_ := blk_lt BKgt.out
                refine gM_ Tryz.func36 (vessel_open.calls A1 c1 l1 _ (Kd.C_below HR1.out HB.out) HN1.out) ?_
                rintro e w7 ⟨h1, h2, h3, rfl, s_, hb⟩
                refine ⟨.agg #[.pointer (some ⟨h1, 0, none⟩), .pointer (some ⟨h2, 0, none⟩), .pointer (some ⟨h3, 0, none⟩)], rfl, ?_⟩
                replace hb := nb_ HB hb
                replace BKgb := kb_ BKgb hb
                replace BKgx := kb_ BKgx hb
                replace BKgt := kb_ BKgt hb
                replace HB := bs_ HB hb
                replace HV := bs_ HV hb
                (try clear hb)
                have VX := Aside0.mk (VeX.mono (P' := fun k => k = gt) s_ (fun k_ hk_ => by rw [hk_]; exact LT_))
                clear LT_
                clear s_
                refine hK.out _ _ (c3_ BKgx) (fun hHeld => ?_)
                clear hK K
                refine nM_ ?_
                refine twM_ HT_ 5 (some 39) 191 6 (some 13) 223 (fun K hK => ?_) (fun K hK => ?_)
                · refine gM_ Tryz.func48 (C1.out _ _ _ _ (VE.out.below HV.out)) ?_
                  rintro e w8 ⟨rfl, hb⟩
                  refine ⟨.agg #[.int .i64 (runF (hsO l0) (vsO l0) (dsO l0) a2 a3).w, .int .i64 (runF (hsO l0) (vsO l0) (dsO l0) a2 a3).n, .int .i64 (runF (hsO l0) (vsO l0) (dsO l0) a2 a3).d], rfl, ?_⟩
                  replace hb := nb_ HB hb
                  replace BKgb := kb_ BKgb hb
                  replace BKgx := kb_ BKgx hb
                  replace BKgt := kb_ BKgt hb
                  replace VX := Aside0.mk (VeX.below VX.out hb)
                  replace HB := bs_ HB hb
                  replace HV := bs_ HV hb
                  (try clear hb)
                  refine hK.out _ _ (c3_ BKgx) (fun hHeld => ?_)
                  clear hK K
                  refine nM_ ?_
                  refine oM_ HT_ 6 (some 13) 255 (fun K hK => ?_)
                  refine bs2_ 13 #[.pointer none, .pointer none, .pointer none] 73 ?_
                  intro gy hg w10 hbox hb
                  have GEgy := ge_ hg HB
                  have GVgy := ge_ hg HV
                  have NEgb_gy := ne_ hg BKgb
                  have NEgx_gy := ne_ hg BKgx
                  have NEgt_gy := ne_ hg BKgt
                  replace hb := nb_ HB hb
                  replace BKgb := kb_ BKgb hb
                  replace BKgx := kb_ BKgx hb
                  replace BKgt := kb_ BKgt hb
                  replace VX := Aside0.mk (VeX.below VX.out hb)
                  replace HB := bs_ HB hb
                  replace HV := bs_ HV hb
                  have BKgy := Aside0.mk hbox
                  clear hb hbox hg
                  refine hK.out _ _ (c3_ BKgx) (fun hHeld => ?_)
                  clear hK K
                  refine nM_ ?_
                  exact norm_ rfl (hcont (h1, h2, h3, gy, gt) _ ⟨HB.out, HV.out, BKgb.out, BKgx.out, BKgy.out, BKgt.out, GEgy.out, GEgt.out, GVgy.out, GVgt.out, (Ne.symm NEgt_gy.out), NEgb_gy.out, NEgb_gt.out, NEgx_gy.out, NEgx_gt.out, VX.out⟩)
                · refine bs2_ 13 #[.pointer none, .pointer none, .pointer none] 73 ?_
                  intro gy hg w10 hbox hb
                  have GEgy := ge_ hg HB
                  have GVgy := ge_ hg HV
                  have NEgb_gy := ne_ hg BKgb
                  have NEgx_gy := ne_ hg BKgx
                  have NEgt_gy := ne_ hg BKgt
                  replace hb := nb_ HB hb
                  replace BKgb := kb_ BKgb hb
                  replace BKgx := kb_ BKgx hb
                  replace BKgt := kb_ BKgt hb
                  replace VX := Aside0.mk (VeX.below VX.out hb)
                  replace HB := bs_ HB hb
                  replace HV := bs_ HV hb
                  have BKgy := Aside0.mk hbox
                  clear hb hbox hg
                  refine hK.out _ _ (c3_ BKgx) (fun hHeld => ?_)
                  clear hK K
                  refine nM_ ?_
                  refine oM_ HT_ 5 (some 39) 255 (fun K hK => ?_)
                  refine gM_ Tryz.func48 (C1.out _ _ _ _ (VE.out.below HV.out)) ?_
                  rintro e w8 ⟨rfl, hb⟩
                  refine ⟨.agg #[.int .i64 (runF (hsO l0) (vsO l0) (dsO l0) a2 a3).w, .int .i64 (runF (hsO l0) (vsO l0) (dsO l0) a2 a3).n, .int .i64 (runF (hsO l0) (vsO l0) (dsO l0) a2 a3).d], rfl, ?_⟩
                  replace hb := nb_ HB hb
                  replace BKgb := kb_ BKgb hb
                  replace BKgx := kb_ BKgx hb
                  replace BKgt := kb_ BKgt hb
                  replace BKgy := kb_ BKgy hb
                  replace VX := Aside0.mk (VeX.below VX.out hb)
                  replace HB := bs_ HB hb
                  replace HV := bs_ HV hb
                  (try clear hb)
                  refine hK.out _ _ (c3_ BKgx) (fun hHeld => ?_)
                  clear hK K
                  refine nM_ ?_
                  exact norm_ rfl (hcont (h1, h2, h3, gy, gt) _ ⟨HB.out, HV.out, BKgb.out, BKgx.out, BKgy.out, BKgt.out, GEgy.out, GEgt.out, GVgy.out, GVgt.out, (Ne.symm NEgt_gy.out), NEgb_gy.out, NEgb_gt.out, NEgx_gy.out, NEgx_gt.out, VX.out⟩)
              · refine bs2_ 13 #[.pointer none, .pointer none, .pointer none] 73 ?_
                intro gy hg w10 hbox hb
                have GEgy := ge_ hg HB
                have GVgy := ge_ hg HV
                have NEgb_gy := ne_ hg BKgb
                have NEgx_gy := ne_ hg BKgx
                have NEgt_gy := ne_ hg BKgt
                replace hb := nb_ HB hb
                replace BKgb := kb_ BKgb hb
                replace BKgx := kb_ BKgx hb
                replace BKgt := kb_ BKgt hb
                replace HB := bs_ HB hb
                replace HV := bs_ HV hb
                have BKgy := Aside0.mk hbox
                clear hb hbox hg
                refine hK.out _ _ (c3_ BKgx) (fun hHeld => ?_)
                clear hK K
                refine nM_ ?_
                refine oM_ HT_ 1 (some 35) 223 (fun K hK => ?_)
                have LT_ := blk_lt BKgt.out
                refine gM_ Tryz.func36 (vessel_open.calls A1 c1 l1 _ (Kd.C_below HR1.out HB.out) HN1.out) ?_
                rintro e w7 ⟨h1, h2, h3, rfl, s_, hb⟩
                refine ⟨.agg #[.pointer (some ⟨h1, 0, none⟩), .pointer (some ⟨h2, 0, none⟩), .pointer (some ⟨h3, 0, none⟩)], rfl, ?_⟩
                replace hb := nb_ HB hb
                replace BKgb := kb_ BKgb hb
                replace BKgx := kb_ BKgx hb
                replace BKgt := kb_ BKgt hb
                replace BKgy := kb_ BKgy hb
                replace HB := bs_ HB hb
                replace HV := bs_ HV hb
                (try clear hb)
                have VX := Aside0.mk (VeX.mono (P' := fun k => k = gt) s_ (fun k_ hk_ => by rw [hk_]; exact LT_))
                clear LT_
                clear s_
                refine hK.out _ _ (c3_ BKgx) (fun hHeld => ?_)
                clear hK K
                refine nM_ ?_
                refine oM_ HT_ 5 (some 39) 255 (fun K hK => ?_)
                refine gM_ Tryz.func48 (C1.out _ _ _ _ (VE.out.below HV.out)) ?_
                rintro e w8 ⟨rfl, hb⟩
                refine ⟨.agg #[.int .i64 (runF (hsO l0) (vsO l0) (dsO l0) a2 a3).w, .int .i64 (runF (hsO l0) (vsO l0) (dsO l0) a2 a3).n, .int .i64 (runF (hsO l0) (vsO l0) (dsO l0) a2 a3).d], rfl, ?_⟩
                replace hb := nb_ HB hb
                replace BKgb := kb_ BKgb hb
                replace BKgx := kb_ BKgx hb
                replace BKgt := kb_ BKgt hb
                replace BKgy := kb_ BKgy hb
                replace VX := Aside0.mk (VeX.below VX.out hb)
                replace HB := bs_ HB hb
                replace HV := bs_ HV hb
                (try clear hb)
                refine hK.out _ _ (c3_ BKgx) (fun hHeld => ?_)
                clear hK K
                refine nM_ ?_
                exact norm_ rfl (hcont (h1, h2, h3, gy, gt) _ ⟨HB.out, HV.out, BKgb.out, BKgx.out, BKgy.out, BKgt.out, GEgy.out, GEgt.out, GVgy.out, GVgt.out, (Ne.symm NEgt_gy.out), NEgb_gy.out, NEgb_gt.out, NEgx_gy.out, NEgx_gt.out, VX.out⟩)
        · rw [if_neg hab] at h
          obtain ⟨z1, p3, p4, p5, p6⟩ := runF_spec hG hl.1 hl.2 hm.1
          have hab2 : aboveF (runF (hsO l0) (vsO l0) (dsO l0) a2 a3) (sm (vsO l1)) = false := by simpa using hab
          have hv2 := not_above p3 hab2
          obtain ⟨f1, f2, f3, f4, f5, f6, f7⟩ := tell hU.v hU.h hU.hv.symm p3 p5 hv2 p4
          have hS := hU.sums
          have fw := w_le_v' f4 f7
          obtain ⟨rfl, rfl, rfl⟩ : (spanF (atF (hsO l1) (findF (vsO l1) (runF (hsO l0) (vsO l0) (dsO l0) a2 a3)))).1 = r1 ∧ (spanF (atF (hsO l1) (findF (vsO l1) (runF (hsO l0) (vsO l0) (dsO l0) a2 a3)))).2 = r2 ∧ (0 : Int) = r3 := by simpa [okS] using h
          have C5 : Aside0 (∀ W g1 g2 g3, VeAt W (hsO l1) (vsO l1) (dsO l1) g1 g2 g3 → Calls Tryz.prog 53 #[.pointer (some ⟨g2, 0, none⟩), .agg #[.int .i64 (runF (hsO l0) (vsO l0) (dsO l0) a2 a3).w, .int .i64 (runF (hsO l0) (vsO l0) (dsO l0) a2 a3).n, .int .i64 (runF (hsO l0) (vsO l0) (dsO l0) a2 a3).d]] W fun e w' => e = .returned (.agg #[.int .i64 ((findF (vsO l1) (runF (hsO l0) (vsO l0) (dsO l0) a2 a3)).r : Int), .int .i64 (findF (vsO l1) (runF (hsO l0) (vsO l0) (dsO l0) a2 a3)).n, .int .i64 (findF (vsO l1) (runF (hsO l0) (vsO l0) (dsO l0) a2 a3)).d]) ∧ Below W.heap.size W w') := ⟨fun W g1 g2 g3 hV => volume_find.good g2 (vsO l1) 100000 (runF (hsO l0) (vsO l0) (dsO l0) a2 a3) W hV.s2 hU.v (by decide) p3 p5 hv2 (by omega)⟩
          have C6 : Aside0 (∀ W g1 g2 g3, VeAt W (hsO l1) (vsO l1) (dsO l1) g1 g2 g3 → Calls Tryz.prog 42 #[.pointer (some ⟨g1, 0, none⟩), .agg #[.int .i64 ((findF (vsO l1) (runF (hsO l0) (vsO l0) (dsO l0) a2 a3)).r : Int), .int .i64 (findF (vsO l1) (runF (hsO l0) (vsO l0) (dsO l0) a2 a3)).n, .int .i64 (findF (vsO l1) (runF (hsO l0) (vsO l0) (dsO l0) a2 a3)).d]] W fun e w' => e = .returned (.agg #[.int .i64 (atF (hsO l1) (findF (vsO l1) (runF (hsO l0) (vsO l0) (dsO l0) a2 a3))).w, .int .i64 (atF (hsO l1) (findF (vsO l1) (runF (hsO l0) (vsO l0) (dsO l0) a2 a3))).n, .int .i64 (atF (hsO l1) (findF (vsO l1) (runF (hsO l0) (vsO l0) (dsO l0) a2 a3))).d]) ∧ Below W.heap.size W w') := ⟨fun W g1 g2 g3 hV => height_at.good g1 (hsO l1) 1000 (findF (vsO l1) (runF (hsO l0) (vsO l0) (dsO l0) a2 a3)) W hV.s1 hU.h (by decide) (hU.hv ▸ f1) (by omega) (by omega)⟩
          have C7 : Aside0 (∀ W, Calls Tryz.prog 40 #[.agg #[.int .i64 (atF (hsO l1) (findF (vsO l1) (runF (hsO l0) (vsO l0) (dsO l0) a2 a3))).w, .int .i64 (atF (hsO l1) (findF (vsO l1) (runF (hsO l0) (vsO l0) (dsO l0) a2 a3))).n, .int .i64 (atF (hsO l1) (findF (vsO l1) (runF (hsO l0) (vsO l0) (dsO l0) a2 a3))).d]] W fun e w' => e = .returned (.agg #[.int .i64 (spanF (atF (hsO l1) (findF (vsO l1) (runF (hsO l0) (vsO l0) (dsO l0) a2 a3)))).1, .int .i64 (spanF (atF (hsO l1) (findF (vsO l1) (runF (hsO l0) (vsO l0) (dsO l0) a2 a3)))).2]) ∧ Below W.heap.size W w') := ⟨fun W => span_good (atF (hsO l1) (findF (vsO l1) (runF (hsO l0) (vsO l0) (dsO l0) a2 a3))) W (by omega)⟩
          clear f1 f2 f3 f4 f5 f6 f7 fw hv2 hS
          have C1 : Aside0 (∀ W g1 g2 g3, VeAt W (hsO l0) (vsO l0) (dsO l0) g1 g2 g3 → Calls Tryz.prog 48 #[.agg #[.pointer (some ⟨g1, 0, none⟩), .pointer (some ⟨g2, 0, none⟩), .pointer (some ⟨g3, 0, none⟩)], .int .i64 a2, .int .i64 a3] W fun e w' => e = .returned (.agg #[.int .i64 (runF (hsO l0) (vsO l0) (dsO l0) a2 a3).w, .int .i64 (runF (hsO l0) (vsO l0) (dsO l0) a2 a3).n, .int .i64 (runF (hsO l0) (vsO l0) (dsO l0) a2 a3).d]) ∧ Below W.heap.size W w') := ⟨fun W g1 g2 g3 hV => vessel_run.calls _ _ _ g1 g2 g3 a2 a3 W hV hG hl.1 hl.2 hm.1 hm.2⟩
          have C3 : Aside0 (∀ W g1 g2 g3, VeAt W (hsO l1) (vsO l1) (dsO l1) g1 g2 g3 → Calls Tryz.prog 52 #[.pointer (some ⟨g2, 0, none⟩)] W fun e w' => e = .returned (.int .i64 (sm (vsO l1))) ∧ Below W.heap.size W w') := ⟨fun W g1 g2 g3 hV => by have hh := volume_all.calls2 g2 (vsO l1) (sums 0 (vsO l1)) W hV.s2 (by rw [sums_length]; omega); rw [hU.v.rd (by decide) (Nat.le_refl _), List.take_length] at hh; exact hh⟩
          have C4 : Aside0 (∀ W, Calls Tryz.prog 45 #[.agg #[.int .i64 (runF (hsO l0) (vsO l0) (dsO l0) a2 a3).w, .int .i64 (runF (hsO l0) (vsO l0) (dsO l0) a2 a3).n, .int .i64 (runF (hsO l0) (vsO l0) (dsO l0) a2 a3).d], .int .i64 (sm (vsO l1))] W fun e w' => e = .returned (.bool false) ∧ Below W.heap.size W w') := ⟨fun W => by have hh := above_good (runF (hsO l0) (vsO l0) (dsO l0) a2 a3) (sm (vsO l1)) W; rwa [hab2] at hh⟩
          have HCK : Aside0 (vessel_checked.f 40 [l0, l1] = some 0) := ⟨checked_good hv hu⟩
          have HN1 : Aside0 (l1.length ≤ 900) := ⟨by have := hU.h.ln; rw [List.length_map] at this; omega⟩
          have HVAL := Aside0.mk hv
          have HLV := Aside0.mk hl
          have HM := Aside0.mk hm
          clear h hab hab2 z1 p3 p4 p5 p6 hG hU hl hm hv hu
          go_enter Tryz.func18, Tryz.ntmps18
          go_wp2_with (first | ((with_reducible refine gate_dst (N := 8) rfl ?_); refine bx_ 8 #[.int .i64 0, .int .i64 0] 37 ?_; intro gb hg w1 hbox hb; have GEgb := ge_ hg HB; replace hb := nb_ HB hb; replace HB := bs_ HB hb; have BKgb := Aside0.mk hbox; clear hb hbox hg) | ((with_reducible refine gate_dst (N := 17) rfl ?_); refine lit2_list ?hg (N := 17) ?hd (x := .slice A0 l0.length c0) (y := .slice A1 l1.length c1) (E := 23) ?hr ?_; (case hd => rfl); (case hg => rfl); (case hr => first | (go_simp; done) | (go_simp; rfl)); intro gl hg w1b hbox hb; replace hb := nb_ HB hb; replace BKgb := kb_ BKgb hb; replace HB := bs_ HB hb; have HPL := Aside0.mk (pair_row (Kd.C_below HR0.out HB.out) HC0.out (Kd.C_below HR1.out HB.out) HC1.out hbox); clear hb hbox hg) | ((with_reducible refine gate_callee (f := 54) rfl ?_); refine gL_ (some 18) Tryz.func54 (vessel_checked.calls 40 (some ⟨gl, 0, none⟩) 2 [l0, l1] 0 _ HPL.out (Nat.le_refl 2) HCK.out) ?_; rintro e w2 ⟨rfl, hb⟩; refine ⟨.int .i64 0, rfl, ?_⟩; replace hb := nb_ HB hb; replace BKgb := kb_ BKgb hb; replace HB := bs_ HB hb; clear HPL; clear hb) | ((with_reducible refine gate_callee (f := 41) rfl ?_); refine gL_ (some 27) Tryz.func41 (vessel_asked.good A0 c0 l0 a2 a3 _ (Kd.C_below HR0.out HB.out) HC0.out HVAL.out HLV.out HM.out) ?_; rintro e w3 ⟨g1, g2, g3, rfl, s_, hb⟩; refine ⟨.tuple #[.agg #[.pointer (some ⟨g1, 0, none⟩), .pointer (some ⟨g2, 0, none⟩), .pointer (some ⟨g3, 0, none⟩)], .int .i64 0], rfl, ?_⟩; replace hb := nb_ HB hb; replace BKgb := kb_ BKgb hb; replace HB := bs_ HB hb; have VE := Aside0.mk s_; clear s_; clear hb) | ((with_reducible refine gate_dst (N := 11) rfl ?_); refine bx_ 11 #[.pointer none, .pointer none, .pointer none] 73 ?_; intro gx hg w4 hbox hb; have GEgx := ge_ hg HB; have NEgb_gx := ne_ hg BKgb; replace hb := nb_ HB hb; replace BKgb := kb_ BKgb hb; replace VE := Aside0.mk (VeAt.below VE.out hb); replace HB := bs_ HB hb; have BKgx := Aside0.mk hbox; clear hb hbox hg) | ((with_reducible refine gate_store (t := 73) (p := 11) rfl ?_); have hc_ := cf3_ BKgx; refine st3_ ?_; intro wv hp_; clear hc_; replace VE : Aside0 (VeAt wv (hsO l0) (vsO l0) (dsO l0) g1 g2 g3) := ⟨by rw [← hp_.e]; exact VE.out.set3 BKgx.out⟩; replace BKgb := pf3_ NEgb_gx BKgb hp_; replace BKgx := pp3_ BKgx hp_; replace HB := pb3_ GEgx HB hp_; clear hp_; have HV := Aside0.mk (Below.refl wv.heap.size wv)))
          replace BKgb := kd_ BKgb
          replace BKgx := kd_ BKgx
          replace HB := bd_ HB
          replace HV := bd_ HV
          refine sM_ [8, 9] (fun w' => (w'.cell? ⟨gx, 0, none⟩ = some (.pointer (some ⟨g1, 0, none⟩)) ∧ w'.cell? ⟨gx, 1, none⟩ = some (.pointer (some ⟨g2, 0, none⟩)) ∧ w'.cell? ⟨gx, 2, none⟩ = some (.pointer (some ⟨g3, 0, none⟩)))) vessel_Cascade.tab7 vessel_Cascade.bits7 (c3_ BKgx) (fun hHeld HT_ HW_ => ?_)
          generalize wv.drew = w6 at BKgb BKgx HB HV hHeld ⊢
          refine pM_ HT_ 0 34 1 ?_
          refine pM_ HT_ 3 37 9 ?_
          refine pM_ HT_ 4 38 25 ?_
          refine tM_ HT_ HW_ hHeld 2 36 29 ?_
          refine join_ (σ := Nat × Nat × Nat × Nat × Nat) 2 (bm 10 255) (fun s => [(35, .agg #[.pointer (some ⟨s.1, 0, none⟩), .pointer (some ⟨s.2.1, 0, none⟩), .pointer (some ⟨s.2.2.1, 0, none⟩)]), (39, .agg #[.int .i64 (runF (hsO l0) (vsO l0) (dsO l0) a2 a3).w, .int .i64 (runF (hsO l0) (vsO l0) (dsO l0) a2 a3).n, .int .i64 (runF (hsO l0) (vsO l0) (dsO l0) a2 a3).d]), (13, .pointer (some ⟨s.2.2.2.1, 0, none⟩)), (14, .pointer (some ⟨s.2.2.2.2, 0, none⟩))]) (fun s w' => Below w.heap.size w w' ∧ Below wv.heap.size wv w' ∧ w'.heap[gb]? = some (.cells #[.int .i64 0, .int .i64 0] 37 (0, 0)) ∧ w'.heap[gx]? = some (.cells #[.pointer (some ⟨g1, 0, none⟩), .pointer (some ⟨g2, 0, none⟩), .pointer (some ⟨g3, 0, none⟩)] 73 (0, 0)) ∧ w'.heap[s.2.2.2.1]? = some (.cells #[.pointer none, .pointer none, .pointer none] 73 (0, 0)) ∧ w'.heap[s.2.2.2.2]? = some (.cells #[.int .i64 0, .int .i64 0, .int .i64 0] 77 (0, 0)) ∧ w.heap.size ≤ s.2.2.2.1 ∧ w.heap.size ≤ s.2.2.2.2 ∧ wv.heap.size ≤ s.2.2.2.1 ∧ wv.heap.size ≤ s.2.2.2.2 ∧ s.2.2.2.1 ≠ s.2.2.2.2 ∧ gb ≠ s.2.2.2.1 ∧ gb ≠ s.2.2.2.2 ∧ gx ≠ s.2.2.2.1 ∧ gx ≠ s.2.2.2.2 ∧ VeX w' (fun k => k = s.2.2.2.2) (hsO l1) (vsO l1) (dsO l1) s.1 s.2.1 s.2.2.1) ?_ ?_
          · rintro ⟨h1, h2, h3, gy, gt⟩ wj ⟨f0_, f1_, f2_, f3_, f4_, f5_, f6_, f7_, f8_, f9_, f10_, f11_, f12_, f13_, f14_, f15_⟩
            refine nM_ ?_
            clear HB HV BKgb BKgx
            have HB := Aside0.mk f0_
            have HV := Aside0.mk f1_
            have BKgb := Aside0.mk f2_
            have BKgx := Aside0.mk f3_
            have BKgy := Aside0.mk f4_
            have BKgt := Aside0.mk f5_
            have GEgy := Aside0.mk f6_
            have GEgt := Aside0.mk f7_
            have GVgy := Aside0.mk f8_
            have GVgt := Aside0.mk f9_
            have NEgy_gt := Aside0.mk f10_
            have NEgb_gy := Aside0.mk f11_
            have NEgb_gt := Aside0.mk f12_
            have NEgx_gy := Aside0.mk f13_
            have NEgx_gt := Aside0.mk f14_
            have VX := Aside0.mk f15_
            clear f0_ f1_ f2_ f3_ f4_ f5_ f6_ f7_ f8_ f9_ f10_ f11_ f12_ f13_ f14_ f15_
            refine lM_ HT_ 8 none 511 (fun K hK => ?_)
            have hc_ := cf3_ BKgy
            refine sk3_ ?_
            intro ws_ hp_
            clear hc_
            refine hK.out _ _ ?_
            replace VX : Aside0 (VeX ws_ (fun k => k = gt) (hsO l1) (vsO l1) (dsO l1) h1 h2 h3) := ⟨by rw [← hp_.e]; exact VX.out.set3 BKgy.out⟩
            replace BKgb := pf3_ NEgb_gy BKgb hp_
            replace BKgx := pf3_ NEgx_gy BKgx hp_
            replace BKgy := pp3_ BKgy hp_
            replace BKgt := pf3r_ NEgy_gt BKgt hp_
            replace HB := pb3_ GEgy HB hp_
            replace HV := pb3_ GVgy HV hp_
            clear hp_
            generalize ws_ = w11 at VX BKgb BKgx BKgy BKgt HB HV ⊢
            clear ws_
            clear hK K
            refine lM_ HT_ 9 none 1023 (fun K hK => ?_)
            have hc_ := cf3_ BKgt
            refine sk3_ ?_
            intro ws_ hp_
            clear hc_
            refine hK.out _ _ ?_
            replace VX : Aside0 (VeX ws_ (fun k => k = gt) (hsO l1) (vsO l1) (dsO l1) h1 h2 h3) := ⟨by rw [← hp_.e]; exact (VeX.setP (c := gt) rfl (VeX.setP (c := gt) rfl (VeX.setP (c := gt) rfl VX.out)))⟩
            replace BKgb := pf3_ NEgb_gt BKgb hp_
            replace BKgx := pf3_ NEgx_gt BKgx hp_
            replace BKgy := pf3_ NEgy_gt BKgy hp_
            replace BKgt := pp3_ BKgt hp_
            replace HB := pb3_ GEgt HB hp_
            replace HV := pb3_ GVgt HV hp_
            clear hp_
            generalize ws_ = w12 at VX BKgb BKgx BKgy BKgt HB HV ⊢
            clear ws_
            clear hK K
            refine dM_ HT_ ?_
            try go_wp2
            replace BKgb := kd_ BKgb
            replace BKgx := kd_ BKgx
            replace BKgy := kd_ BKgy
            replace BKgt := kd_ BKgt
            replace VX := Aside0.mk (VeX.drew VX.out)
            replace HB := bd_ HB
            replace HV := bd_ HV
            refine sM_ [] (fun w' => (w'.cell? ⟨gy, 0, none⟩ = some (.pointer (some ⟨h1, 0, none⟩)) ∧ w'.cell? ⟨gy, 1, none⟩ = some (.pointer (some ⟨h2, 0, none⟩)) ∧ w'.cell? ⟨gy, 2, none⟩ = some (.pointer (some ⟨h3, 0, none⟩))) ∧ (w'.cell? ⟨gt, 0, none⟩ = some (.int .i64 (runF (hsO l0) (vsO l0) (dsO l0) a2 a3).w) ∧ w'.cell? ⟨gt, 1, none⟩ = some (.int .i64 (runF (hsO l0) (vsO l0) (dsO l0) a2 a3).n) ∧ w'.cell? ⟨gt, 2, none⟩ = some (.int .i64 (runF (hsO l0) (vsO l0) (dsO l0) a2 a3).d))) vessel_Cascade.tab8 vessel_Cascade.bits8 ⟨c3_ BKgy, c3_ BKgt⟩ (fun hHeld HT_ HW_ => ?_)
            generalize w12.drew = w14 at BKgb BKgx BKgy BKgt VX HB HV hHeld ⊢
            refine pM_ HT_ 1 41 2 ?_
            refine tM_ HT_ HW_ hHeld 0 40 3 ?_
            refine tM_ HT_ HW_ hHeld 2 42 7 ?_
            refine oM_ HT_ 3 (some 43) 15 (fun K hK => ?_)
            refine gM_ Tryz.func52 (C3.out _ _ _ _ VX.out.at_) ?_
            rintro e w15 ⟨rfl, hb⟩
            refine ⟨.int .i64 (sm (vsO l1)), rfl, ?_⟩
            replace hb := nb_ HB hb
            replace BKgb := kb_ BKgb hb
            replace BKgx := kb_ BKgx hb
            replace BKgy := kb_ BKgy hb
            replace BKgt := kb_ BKgt hb
            replace VX := Aside0.mk (VeX.below VX.out hb)
            replace HB := bs_ HB hb
            replace HV := bs_ HV hb
            (try clear hb)
            refine hK.out _ _ ⟨c3_ BKgy, c3_ BKgt⟩ (fun hHeld => ?_)
            clear hK K
            refine nM_ ?_
            refine oM_ HT_ 4 (some 44) 31 (fun K hK => ?_)
            refine gM_ Tryz.func45 (C4.out _) ?_
            rintro e w16 ⟨rfl, hb⟩
            refine ⟨.bool false, rfl, ?_⟩
            replace hb := nb_ HB hb
            replace BKgb := kb_ BKgb hb
            replace BKgx := kb_ BKgx hb
            replace BKgy := kb_ BKgy hb
            replace BKgt := kb_ BKgt hb
            replace VX := Aside0.mk (VeX.below VX.out hb)
            replace HB := bs_ HB hb
            replace HV := bs_ HV hb
            (try clear hb)
            refine hK.out _ _ ⟨c3_ BKgy, c3_ BKgt⟩ (fun hHeld => ?_)
            clear hK K
            refine nM_ ?_
            refine dM_ HT_ ?_
            try go_wp2
            replace BKgb := kd_ BKgb
            replace BKgx := kd_ BKgx
            replace BKgy := kd_ BKgy
            replace BKgt := kd_ BKgt
            replace VX := Aside0.mk (VeX.drew VX.out)
            replace HB := bd_ HB
            replace HV := bd_ HV
            refine sM_ [8] (fun w' => (w'.cell? ⟨gy, 0, none⟩ = some (.pointer (some ⟨h1, 0, none⟩)) ∧ w'.cell? ⟨gy, 1, none⟩ = some (.pointer (some ⟨h2, 0, none⟩)) ∧ w'.cell? ⟨gy, 2, none⟩ = some (.pointer (some ⟨h3, 0, none⟩))) ∧ (w'.cell? ⟨gt, 0, none⟩ = some (.int .i64 (runF (hsO l0) (vsO l0) (dsO l0) a2 a3).w) ∧ w'.cell? ⟨gt, 1, none⟩ = some (.int .i64 (runF (hsO l0) (vsO l0) (dsO l0) a2 a3).n) ∧ w'.cell? ⟨gt, 2, none⟩ = some (.int .i64 (runF (hsO l0) (vsO l0) (dsO l0) a2 a3).d))) vessel_Cascade.tab10 vessel_Cascade.bits10 ⟨c3_ BKgy, c3_ BKgt⟩ (fun hHeld HT_ HW_ => ?_)
            generalize w16.drew = w18 at BKgb BKgx BKgy BKgt VX HB HV hHeld ⊢
            refine pM_ HT_ 0 46 1 ?_
            refine pM_ HT_ 2 48 5 ?_
            refine tM_ HT_ HW_ hHeld 1 47 7 ?_
            refine tM_ HT_ HW_ hHeld 3 49 15 ?_
            refine tM_ HT_ HW_ hHeld 4 50 31 ?_
            refine oM_ HT_ 5 (some 51) 63 (fun K hK => ?_)
            refine gM_ Tryz.func53 (C5.out _ _ _ _ VX.out.at_) ?_
            rintro e w19 ⟨rfl, hb⟩
            refine ⟨.agg #[.int .i64 ((findF (vsO l1) (runF (hsO l0) (vsO l0) (dsO l0) a2 a3)).r : Int), .int .i64 (findF (vsO l1) (runF (hsO l0) (vsO l0) (dsO l0) a2 a3)).n, .int .i64 (findF (vsO l1) (runF (hsO l0) (vsO l0) (dsO l0) a2 a3)).d], rfl, ?_⟩
            replace hb := nb_ HB hb
            replace BKgb := kb_ BKgb hb
            replace BKgx := kb_ BKgx hb
            replace BKgy := kb_ BKgy hb
            replace BKgt := kb_ BKgt hb
            replace VX := Aside0.mk (VeX.below VX.out hb)
            replace HB := bs_ HB hb
            replace HV := bs_ HV hb
            (try clear hb)
            refine hK.out _ _ ⟨c3_ BKgy, c3_ BKgt⟩ (fun hHeld => ?_)
            clear hK K
            refine nM_ ?_
            refine oM_ HT_ 6 (some 52) 127 (fun K hK => ?_)
            refine gM_ Tryz.func42 (C6.out _ _ _ _ VX.out.at_) ?_
            rintro e w20 ⟨rfl, hb⟩
            refine ⟨.agg #[.int .i64 (atF (hsO l1) (findF (vsO l1) (runF (hsO l0) (vsO l0) (dsO l0) a2 a3))).w, .int .i64 (atF (hsO l1) (findF (vsO l1) (runF (hsO l0) (vsO l0) (dsO l0) a2 a3))).n, .int .i64 (atF (hsO l1) (findF (vsO l1) (runF (hsO l0) (vsO l0) (dsO l0) a2 a3))).d], rfl, ?_⟩
            replace hb := nb_ HB hb
            replace BKgb := kb_ BKgb hb
            replace BKgx := kb_ BKgx hb
            replace BKgy := kb_ BKgy hb
            replace BKgt := kb_ BKgt hb
            replace VX := Aside0.mk (VeX.below VX.out hb)
            replace HB := bs_ HB hb
            replace HV := bs_ HV hb
            (try clear hb)
            refine hK.out _ _ ⟨c3_ BKgy, c3_ BKgt⟩ (fun hHeld => ?_)
            clear hK K
            refine nM_ ?_
            refine oM_ HT_ 7 (some 53) 255 (fun K hK => ?_)
            refine gM_ Tryz.func40 (C7.out _) ?_
            rintro e w21 ⟨rfl, hb⟩
            refine ⟨.agg #[.int .i64 (spanF (atF (hsO l1) (findF (vsO l1) (runF (hsO l0) (vsO l0) (dsO l0) a2 a3)))).1, .int .i64 (spanF (atF (hsO l1) (findF (vsO l1) (runF (hsO l0) (vsO l0) (dsO l0) a2 a3)))).2], rfl, ?_⟩
            replace hb := nb_ HB hb
            replace BKgb := kb_ BKgb hb
            replace BKgx := kb_ BKgx hb
            replace BKgy := kb_ BKgy hb
            replace BKgt := kb_ BKgt hb
            replace VX := Aside0.mk (VeX.below VX.out hb)
            replace HB := bs_ HB hb
            replace HV := bs_ HV hb
            (try clear hb)
            refine hK.out _ _ ⟨c3_ BKgy, c3_ BKgt⟩ (fun hHeld => ?_)
            clear hK K
            refine nM_ ?_
            refine lM_ HT_ 8 none 511 (fun K hK => ?_)
            have hc_ := cf2_ BKgb
            refine sk2_ ?_
            intro ws_ hp_
            clear hc_
            refine hK.out _ _ ?_
            clear hK K
            refine pM_ HT_ 9 9 1023 ?_
            refine dM_ HT_ ?_
            clear VX
            try go_wp2
            replace BKgb := pp2_ BKgb hp_
            replace BKgx := pf2r_ NEgb_gx BKgx hp_
            replace BKgy := pf2r_ NEgb_gy BKgy hp_
            replace BKgt := pf2r_ NEgb_gt BKgt hp_
            replace HB := pb2_ GEgb HB hp_
            clear HV
            clear hp_
            generalize ws_ = w22 at BKgb BKgx BKgy BKgt HB ⊢
            clear ws_
            refine bodyPost_ret (results_ct rfl _ _ gb 37 #[.int .i64 (spanF (atF (hsO l1) (findF (vsO l1) (runF (hsO l0) (vsO l0) (dsO l0) a2 a3)))).1, .int .i64 (spanF (atF (hsO l1) (findF (vsO l1) (runF (hsO l0) (vsO l0) (dsO l0) a2 a3)))).2] (0, 0) _ rfl BKgb.out Tryz.underlying37 rfl (by kernel_rfl)) rfl ?_
            exact ⟨rfl, HB.out⟩
          · intro hcont
            refine thM_ HT_ 1 (some 35) 31 6 (some 13) 93 7 (some 14) 157 (fun K hK => ?_) (fun K hK => ?_) (fun K hK => ?_)
            · refine gM_ Tryz.func36 (vessel_open.calls A1 c1 l1 _ (Kd.C_below HR1.out HB.out) HN1.out) ?_
              rintro e w7 ⟨h1, h2, h3, rfl, s_, hb⟩
              refine ⟨.agg #[.pointer (some ⟨h1, 0, none⟩), .pointer (some ⟨h2, 0, none⟩), .pointer (some ⟨h3, 0, none⟩)], rfl, ?_⟩
              replace hb := nb_ HB hb
              replace BKgb := kb_ BKgb hb
              replace BKgx := kb_ BKgx hb
              replace HB := bs_ HB hb
              replace HV := bs_ HV hb
              (try clear hb)
              have VX := Aside0.mk s_
              clear s_
              refine hK.out _ _ (c3_ BKgx) (fun hHeld => ?_)
              clear hK K
              refine nM_ ?_
              refine thM_ HT_ 5 (some 39) 63 6 (some 13) 95 7 (some 14) 159 (fun K hK => ?_) (fun K hK => ?_) (fun K hK => ?_)
              · refine gM_ Tryz.func48 (C1.out _ _ _ _ (VE.out.below HV.out)) ?_
                rintro e w8 ⟨rfl, hb⟩
                refine ⟨.agg #[.int .i64 (runF (hsO l0) (vsO l0) (dsO l0) a2 a3).w, .int .i64 (runF (hsO l0) (vsO l0) (dsO l0) a2 a3).n, .int .i64 (runF (hsO l0) (vsO l0) (dsO l0) a2 a3).d], rfl, ?_⟩
                replace hb := nb_ HB hb
                replace BKgb := kb_ BKgb hb
                replace BKgx := kb_ BKgx hb
                replace VX := Aside0.mk (VeX.below VX.out hb)
                replace HB := bs_ HB hb
                replace HV := bs_ HV hb
                (try clear hb)
                refine hK.out _ _ (c3_ BKgx) (fun hHeld => ?_)
                clear hK K
                refine nM_ ?_
                refine twM_ HT_ 6 (some 13) 127 7 (some 14) 191 (fun K hK => ?_) (fun K hK => ?_)
                · refine bs2_ 13 #[.pointer none, .pointer none, .pointer none] 73 ?_
                  intro gy hg w10 hbox hb
                  have GEgy := ge_ hg HB
                  have GVgy := ge_ hg HV
                  have NEgb_gy := ne_ hg BKgb
                  have NEgx_gy := ne_ hg BKgx
                  replace hb := nb_ HB hb
                  replace BKgb := kb_ BKgb hb
                  replace BKgx := kb_ BKgx hb
                  replace VX := Aside0.mk (VeX.below VX.out hb)
                  replace HB := bs_ HB hb
                  replace HV := bs_ HV hb
                  have BKgy := Aside0.mk hbox
                  clear hb hbox hg
                  refine hK.out _ _ (c3_ BKgx) (fun hHeld => ?_)
                  clear hK K
                  refine nM_ ?_
                  refine oM_ HT_ 7 (some 14) 255 (fun K hK => ?_)
                  refine bs2_ 14 #[.int .i64 0, .int .i64 0, .int .i64 0] 77 ?_
                  intro gt hg w9 hbox hb
                  have VL_ := (VeX.later VX.out hb).mono (P' := fun k => k = gt) (fun k_ hk_ => .inr (by rw [hk_, hg]; exact Nat.le_refl _))
                  have GEgt := ge_ hg HB
                  have GVgt := ge_ hg HV
                  have NEgb_gt := ne_ hg BKgb
                  have NEgx_gt := ne_ hg BKgx
                  have NEgy_gt := ne_ hg BKgy
                  replace hb := nb_ HB hb
                  replace BKgb := kb_ BKgb hb
                  replace BKgx := kb_ BKgx hb
                  replace BKgy := kb_ BKgy hb
                  replace VX := Aside0.mk (VeX.below VX.out hb)
                  replace HB := bs_ HB hb
                  replace HV := bs_ HV hb
                  have BKgt := Aside0.mk hbox
                  clear hb hbox hg
                  clear VX
                  have VX := Aside0.mk VL_
                  clear VL_
                  refine hK.out _ _ (c3_ BKgx) (fun hHeld => ?_)
                  clear hK K
                  refine nM_ ?_
                  exact norm_ rfl (hcont (h1, h2, h3, gy, gt) _ ⟨HB.out, HV.out, BKgb.out, BKgx.out, BKgy.out, BKgt.out, GEgy.out, GEgt.out, GVgy.out, GVgt.out, NEgy_gt.out, NEgb_gy.out, NEgb_gt.out, NEgx_gy.out, NEgx_gt.out, VX.out⟩)
                · refine bs2_ 14 #[.int .i64 0, .int .i64 0, .int .i64 0] 77 ?_
                  intro gt hg w9 hbox hb
                  have VL_ := (VeX.later VX.out hb).mono (P' := fun k => k = gt) (fun k_ hk_ => .inr (by rw [hk_, hg]; exact Nat.le_refl _))
                  have GEgt := ge_ hg HB
                  have GVgt := ge_ hg HV
                  have NEgb_gt := ne_ hg BKgb
                  have NEgx_gt := ne_ hg BKgx
                  replace hb := nb_ HB hb
                  replace BKgb := kb_ BKgb hb
                  replace BKgx := kb_ BKgx hb
                  replace VX := Aside0.mk (VeX.below VX.out hb)
                  replace HB := bs_ HB hb
                  replace HV := bs_ HV hb
                  have BKgt := Aside0.mk hbox
                  clear hb hbox hg
                  clear VX
                  have VX := Aside0.mk VL_
                  clear VL_
                  refine hK.out _ _ (c3_ BKgx) (fun hHeld => ?_)
                  clear hK K
                  refine nM_ ?_
                  refine oM_ HT_ 6 (some 13) 255 (fun K hK => ?_)
                  refine bs2_ 13 #[.pointer none, .pointer none, .pointer none] 73 ?_
                  intro gy hg w10 hbox hb
                  have GEgy := ge_ hg HB
                  have GVgy := ge_ hg HV
                  have NEgb_gy := ne_ hg BKgb
                  have NEgx_gy := ne_ hg BKgx
                  have NEgt_gy := ne_ hg BKgt
                  replace hb := nb_ HB hb
                  replace BKgb := kb_ BKgb hb
                  replace BKgx := kb_ BKgx hb
                  replace BKgt := kb_ BKgt hb
                  replace VX := Aside0.mk (VeX.below VX.out hb)
                  replace HB := bs_ HB hb
                  replace HV := bs_ HV hb
                  have BKgy := Aside0.mk hbox
                  clear hb hbox hg
                  refine hK.out _ _ (c3_ BKgx) (fun hHeld => ?_)
                  clear hK K
                  refine nM_ ?_
                  exact norm_ rfl (hcont (h1, h2, h3, gy, gt) _ ⟨HB.out, HV.out, BKgb.out, BKgx.out, BKgy.out, BKgt.out, GEgy.out, GEgt.out, GVgy.out, GVgt.out, (Ne.symm NEgt_gy.out), NEgb_gy.out, NEgb_gt.out, NEgx_gy.out, NEgx_gt.out, VX.out⟩)
              · refine bs2_ 13 #[.pointer none, .pointer none, .pointer none] 73 ?_
                intro gy hg w10 hbox hb
                have GEgy := ge_ hg HB
                have GVgy := ge_ hg HV
                have NEgb_gy := ne_ hg BKgb
                have NEgx_gy := ne_ hg BKgx
                replace hb := nb_ HB hb
                replace BKgb := kb_ BKgb hb
                replace BKgx := kb_ BKgx hb
                replace VX := Aside0.mk (VeX.below VX.out hb)
                replace HB := bs_ HB hb
                replace HV := bs_ HV hb
                have BKgy := Aside0.mk hbox
                clear hb hbox hg
                refine hK.out _ _ (c3_ BKgx) (fun hHeld => ?_)
                clear hK K
                refine nM_ ?_
                refine twM_ HT_ 5 (some 39) 127 7 (some 14) 223 (fun K hK => ?_) (fun K hK => ?_)
                · refine gM_ Tryz.func48 (C1.out _ _ _ _ (VE.out.below HV.out)) ?_
                  rintro e w8 ⟨rfl, hb⟩
                  refine ⟨.agg #[.int .i64 (runF (hsO l0) (vsO l0) (dsO l0) a2 a3).w, .int .i64 (runF (hsO l0) (vsO l0) (dsO l0) a2 a3).n, .int .i64 (runF (hsO l0) (vsO l0) (dsO l0) a2 a3).d], rfl, ?_⟩
                  replace hb := nb_ HB hb
                  replace BKgb := kb_ BKgb hb
                  replace BKgx := kb_ BKgx hb
                  replace BKgy := kb_ BKgy hb
                  replace VX := Aside0.mk (VeX.below VX.out hb)
                  replace HB := bs_ HB hb
                  replace HV := bs_ HV hb
                  (try clear hb)
                  refine hK.out _ _ (c3_ BKgx) (fun hHeld => ?_)
                  clear hK K
                  refine nM_ ?_
                  refine oM_ HT_ 7 (some 14) 255 (fun K hK => ?_)
                  refine bs2_ 14 #[.int .i64 0, .int .i64 0, .int .i64 0] 77 ?_
                  intro gt hg w9 hbox hb
                  have VL_ := (VeX.later VX.out hb).mono (P' := fun k => k = gt) (fun k_ hk_ => .inr (by rw [hk_, hg]; exact Nat.le_refl _))
                  have GEgt := ge_ hg HB
                  have GVgt := ge_ hg HV
                  have NEgb_gt := ne_ hg BKgb
                  have NEgx_gt := ne_ hg BKgx
                  have NEgy_gt := ne_ hg BKgy
                  replace hb := nb_ HB hb
                  replace BKgb := kb_ BKgb hb
                  replace BKgx := kb_ BKgx hb
                  replace BKgy := kb_ BKgy hb
                  replace VX := Aside0.mk (VeX.below VX.out hb)
                  replace HB := bs_ HB hb
                  replace HV := bs_ HV hb
                  have BKgt := Aside0.mk hbox
                  clear hb hbox hg
                  clear VX
                  have VX := Aside0.mk VL_
                  clear VL_
                  refine hK.out _ _ (c3_ BKgx) (fun hHeld => ?_)
                  clear hK K
                  refine nM_ ?_
                  exact norm_ rfl (hcont (h1, h2, h3, gy, gt) _ ⟨HB.out, HV.out, BKgb.out, BKgx.out, BKgy.out, BKgt.out, GEgy.out, GEgt.out, GVgy.out, GVgt.out, NEgy_gt.out, NEgb_gy.out, NEgb_gt.out, NEgx_gy.out, NEgx_gt.out, VX.out⟩)
                · refine bs2_ 14 #[.int .i64 0, .int .i64 0, .int .i64 0] 77 ?_
                  intro gt hg w9 hbox hb
                  have VL_ := (VeX.later VX.out hb).mono (P' := fun k => k = gt) (fun k_ hk_ => .inr (by rw [hk_, hg]; exact Nat.le_refl _))
                  have GEgt := ge_ hg HB
                  have GVgt := ge_ hg HV
                  have NEgb_gt := ne_ hg BKgb
                  have NEgx_gt := ne_ hg BKgx
                  have NEgy_gt := ne_ hg BKgy
                  replace hb := nb_ HB hb
                  replace BKgb := kb_ BKgb hb
                  replace BKgx := kb_ BKgx hb
                  replace BKgy := kb_ BKgy hb
                  replace VX := Aside0.mk (VeX.below VX.out hb)
                  replace HB := bs_ HB hb
                  replace HV := bs_ HV hb
                  have BKgt := Aside0.mk hbox
                  clear hb hbox hg
                  clear VX
                  have VX := Aside0.mk VL_
                  clear VL_
                  refine hK.out _ _ (c3_ BKgx) (fun hHeld => ?_)
                  clear hK K
                  refine nM_ ?_
                  refine oM_ HT_ 5 (some 39) 255 (fun K hK => ?_)
                  refine gM_ Tryz.func48 (C1.out _ _ _ _ (VE.out.below HV.out)) ?_
                  rintro e w8 ⟨rfl, hb⟩
                  refine ⟨.agg #[.int .i64 (runF (hsO l0) (vsO l0) (dsO l0) a2 a3).w, .int .i64 (runF (hsO l0) (vsO l0) (dsO l0) a2 a3).n, .int .i64 (runF (hsO l0) (vsO l0) (dsO l0) a2 a3).d], rfl, ?_⟩
                  replace hb := nb_ HB hb
                  replace BKgb := kb_ BKgb hb
                  replace BKgx := kb_ BKgx hb
                  replace BKgy := kb_ BKgy hb
                  replace BKgt := kb_ BKgt hb
                  replace VX := Aside0.mk (VeX.below VX.out hb)
                  replace HB := bs_ HB hb
                  replace HV := bs_ HV hb
                  (try clear hb)
                  refine hK.out _ _ (c3_ BKgx) (fun hHeld => ?_)
                  clear hK K
                  refine nM_ ?_
                  exact norm_ rfl (hcont (h1, h2, h3, gy, gt) _ ⟨HB.out, HV.out, BKgb.out, BKgx.out, BKgy.out, BKgt.out, GEgy.out, GEgt.out, GVgy.out, GVgt.out, NEgy_gt.out, NEgb_gy.out, NEgb_gt.out, NEgx_gy.out, NEgx_gt.out, VX.out⟩)
              · refine bs2_ 14 #[.int .i64 0, .int .i64 0, .int .i64 0] 77 ?_
                intro gt hg w9 hbox hb
                have VL_ := (VeX.later VX.out hb).mono (P' := fun k => k = gt) (fun k_ hk_ => .inr (by rw [hk_, hg]; exact Nat.le_refl _))
                have GEgt := ge_ hg HB
                have GVgt := ge_ hg HV
                have NEgb_gt := ne_ hg BKgb
                have NEgx_gt := ne_ hg BKgx
                replace hb := nb_ HB hb
                replace BKgb := kb_ BKgb hb
                replace BKgx := kb_ BKgx hb
                replace VX := Aside0.mk (VeX.below VX.out hb)
                replace HB := bs_ HB hb
                replace HV := bs_ HV hb
                have BKgt := Aside0.mk hbox
                clear hb hbox hg
                clear VX
                have VX := Aside0.mk VL_
                clear VL_
                refine hK.out _ _ (c3_ BKgx) (fun hHeld => ?_)
                clear hK K
                refine nM_ ?_
                refine twM_ HT_ 5 (some 39) 191 6 (some 13) 223 (fun K hK => ?_) (fun K hK => ?_)
                · refine gM_ Tryz.func48 (C1.out _ _ _ _ (VE.out.below HV.out)) ?_
                  rintro e w8 ⟨rfl, hb⟩
                  refine ⟨.agg #[.int .i64 (runF (hsO l0) (vsO l0) (dsO l0) a2 a3).w, .int .i64 (runF (hsO l0) (vsO l0) (dsO l0) a2 a3).n, .int .i64 (runF (hsO l0) (vsO l0) (dsO l0) a2 a3).d], rfl, ?_⟩
                  replace hb := nb_ HB hb
                  replace BKgb := kb_ BKgb hb
                  replace BKgx := kb_ BKgx hb
                  replace BKgt := kb_ BKgt hb
                  replace VX := Aside0.mk (VeX.below VX.out hb)
                  replace HB := bs_ HB hb
                  replace HV := bs_ HV hb
                  (try clear hb)
                  refine hK.out _ _ (c3_ BKgx) (fun hHeld => ?_)
                  clear hK K
                  refine nM_ ?_
                  refine oM_ HT_ 6 (some 13) 255 (fun K hK => ?_)
                  refine bs2_ 13 #[.pointer none, .pointer none, .pointer none] 73 ?_
                  intro gy hg w10 hbox hb
                  have GEgy := ge_ hg HB
                  have GVgy := ge_ hg HV
                  have NEgb_gy := ne_ hg BKgb
                  have NEgx_gy := ne_ hg BKgx
                  have NEgt_gy := ne_ hg BKgt
                  replace hb := nb_ HB hb
                  replace BKgb := kb_ BKgb hb
                  replace BKgx := kb_ BKgx hb
                  replace BKgt := kb_ BKgt hb
                  replace VX := Aside0.mk (VeX.below VX.out hb)
                  replace HB := bs_ HB hb
                  replace HV := bs_ HV hb
                  have BKgy := Aside0.mk hbox
                  clear hb hbox hg
                  refine hK.out _ _ (c3_ BKgx) (fun hHeld => ?_)
                  clear hK K
                  refine nM_ ?_
                  exact norm_ rfl (hcont (h1, h2, h3, gy, gt) _ ⟨HB.out, HV.out, BKgb.out, BKgx.out, BKgy.out, BKgt.out, GEgy.out, GEgt.out, GVgy.out, GVgt.out, (Ne.symm NEgt_gy.out), NEgb_gy.out, NEgb_gt.out, NEgx_gy.out, NEgx_gt.out, VX.out⟩)
                · refine bs2_ 13 #[.pointer none, .pointer none, .pointer none] 73 ?_
                  intro gy hg w10 hbox hb
                  have GEgy := ge_ hg HB
                  have GVgy := ge_ hg HV
                  have NEgb_gy := ne_ hg BKgb
                  have NEgx_gy := ne_ hg BKgx
                  have NEgt_gy := ne_ hg BKgt
                  replace hb := nb_ HB hb
                  replace BKgb := kb_ BKgb hb
                  replace BKgx := kb_ BKgx hb
                  replace BKgt := kb_ BKgt hb
                  replace VX := Aside0.mk (VeX.below VX.out hb)
                  replace HB := bs_ HB hb
                  replace HV := bs_ HV hb
                  have BKgy := Aside0.mk hbox
                  clear hb hbox hg
                  refine hK.out _ _ (c3_ BKgx) (fun hHeld => ?_)
                  clear hK K
                  refine nM_ ?_
                  refine oM_ HT_ 5 (some 39) 255 (fun K hK => ?_)
                  refine gM_ Tryz.func48 (C1.out _ _ _ _ (VE.out.below HV.out)) ?_
                  rintro e w8 ⟨rfl, hb⟩
                  refine ⟨.agg #[.int .i64 (runF (hsO l0) (vsO l0) (dsO l0) a2 a3).w, .int .i64 (runF (hsO l0) (vsO l0) (dsO l0) a2 a3).n, .int .i64 (runF (hsO l0) (vsO l0) (dsO l0) a2 a3).d], rfl, ?_⟩
                  replace hb := nb_ HB hb
                  replace BKgb := kb_ BKgb hb
                  replace BKgx := kb_ BKgx hb
                  replace BKgt := kb_ BKgt hb
                  replace BKgy := kb_ BKgy hb
                  replace VX := Aside0.mk (VeX.below VX.out hb)
                  replace HB := bs_ HB hb
                  replace HV := bs_ HV hb
                  (try clear hb)
                  refine hK.out _ _ (c3_ BKgx) (fun hHeld => ?_)
                  clear hK K
                  refine nM_ ?_
                  exact norm_ rfl (hcont (h1, h2, h3, gy, gt) _ ⟨HB.out, HV.out, BKgb.out, BKgx.out, BKgy.out, BKgt.out, GEgy.out, GEgt.out, GVgy.out, GVgt.out, (Ne.symm NEgt_gy.out), NEgb_gy.out, NEgb_gt.out, NEgx_gy.out, NEgx_gt.out, VX.out⟩)
            · refine bs2_ 13 #[.pointer none, .pointer none, .pointer none] 73 ?_
              intro gy hg w10 hbox hb
              have GEgy := ge_ hg HB
              have GVgy := ge_ hg HV
              have NEgb_gy := ne_ hg BKgb
              have NEgx_gy := ne_ hg BKgx
              replace hb := nb_ HB hb
              replace BKgb := kb_ BKgb hb
              replace BKgx := kb_ BKgx hb
              replace HB := bs_ HB hb
              replace HV := bs_ HV hb
              have BKgy := Aside0.mk hbox
              clear hb hbox hg
              refine hK.out _ _ (c3_ BKgx) (fun hHeld => ?_)
              clear hK K
              refine nM_ ?_
              refine twM_ HT_ 1 (some 35) 95 7 (some 14) 221 (fun K hK => ?_) (fun K hK => ?_)
              · refine gM_ Tryz.func36 (vessel_open.calls A1 c1 l1 _ (Kd.C_below HR1.out HB.out) HN1.out) ?_
                rintro e w7 ⟨h1, h2, h3, rfl, s_, hb⟩
                refine ⟨.agg #[.pointer (some ⟨h1, 0, none⟩), .pointer (some ⟨h2, 0, none⟩), .pointer (some ⟨h3, 0, none⟩)], rfl, ?_⟩
                replace hb := nb_ HB hb
                replace BKgb := kb_ BKgb hb
                replace BKgx := kb_ BKgx hb
                replace BKgy := kb_ BKgy hb
                replace HB := bs_ HB hb
                replace HV := bs_ HV hb
                (try clear hb)
                have VX := Aside0.mk s_
                clear s_
                refine hK.out _ _ (c3_ BKgx) (fun hHeld => ?_)
                clear hK K
                refine nM_ ?_
                refine twM_ HT_ 5 (some 39) 127 7 (some 14) 223 (fun K hK => ?_) (fun K hK => ?_)
                · refine gM_ Tryz.func48 (C1.out _ _ _ _ (VE.out.below HV.out)) ?_
                  rintro e w8 ⟨rfl, hb⟩
                  refine ⟨.agg #[.int .i64 (runF (hsO l0) (vsO l0) (dsO l0) a2 a3).w, .int .i64 (runF (hsO l0) (vsO l0) (dsO l0) a2 a3).n, .int .i64 (runF (hsO l0) (vsO l0) (dsO l0) a2 a3).d], rfl, ?_⟩
                  replace hb := nb_ HB hb
                  replace BKgb := kb_ BKgb hb
                  replace BKgx := kb_ BKgx hb
                  replace BKgy := kb_ BKgy hb
                  replace VX := Aside0.mk (VeX.below VX.out hb)
                  replace HB := bs_ HB hb
                  replace HV := bs_ HV hb
                  (try clear hb)
                  refine hK.out _ _ (c3_ BKgx) (fun hHeld => ?_)
                  clear hK K
                  refine nM_ ?_
                  refine oM_ HT_ 7 (some 14) 255 (fun K hK => ?_)
                  refine bs2_ 14 #[.int .i64 0, .int .i64 0, .int .i64 0] 77 ?_
                  intro gt hg w9 hbox hb
                  have VL_ := (VeX.later VX.out hb).mono (P' := fun k => k = gt) (fun k_ hk_ => .inr (by rw [hk_, hg]; exact Nat.le_refl _))
                  have GEgt := ge_ hg HB
                  have GVgt := ge_ hg HV
                  have NEgb_gt := ne_ hg BKgb
                  have NEgx_gt := ne_ hg BKgx
                  have NEgy_gt := ne_ hg BKgy
                  replace hb := nb_ HB hb
                  replace BKgb := kb_ BKgb hb
                  replace BKgx := kb_ BKgx hb
                  replace BKgy := kb_ BKgy hb
                  replace VX := Aside0.mk (VeX.below VX.out hb)
                  replace HB := bs_ HB hb
                  replace HV := bs_ HV hb
                  have BKgt := Aside0.mk hbox
                  clear hb hbox hg
                  clear VX
                  have VX := Aside0.mk VL_
                  clear VL_
                  refine hK.out _ _ (c3_ BKgx) (fun hHeld => ?_)
                  clear hK K
                  refine nM_ ?_
                  exact norm_ rfl (hcont (h1, h2, h3, gy, gt) _ ⟨HB.out, HV.out, BKgb.out, BKgx.out, BKgy.out, BKgt.out, GEgy.out, GEgt.out, GVgy.out, GVgt.out, NEgy_gt.out, NEgb_gy.out, NEgb_gt.out, NEgx_gy.out, NEgx_gt.out, VX.out⟩)
                · refine bs2_ 14 #[.int .i64 0, .int .i64 0, .int .i64 0] 77 ?_
                  intro gt hg w9 hbox hb
                  have VL_ := (VeX.later VX.out hb).mono (P' := fun k => k = gt) (fun k_ hk_ => .inr (by rw [hk_, hg]; exact Nat.le_refl _))
                  have GEgt := ge_ hg HB
                  have GVgt := ge_ hg HV
                  have NEgb_gt := ne_ hg BKgb
                  have NEgx_gt := ne_ hg BKgx
                  have NEgy_gt := ne_ hg BKgy
                  replace hb := nb_ HB hb
                  replace BKgb := kb_ BKgb hb
                  replace BKgx := kb_ BKgx hb
                  replace BKgy := kb_ BKgy hb
                  replace VX := Aside0.mk (VeX.below VX.out hb)
                  replace HB := bs_ HB hb
                  replace HV := bs_ HV hb
                  have BKgt := Aside0.mk hbox
                  clear hb hbox hg
                  clear VX
                  have VX := Aside0.mk VL_
                  clear VL_
                  refine hK.out _ _ (c3_ BKgx) (fun hHeld => ?_)
                  clear hK K
                  refine nM_ ?_
                  refine oM_ HT_ 5 (some 39) 255 (fun K hK => ?_)
                  refine gM_ Tryz.func48 (C1.out _ _ _ _ (VE.out.below HV.out)) ?_
                  rintro e w8 ⟨rfl, hb⟩
                  refine ⟨.agg #[.int .i64 (runF (hsO l0) (vsO l0) (dsO l0) a2 a3).w, .int .i64 (runF (hsO l0) (vsO l0) (dsO l0) a2 a3).n, .int .i64 (runF (hsO l0) (vsO l0) (dsO l0) a2 a3).d], rfl, ?_⟩
                  replace hb := nb_ HB hb
                  replace BKgb := kb_ BKgb hb
                  replace BKgx := kb_ BKgx hb
                  replace BKgy := kb_ BKgy hb
                  replace BKgt := kb_ BKgt hb
                  replace VX := Aside0.mk (VeX.below VX.out hb)
                  replace HB := bs_ HB hb
                  replace HV := bs_ HV hb
                  (try clear hb)
                  refine hK.out _ _ (c3_ BKgx) (fun hHeld => ?_)
                  clear hK K
                  refine nM_ ?_
                  exact norm_ rfl (hcont (h1, h2, h3, gy, gt) _ ⟨HB.out, HV.out, BKgb.out, BKgx.out, BKgy.out, BKgt.out, GEgy.out, GEgt.out, GVgy.out, GVgt.out, NEgy_gt.out, NEgb_gy.out, NEgb_gt.out, NEgx_gy.out, NEgx_gt.out, VX.out⟩)
              · refine bs2_ 14 #[.int .i64 0, .int .i64 0, .int .i64 0] 77 ?_
                intro gt hg w9 hbox hb
                have GEgt := ge_ hg HB
                have GVgt := ge_ hg HV
                have NEgb_gt := ne_ hg BKgb
                have NEgx_gt := ne_ hg BKgx
                have NEgy_gt := ne_ hg BKgy
                replace hb := nb_ HB hb
                replace BKgb := kb_ BKgb hb
                replace BKgx := kb_ BKgx hb
                replace BKgy := kb_ BKgy hb
                replace HB := bs_ HB hb
                replace HV := bs_ HV hb
                have BKgt := Aside0.mk hbox
                clear hb hbox hg
                refine hK.out _ _ (c3_ BKgx) (fun hHeld => ?_)
                clear hK K
                refine nM_ ?_
                refine oM_ HT_ 1 (some 35) 223 (fun K hK => ?_)
                have LT_ := blk_lt BKgt.out
                refine gM_ Tryz.func36 (vessel_open.calls A1 c1 l1 _ (Kd.C_below HR1.out HB.out) HN1.out) ?_
                rintro e w7 ⟨h1, h2, h3, rfl, s_, hb⟩
                refine ⟨.agg #[.pointer (some ⟨h1, 0, none⟩), .pointer (some ⟨h2, 0, none⟩), .pointer (some ⟨h3, 0, none⟩)], rfl, ?_⟩
                replace hb := nb_ HB hb
                replace BKgb := kb_ BKgb hb
                replace BKgx := kb_ BKgx hb
                replace BKgy := kb_ BKgy hb
                replace BKgt := kb_ BKgt hb
                replace HB := bs_ HB hb
                replace HV := bs_ HV hb
                (try clear hb)
                have VX := Aside0.mk (VeX.mono (P' := fun k => k = gt) s_ (fun k_ hk_ => by rw [hk_]; exact LT_))
                clear LT_
                clear s_
                refine hK.out _ _ (c3_ BKgx) (fun hHeld => ?_)
                clear hK K
                refine nM_ ?_
                refine oM_ HT_ 5 (some 39) 255 (fun K hK => ?_)
                refine gM_ Tryz.func48 (C1.out _ _ _ _ (VE.out.below HV.out)) ?_
                rintro e w8 ⟨rfl, hb⟩
                refine ⟨.agg #[.int .i64 (runF (hsO l0) (vsO l0) (dsO l0) a2 a3).w, .int .i64 (runF (hsO l0) (vsO l0) (dsO l0) a2 a3).n, .int .i64 (runF (hsO l0) (vsO l0) (dsO l0) a2 a3).d], rfl, ?_⟩
                replace hb := nb_ HB hb
                replace BKgb := kb_ BKgb hb
                replace BKgx := kb_ BKgx hb
                replace BKgy := kb_ BKgy hb
                replace BKgt := kb_ BKgt hb
                replace VX := Aside0.mk (VeX.below VX.out hb)
                replace HB := bs_ HB hb
                replace HV := bs_ HV hb
                (try clear hb)
                refine hK.out _ _ (c3_ BKgx) (fun hHeld => ?_)
                clear hK K
                refine nM_ ?_
                exact norm_ rfl (hcont (h1, h2, h3, gy, gt) _ ⟨HB.out, HV.out, BKgb.out, BKgx.out, BKgy.out, BKgt.out, GEgy.out, GEgt.out, GVgy.out, GVgt.out, NEgy_gt.out, NEgb_gy.out, NEgb_gt.out, NEgx_gy.out, NEgx_gt.out, VX.out⟩)
            · refine bs2_ 14 #[.int .i64 0, .int .i64 0, .int .i64 0] 77 ?_
              intro gt hg w9 hbox hb
              have GEgt := ge_ hg HB
              have GVgt := ge_ hg HV
              have NEgb_gt := ne_ hg BKgb
              have NEgx_gt := ne_ hg BKgx
              replace hb := nb_ HB hb
              replace BKgb := kb_ BKgb hb
              replace BKgx := kb_ BKgx hb
              replace HB := bs_ HB hb
              replace HV := bs_ HV hb
              have BKgt := Aside0.mk hbox
              clear hb hbox hg
              refine hK.out _ _ (c3_ BKgx) (fun hHeld => ?_)
              clear hK K
              refine nM_ ?_
              refine twM_ HT_ 1 (some 35) 159 6 (some 13) 221 (fun K hK => ?_) (fun K hK => ?_)
              · have LT_ := blk_lt BKgt.out
                refine gM_ Tryz.func36 (vessel_open.calls A1 c1 l1 _ (Kd.C_below HR1.out HB.out) HN1.out) ?_
                rintro e w7 ⟨h1, h2, h3, rfl, s_, hb⟩
                refine ⟨.agg #[.pointer (some ⟨h1, 0, none⟩), .pointer (some ⟨h2, 0, none⟩), .pointer (some ⟨h3, 0, none⟩)], rfl, ?_⟩
                replace hb := nb_ HB hb
                replace BKgb := kb_ BKgb hb
                replace BKgx := kb_ BKgx hb
                replace BKgt := kb_ BKgt hb
                replace HB := bs_ HB hb
                replace HV := bs_ HV hb
                (try clear hb)
                have VX := Aside0.mk (VeX.mono (P' := fun k => k = gt) s_ (fun k_ hk_ => by rw [hk_]; exact LT_))
                clear LT_
                clear s_
                refine hK.out _ _ (c3_ BKgx) (fun hHeld => ?_)
                clear hK K
                refine nM_ ?_
                refine twM_ HT_ 5 (some 39) 191 6 (some 13) 223 (fun K hK => ?_) (fun K hK => ?_)
                · refine gM_ Tryz.func48 (C1.out _ _ _ _ (VE.out.below HV.out)) ?_
                  rintro e w8 ⟨rfl, hb⟩
                  refine ⟨.agg #[.int .i64 (runF (hsO l0) (vsO l0) (dsO l0) a2 a3).w, .int .i64 (runF (hsO l0) (vsO l0) (dsO l0) a2 a3).n, .int .i64 (runF (hsO l0) (vsO l0) (dsO l0) a2 a3).d], rfl, ?_⟩
                  replace hb := nb_ HB hb
                  replace BKgb := kb_ BKgb hb
                  replace BKgx := kb_ BKgx hb
                  replace BKgt := kb_ BKgt hb
                  replace VX := Aside0.mk (VeX.below VX.out hb)
                  replace HB := bs_ HB hb
                  replace HV := bs_ HV hb
                  (try clear hb)
                  refine hK.out _ _ (c3_ BKgx) (fun hHeld => ?_)
                  clear hK K
                  refine nM_ ?_
                  refine oM_ HT_ 6 (some 13) 255 (fun K hK => ?_)
                  refine bs2_ 13 #[.pointer none, .pointer none, .pointer none] 73 ?_
                  intro gy hg w10 hbox hb
                  have GEgy := ge_ hg HB
                  have GVgy := ge_ hg HV
                  have NEgb_gy := ne_ hg BKgb
                  have NEgx_gy := ne_ hg BKgx
                  have NEgt_gy := ne_ hg BKgt
                  replace hb := nb_ HB hb
                  replace BKgb := kb_ BKgb hb
                  replace BKgx := kb_ BKgx hb
                  replace BKgt := kb_ BKgt hb
                  replace VX := Aside0.mk (VeX.below VX.out hb)
                  replace HB := bs_ HB hb
                  replace HV := bs_ HV hb
                  have BKgy := Aside0.mk hbox
                  clear hb hbox hg
                  refine hK.out _ _ (c3_ BKgx) (fun hHeld => ?_)
                  clear hK K
                  refine nM_ ?_
                  exact norm_ rfl (hcont (h1, h2, h3, gy, gt) _ ⟨HB.out, HV.out, BKgb.out, BKgx.out, BKgy.out, BKgt.out, GEgy.out, GEgt.out, GVgy.out, GVgt.out, (Ne.symm NEgt_gy.out), NEgb_gy.out, NEgb_gt.out, NEgx_gy.out, NEgx_gt.out, VX.out⟩)
                · refine bs2_ 13 #[.pointer none, .pointer none, .pointer none] 73 ?_
                  intro gy hg w10 hbox hb
                  have GEgy := ge_ hg HB
                  have GVgy := ge_ hg HV
                  have NEgb_gy := ne_ hg BKgb
                  have NEgx_gy := ne_ hg BKgx
                  have NEgt_gy := ne_ hg BKgt
                  replace hb := nb_ HB hb
                  replace BKgb := kb_ BKgb hb
                  replace BKgx := kb_ BKgx hb
                  replace BKgt := kb_ BKgt hb
                  replace VX := Aside0.mk (VeX.below VX.out hb)
                  replace HB := bs_ HB hb
                  replace HV := bs_ HV hb
                  have BKgy := Aside0.mk hbox
                  clear hb hbox hg
                  refine hK.out _ _ (c3_ BKgx) (fun hHeld => ?_)
                  clear hK K
                  refine nM_ ?_
                  refine oM_ HT_ 5 (some 39) 255 (fun K hK => ?_)
                  refine gM_ Tryz.func48 (C1.out _ _ _ _ (VE.out.below HV.out)) ?_
                  rintro e w8 ⟨rfl, hb⟩
                  refine ⟨.agg #[.int .i64 (runF (hsO l0) (vsO l0) (dsO l0) a2 a3).w, .int .i64 (runF (hsO l0) (vsO l0) (dsO l0) a2 a3).n, .int .i64 (runF (hsO l0) (vsO l0) (dsO l0) a2 a3).d], rfl, ?_⟩
                  replace hb := nb_ HB hb
                  replace BKgb := kb_ BKgb hb
                  replace BKgx := kb_ BKgx hb
                  replace BKgt := kb_ BKgt hb
                  replace BKgy := kb_ BKgy hb
                  replace VX := Aside0.mk (VeX.below VX.out hb)
                  replace HB := bs_ HB hb
                  replace HV := bs_ HV hb
                  (try clear hb)
                  refine hK.out _ _ (c3_ BKgx) (fun hHeld => ?_)
                  clear hK K
                  refine nM_ ?_
                  exact norm_ rfl (hcont (h1, h2, h3, gy, gt) _ ⟨HB.out, HV.out, BKgb.out, BKgx.out, BKgy.out, BKgt.out, GEgy.out, GEgt.out, GVgy.out, GVgt.out, (Ne.symm NEgt_gy.out), NEgb_gy.out, NEgb_gt.out, NEgx_gy.out, NEgx_gt.out, VX.out⟩)
              · refine bs2_ 13 #[.pointer none, .pointer none, .pointer none] 73 ?_
                intro gy hg w10 hbox hb
                have GEgy := ge_ hg HB
                have GVgy := ge_ hg HV
                have NEgb_gy := ne_ hg BKgb
                have NEgx_gy := ne_ hg BKgx
                have NEgt_gy := ne_ hg BKgt
                replace hb := nb_ HB hb
                replace BKgb := kb_ BKgb hb
                replace BKgx := kb_ BKgx hb
                replace BKgt := kb_ BKgt hb
                replace HB := bs_ HB hb
                replace HV := bs_ HV hb
                have BKgy := Aside0.mk hbox
                clear hb hbox hg
                refine hK.out _ _ (c3_ BKgx) (fun hHeld => ?_)
                clear hK K
                refine nM_ ?_
                refine oM_ HT_ 1 (some 35) 223 (fun K hK => ?_)
                have LT_ := blk_lt BKgt.out
                refine gM_ Tryz.func36 (vessel_open.calls A1 c1 l1 _ (Kd.C_below HR1.out HB.out) HN1.out) ?_
                rintro e w7 ⟨h1, h2, h3, rfl, s_, hb⟩
                refine ⟨.agg #[.pointer (some ⟨h1, 0, none⟩), .pointer (some ⟨h2, 0, none⟩), .pointer (some ⟨h3, 0, none⟩)], rfl, ?_⟩
                replace hb := nb_ HB hb
                replace BKgb := kb_ BKgb hb
                replace BKgx := kb_ BKgx hb
                replace BKgt := kb_ BKgt hb
                replace BKgy := kb_ BKgy hb
                replace HB := bs_ HB hb
                replace HV := bs_ HV hb
                (try clear hb)
                have VX := Aside0.mk (VeX.mono (P' := fun k => k = gt) s_ (fun k_ hk_ => by rw [hk_]; exact LT_))
                clear LT_
                clear s_
                refine hK.out _ _ (c3_ BKgx) (fun hHeld => ?_)
                clear hK K
                refine nM_ ?_
                refine oM_ HT_ 5 (some 39) 255 (fun K hK => ?_)
                refine gM_ Tryz.func48 (C1.out _ _ _ _ (VE.out.below HV.out)) ?_
                rintro e w8 ⟨rfl, hb⟩
                refine ⟨.agg #[.int .i64 (runF (hsO l0) (vsO l0) (dsO l0) a2 a3).w, .int .i64 (runF (hsO l0) (vsO l0) (dsO l0) a2 a3).n, .int .i64 (runF (hsO l0) (vsO l0) (dsO l0) a2 a3).d], rfl, ?_⟩
                replace hb := nb_ HB hb
                replace BKgb := kb_ BKgb hb
                replace BKgx := kb_ BKgx hb
                replace BKgt := kb_ BKgt hb
                replace BKgy := kb_ BKgy hb
                replace VX := Aside0.mk (VeX.below VX.out hb)
                replace HB := bs_ HB hb
                replace HV := bs_ HV hb
                (try clear hb)
                refine hK.out _ _ (c3_ BKgx) (fun hHeld => ?_)
                clear hK K
                refine nM_ ?_
                exact norm_ rfl (hcont (h1, h2, h3, gy, gt) _ ⟨HB.out, HV.out, BKgb.out, BKgx.out, BKgy.out, BKgt.out, GEgy.out, GEgt.out, GVgy.out, GVgt.out, (Ne.symm NEgt_gy.out), NEgb_gy.out, NEgb_gt.out, NEgx_gy.out, NEgx_gt.out, VX.out⟩)
      · rw [if_neg ha] at h
        obtain ⟨rfl, rfl, rfl⟩ : (0 : Int) = r1 ∧ (0 : Int) = r2 ∧ (1 : Int) = r3 := by simpa [erS] using h
        clear h
        have HCK : Aside0 (vessel_checked.f 40 [l0, l1] = some 0) := ⟨checked_good hv hu⟩
        have HA : Aside0 (∀ W, Below w.heap.size w W → Calls Tryz.prog 41 #[.slice A0 l0.length c0, .int .i64 a2, .int .i64 a3] W fun e w' => e = .returned (.tuple #[.agg #[.pointer none, .pointer none, .pointer none], .int .i64 1]) ∧ Below W.heap.size W w') := ⟨fun W hB => vessel_asked.arg A0 c0 l0 a2 a3 W (Kd.C_below HR0.out hB) HC0.out hv (fun hh => ha (by rw [Bool.and_eq_true]; exact ⟨lvB_iff.2 hh.1, manyB_iff.2 hh.2⟩))⟩
        go_enter Tryz.func18, Tryz.ntmps18
        go_wp2_with (first | ((with_reducible refine gate_dst (N := 8) rfl ?_); refine bx_ 8 #[.int .i64 0, .int .i64 0] 37 ?_; intro gb hg w1 hbox hb; have GEgb := ge_ hg HB; replace hb := nb_ HB hb; replace HB := bs_ HB hb; have BKgb := Aside0.mk hbox; clear hb hbox hg) | ((with_reducible refine gate_dst (N := 17) rfl ?_); refine lit2_list ?hg (N := 17) ?hd (x := .slice A0 l0.length c0) (y := .slice A1 l1.length c1) (E := 23) ?hr ?_; (case hd => rfl); (case hg => rfl); (case hr => first | (go_simp; done) | (go_simp; rfl)); intro gl hg w1b hbox hb; replace hb := nb_ HB hb; replace BKgb := kb_ BKgb hb; replace HB := bs_ HB hb; have HPL := Aside0.mk (pair_row (Kd.C_below HR0.out HB.out) HC0.out (Kd.C_below HR1.out HB.out) HC1.out hbox); clear hb hbox hg) | ((with_reducible refine gate_callee (f := 54) rfl ?_); refine gL_ (some 18) Tryz.func54 (vessel_checked.calls 40 (some ⟨gl, 0, none⟩) 2 [l0, l1] 0 _ HPL.out (Nat.le_refl 2) HCK.out) ?_; rintro e w2 ⟨rfl, hb⟩; refine ⟨.int .i64 0, rfl, ?_⟩; replace hb := nb_ HB hb; replace BKgb := kb_ BKgb hb; replace HB := bs_ HB hb; clear HPL; clear hb) | ((with_reducible refine gate_callee (f := 41) rfl ?_); refine gL_ (some 27) Tryz.func41 (HA.out _ HB.out) ?_; rintro e w3 ⟨rfl, hb⟩; refine ⟨.tuple #[.agg #[.pointer none, .pointer none, .pointer none], .int .i64 1], rfl, ?_⟩; replace hb := nb_ HB hb; replace BKgb := kb_ BKgb hb; replace HB := bs_ HB hb; clear hb) | ((with_reducible refine gate_dst (N := 11) rfl ?_); refine bx_ 11 #[.pointer none, .pointer none, .pointer none] 73 ?_; intro gx hg w4 hbox hb; have GEgx := ge_ hg HB; have NEgb_gx := ne_ hg BKgb; replace hb := nb_ HB hb; replace BKgb := kb_ BKgb hb; replace HB := bs_ HB hb; have BKgx := Aside0.mk hbox; clear hb hbox hg) | ((with_reducible refine gate_store (t := 73) (p := 11) rfl ?_); have hc_ := cf3_ BKgx; refine st3_ ?_; intro w5 hp_; clear hc_; replace BKgb := pf3_ NEgb_gx BKgb hp_; replace BKgx := pp3_ BKgx hp_; replace HB := pb3_ GEgx HB hp_; clear hp_) | ((with_reducible refine gate_store (t := 37) (p := 8) rfl ?_); have hc_ := cf2_ BKgb; refine st2_ ?_; intro w6 hp_; clear hc_; replace BKgb := pp2_ BKgb hp_; replace BKgx := pf2r_ NEgb_gx BKgx hp_; replace HB := pb2_ GEgb HB hp_; clear hp_))
        try go_wp2
        refine bodyPost_ret (results_ct rfl _ _ gb 37 #[.int .i64 0, .int .i64 0] (0, 0) _ rfl BKgb.out Tryz.underlying37 rfl (by kernel_rfl)) rfl ?_
        exact ⟨rfl, HB.out⟩
    · rw [if_neg hu] at h
      obtain ⟨rfl, rfl, rfl⟩ : (0 : Int) = r1 ∧ (0 : Int) = r2 ∧ (20 : Int) = r3 := by simpa [erS] using h
      clear h
      have HCK : Aside0 (vessel_checked.f 40 [l0, l1] = some 20) := ⟨checked_bad2 hv hu⟩
      go_enter Tryz.func18, Tryz.ntmps18
      go_wp2_with (first | ((with_reducible refine gate_dst (N := 8) rfl ?_); refine bx_ 8 #[.int .i64 0, .int .i64 0] 37 ?_; intro gb hg w1 hbox hb; have GEgb := ge_ hg HB; replace hb := nb_ HB hb; replace HB := bs_ HB hb; have BKgb := Aside0.mk hbox; clear hb hbox hg) | ((with_reducible refine gate_dst (N := 17) rfl ?_); refine lit2_list ?hg (N := 17) ?hd (x := .slice A0 l0.length c0) (y := .slice A1 l1.length c1) (E := 23) ?hr ?_; (case hd => rfl); (case hg => rfl); (case hr => first | (go_simp; done) | (go_simp; rfl)); intro gl hg w1b hbox hb; replace hb := nb_ HB hb; replace BKgb := kb_ BKgb hb; replace HB := bs_ HB hb; have HPL := Aside0.mk (pair_row (Kd.C_below HR0.out HB.out) HC0.out (Kd.C_below HR1.out HB.out) HC1.out hbox); clear hb hbox hg) | ((with_reducible refine gate_callee (f := 54) rfl ?_); refine gL_ (some 18) Tryz.func54 (vessel_checked.calls 40 (some ⟨gl, 0, none⟩) 2 [l0, l1] 20 _ HPL.out (Nat.le_refl 2) HCK.out) ?_; rintro e w2 ⟨rfl, hb⟩; refine ⟨.int .i64 20, rfl, ?_⟩; replace hb := nb_ HB hb; replace BKgb := kb_ BKgb hb; replace HB := bs_ HB hb; clear HPL; clear hb) | ((with_reducible refine gate_store (t := 37) (p := 8) rfl ?_); have hc_ := cf2_ BKgb; refine st2_ ?_; intro w3 hp_; clear hc_; replace BKgb := pp2_ BKgb hp_; replace HB := pb2_ GEgb HB hp_; clear hp_))
      try go_wp2
      refine bodyPost_ret (results_ct rfl _ _ gb 37 #[.int .i64 0, .int .i64 0] (0, 0) _ rfl BKgb.out Tryz.underlying37 rfl (by kernel_rfl)) rfl ?_
      exact ⟨rfl, HB.out⟩
  · rw [if_neg hv] at h
    obtain ⟨rfl, rfl, rfl⟩ : (0 : Int) = r1 ∧ (0 : Int) = r2 ∧ (20 : Int) = r3 := by simpa [erS] using h
    clear h
    have HCK : Aside0 (vessel_checked.f 40 [l0, l1] = some 20) := ⟨checked_bad1 hv⟩
    go_enter Tryz.func18, Tryz.ntmps18
    go_wp2_with (first | ((with_reducible refine gate_dst (N := 8) rfl ?_); refine bx_ 8 #[.int .i64 0, .int .i64 0] 37 ?_; intro gb hg w1 hbox hb; have GEgb := ge_ hg HB; replace hb := nb_ HB hb; replace HB := bs_ HB hb; have BKgb := Aside0.mk hbox; clear hb hbox hg) | ((with_reducible refine gate_dst (N := 17) rfl ?_); refine lit2_list ?hg (N := 17) ?hd (x := .slice A0 l0.length c0) (y := .slice A1 l1.length c1) (E := 23) ?hr ?_; (case hd => rfl); (case hg => rfl); (case hr => first | (go_simp; done) | (go_simp; rfl)); intro gl hg w1b hbox hb; replace hb := nb_ HB hb; replace BKgb := kb_ BKgb hb; replace HB := bs_ HB hb; have HPL := Aside0.mk (pair_row (Kd.C_below HR0.out HB.out) HC0.out (Kd.C_below HR1.out HB.out) HC1.out hbox); clear hb hbox hg) | ((with_reducible refine gate_callee (f := 54) rfl ?_); refine gL_ (some 18) Tryz.func54 (vessel_checked.calls 40 (some ⟨gl, 0, none⟩) 2 [l0, l1] 20 _ HPL.out (Nat.le_refl 2) HCK.out) ?_; rintro e w2 ⟨rfl, hb⟩; refine ⟨.int .i64 20, rfl, ?_⟩; replace hb := nb_ HB hb; replace BKgb := kb_ BKgb hb; replace HB := bs_ HB hb; clear HPL; clear hb) | ((with_reducible refine gate_store (t := 37) (p := 8) rfl ?_); have hc_ := cf2_ BKgb; refine st2_ ?_; intro w3 hp_; clear hc_; replace BKgb := pp2_ BKgb hp_; replace HB := pb2_ GEgb HB hp_; clear hp_))
    try go_wp2
    refine bodyPost_ret (results_ct rfl _ _ gb 37 #[.int .i64 0, .int .i64 0] (0, 0) _ rfl BKgb.out Tryz.underlying37 rfl (by kernel_rfl)) rfl ?_
    exact ⟨rfl, HB.out⟩
end Go.Proofs.YtlhfclpbodfmcaaGreatDoor.Pr
