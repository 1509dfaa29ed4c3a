/- A part of the proof: TqH. -/
import Derived.Test.YtlhfclpbodfmcaaGreatDoorYBTp
import Derived.Outline
import Derived.Test.YtlhfclpbodfmcaaGreatDoorYBPr1
namespace Go.Proofs.YtlhfclpbodfmcaaGreatDoor.Pr
open Go.RowKit Go.Proofs.YtlhfclpbodfmcaaGreatDoorW.PrintWords Go.Proofs.YtlhfclpbodfmcaaGreatDoorW.PrintLast Go.Proofs.YtlhfclpbodfmcaaGreatDoorW.PrintMore
open Go.Proofs.YtlhfclpbodfmcaaGreatDoor.Vm
set_option linter.unusedVariables false
set_option linter.unusedSimpArgs false
def vessel_Received.T7 : Bool × List (List Nat × List Nat) := (true, [([], []), ([], []), ([], []), ([], []), ([2, 3], [2, 3]), ([0, 1, 4, 4], [0, 1, 4]), ([5], [5]), ([6], [6]), ([6], [6]), ([], []), ([9, 7, 5, 0, 1, 2, 3, 4, 5, 6, 7, 9], [7, 9]), ([8, 10, 0, 1, 2, 3, 4, 5, 6, 7, 8, 9, 10], [8])])
def vessel_Received.B7 : List Nat := [0, 0, 0, 0, 12, 31, 63, 127, 127, 0, 767, 2047]
theorem vessel_Received.tab7 : rtab .any (opsOf Tryz.f19 7) = vessel_Received.T7 := by kernel_rfl
theorem vessel_Received.bits7 : waitsOk vessel_Received.T7.2 vessel_Received.B7 = true := by kernel_rfl
def vessel_Received.f (l0 l1 : List S79) (a2 a3 : Int) : Option (Int × Int × Int) := some (ReceivedF l0 l1 a2 a3)
set_option maxHeartbeats 1600000 in
set_option maxRecDepth 100000 in
theorem vessel_Received.calls (A0 : Option Addr) (c0 : Nat) (l0 : List S79) (A1 : Option Addr) (c1 : Nat) (l1 : List S79) (a2 a3 r1 r2 r3 : Int) (w : World) (hr0 : Kd.C k79 w A0 l0.length l0) (hc0 : l0.length ≤ c0) (hr1 : Kd.C k79 w A1 l1.length l1) (hc1 : l1.length ≤ c1) (h : vessel_Received.f l0 l1 a2 a3 = some (r1, r2, r3)) :
    Calls Tryz.prog 19 #[.slice A0 l0.length c0, .slice A1 l1.length c1, .int .i64 a2, .int .i64 a3] w fun e w' => e = .returned (.tuple #[.agg #[.int .i64 r1, .int .i64 r2], .int .i64 r3]) ∧ Below w.heap.size w w' := by
  have hu86 := Tryz.underlying73
  have hu90 := Tryz.underlying77
  have hu27 := Tryz.underlying37
  have HR0 := Aside0.mk hr0
  have HC0 := Aside0.mk hc0
  have HR1 := Aside0.mk hr1
  have HC1 := Aside0.mk hc1
  clear hr0 hc0 hr1 hc1
  replace h : ReceivedF l0 l1 a2 a3 = (r1, r2, r3) := Option.some.inj h
  have HB := Aside0.mk (Below.refl w.heap.size w)
  unfold ReceivedF at h
  by_cases hv : validB l0 = true
  · rw [if_pos hv] at h
    by_cases hu : validB l1 = true
    · rw [if_pos hu] at h
      have hG : GV (hsO l0) (vsO l0) (dsO l0) := valid_GV hv
      have hU : GV (hsO l1) (vsO l1) (dsO l1) := valid_GV hu
      cases ha : lvB l0 a2 with
      | false =>
        rw [ha, Bool.false_and, if_neg (by decide)] at h
        have HCK : Aside0 (vessel_checked.f 40 [l0, l1] = some 0) := ⟨checked_good hv hu⟩
        have HN : Aside0 (l0.length ≤ 900) := ⟨by have := hG.h.ln; rw [List.length_map] at this; omega⟩
        have HN1 : Aside0 (l1.length ≤ 900) := ⟨by have := hU.h.ln; rw [List.length_map] at this; omega⟩
        have C1 : Aside0 (∀ W g1 g2 g3, VeAt W (hsO l0) (vsO l0) (dsO l0) g1 g2 g3 → Calls Tryz.prog 37 #[.agg #[.pointer (some ⟨g1, 0, none⟩), .pointer (some ⟨g2, 0, none⟩), .pointer (some ⟨g3, 0, none⟩)], .int .i64 a2] W fun e w' => e = .returned (.bool false) ∧ Below W.heap.size W w') := ⟨fun W g1 g2 g3 hV => by have hh := vessel_isLevel.calls _ _ _ g1 g2 g3 a2 W hV hG; rwa [show decide (0 ≤ a2 ∧ a2 ≤ sm (hsO l0)) = false from ha] at hh⟩
        obtain ⟨rfl, rfl, rfl⟩ : (0 : Int) = r1 ∧ (0 : Int) = r2 ∧ (1 : Int) = r3 := by simpa [erS] using h
        clear h
        clear hG hU hv hu ha
        go_enter Tryz.func19, Tryz.ntmps19
        go_wp2_with (first | ((with_reducible refine gate_dst (N := 8) rfl ?_); refine bx_ 8 #[.int .i64 0, .int .i64 0] 37 ?_; intro gb hg w1 hbox hb; have GEgb := ge_ hg HB; replace hb := nb_ HB hb; replace HB := bs_ HB hb; have BKgb := Aside0.mk hbox; clear hb hbox hg) | ((with_reducible refine gate_dst (N := 17) rfl ?_); refine lit2_list ?hg (N := 17) ?hd (x := .slice A0 l0.length c0) (y := .slice A1 l1.length c1) (E := 23) ?hr ?_; (case hd => rfl); (case hg => rfl); (case hr => first | (go_simp; done) | (go_simp; rfl)); intro gl hg w1b hbox hb; replace hb := nb_ HB hb; replace BKgb := kb_ BKgb hb; replace HB := bs_ HB hb; have HPL := Aside0.mk (pair_row (Kd.C_below HR0.out HB.out) HC0.out (Kd.C_below HR1.out HB.out) HC1.out hbox); clear hb hbox hg) | ((with_reducible refine gate_callee (f := 54) rfl ?_); refine gL_ (some 18) Tryz.func54 (vessel_checked.calls 40 (some ⟨gl, 0, none⟩) 2 [l0, l1] 0 _ HPL.out (Nat.le_refl 2) HCK.out) ?_; rintro e w2 ⟨rfl, hb⟩; refine ⟨.int .i64 0, rfl, ?_⟩; replace hb := nb_ HB hb; replace BKgb := kb_ BKgb hb; replace HB := bs_ HB hb; clear HPL; clear hb) | ((with_reducible refine gate_callee (f := 36) rfl ?_); refine gL_ (some 24) Tryz.func36 (vessel_open.calls A0 c0 l0 _ (Kd.C_below HR0.out HB.out) HN.out) ?_; rintro e w3 ⟨g1, g2, g3, rfl, s_, hb⟩; refine ⟨.agg #[.pointer (some ⟨g1, 0, none⟩), .pointer (some ⟨g2, 0, none⟩), .pointer (some ⟨g3, 0, none⟩)], rfl, ?_⟩; replace hb := nb_ HB hb; replace BKgb := kb_ BKgb hb; replace HB := bs_ HB hb; have VE := Aside0.mk s_.at_; clear s_; clear hb) | ((with_reducible refine gate_callee (f := 36) rfl ?_); refine gL_ (some 26) Tryz.func36 (vessel_open.calls A1 c1 l1 _ (Kd.C_below HR1.out HB.out) HN1.out) ?_; rintro e w4 ⟨h1, h2, h3, rfl, s_, hb⟩; refine ⟨.agg #[.pointer (some ⟨h1, 0, none⟩), .pointer (some ⟨h2, 0, none⟩), .pointer (some ⟨h3, 0, none⟩)], rfl, ?_⟩; replace hb := nb_ HB hb; replace BKgb := kb_ BKgb hb; replace VE := Aside0.mk (VeAt.below VE.out hb); replace HB := bs_ HB hb; have VU := Aside0.mk s_.at_; clear s_; clear hb) | ((with_reducible refine gate_dst (N := 11) rfl ?_); refine bx_ 11 #[.pointer none, .pointer none, .pointer none] 73 ?_; intro gx hg w5 hbox hb; have GEgx := ge_ hg HB; have NEgb_gx := ne_ hg BKgb; replace hb := nb_ HB hb; replace BKgb := kb_ BKgb hb; replace VE := Aside0.mk (VeAt.below VE.out hb); replace VU := Aside0.mk (VeAt.below VU.out hb); replace HB := bs_ HB hb; have BKgx := Aside0.mk hbox; obtain ⟨Ogx_0, Ogx_1, Ogx_2⟩ := c3_ BKgx; clear hb hbox hg) | ((with_reducible refine gate_dst (N := 12) rfl ?_); refine bx_ 12 #[.pointer none, .pointer none, .pointer none] 73 ?_; intro gy hg w6 hbox hb; have GEgy := ge_ hg HB; have NEgb_gy := ne_ hg BKgb; have NEgx_gy := ne_ hg BKgx; replace hb := nb_ HB hb; replace BKgb := kb_ BKgb hb; replace BKgx := kb_ BKgx hb; replace VE := Aside0.mk (VeAt.below VE.out hb); replace VU := Aside0.mk (VeAt.below VU.out hb); replace HB := bs_ HB hb; clear Ogx_0 Ogx_1 Ogx_2; obtain ⟨Ogx_0, Ogx_1, Ogx_2⟩ := c3_ BKgx; have BKgy := Aside0.mk hbox; clear Ogx_0 Ogx_1 Ogx_2; obtain ⟨Ogx_0, Ogx_1, Ogx_2⟩ := c3_ BKgx; obtain ⟨Ogy_0, Ogy_1, Ogy_2⟩ := c3_ BKgy; clear hb hbox hg) | ((with_reducible refine gate_store (t := 73) (p := 11) rfl ?_); have hc_ := cf3_ BKgx; refine st3_ ?_; intro w7 hp_; clear hc_; clear Ogx_0 Ogx_1 Ogx_2 Ogy_0 Ogy_1 Ogy_2; replace VE : Aside0 (VeAt w7 (hsO l0) (vsO l0) (dsO l0) g1 g2 g3) := ⟨by rw [← hp_.e]; exact VE.out.set3 BKgx.out⟩; replace VU : Aside0 (VeAt w7 (hsO l1) (vsO l1) (dsO l1) h1 h2 h3) := ⟨by rw [← hp_.e]; exact VU.out.set3 BKgx.out⟩; replace BKgb := pf3_ NEgb_gx BKgb hp_; replace BKgx := pp3_ BKgx hp_; replace BKgy := pf3r_ NEgx_gy BKgy hp_; replace HB := pb3_ GEgx HB hp_; clear hp_; obtain ⟨Ogx_0, Ogx_1, Ogx_2⟩ := c3_ BKgx; obtain ⟨Ogy_0, Ogy_1, Ogy_2⟩ := c3_ BKgy) | ((with_reducible refine gate_store (t := 73) (p := 12) rfl ?_); have hc_ := cf3_ BKgy; refine st3_ ?_; intro wv hp_; clear hc_; clear Ogx_0 Ogx_1 Ogx_2 Ogy_0 Ogy_1 Ogy_2; replace VE : Aside0 (VeAt wv (hsO l0) (vsO l0) (dsO l0) g1 g2 g3) := ⟨by rw [← hp_.e]; exact VE.out.set3 BKgy.out⟩; replace VU : Aside0 (VeAt wv (hsO l1) (vsO l1) (dsO l1) h1 h2 h3) := ⟨by rw [← hp_.e]; exact VU.out.set3 BKgy.out⟩; replace BKgb := pf3_ NEgb_gy BKgb hp_; replace BKgx := pf3_ NEgx_gy BKgx hp_; replace BKgy := pp3_ BKgy hp_; replace HB := pb3_ GEgy HB hp_; clear hp_; obtain ⟨Ogx_0, Ogx_1, Ogx_2⟩ := c3_ BKgx; obtain ⟨Ogy_0, Ogy_1, Ogy_2⟩ := c3_ BKgy; have HV := Aside0.mk (Below.refl wv.heap.size wv)))
        refine (C1.out _ _ _ _ (VE.out.below HV.out)).mono ?_
        rintro e w8 ⟨rfl, hb⟩
        replace hb := nb_ HB hb
        replace BKgb := kb_ BKgb hb
        replace BKgx := kb_ BKgx hb
        replace BKgy := kb_ BKgy hb
        replace HB := bs_ HB hb
        replace HV := bs_ HV hb
        clear Ogx_0 Ogx_1 Ogx_2 Ogy_0 Ogy_1 Ogy_2
        obtain ⟨Ogx_0, Ogx_1, Ogx_2⟩ := c3_ BKgx
        obtain ⟨Ogy_0, Ogy_1, Ogy_2⟩ := c3_ BKgy
        clear hb
        go_wp2_with (first | ((with_reducible refine gate_store (t := 37) (p := 8) rfl ?_); have hc_ := cf2_ BKgb; refine st2_ ?_; intro w10 hp_; clear hc_; clear Ogx_0 Ogx_1 Ogx_2 Ogy_0 Ogy_1 Ogy_2; replace BKgb := pp2_ BKgb hp_; replace BKgx := pf2r_ NEgb_gx BKgx hp_; replace BKgy := pf2r_ NEgb_gy BKgy hp_; replace HB := pb2_ GEgb HB hp_; clear HV; clear hp_; obtain ⟨Ogx_0, Ogx_1, Ogx_2⟩ := c3_ BKgx; obtain ⟨Ogy_0, Ogy_1, Ogy_2⟩ := c3_ BKgy))
        try go_wp2
        refine bodyPost_ret (results_ct rfl _ _ gb 37 #[.int .i64 0, .int .i64 0] (0, 0) _ rfl BKgb.out Tryz.underlying37 rfl (by kernel_rfl)) rfl ?_
        exact ⟨rfl, HB.out⟩
      | true =>
        rw [ha, Bool.true_and] at h
        cases hb_ : lvB l1 a3 with
        | false =>
          rw [hb_, if_neg (by decide)] at h
          have HCK : Aside0 (vessel_checked.f 40 [l0, l1] = some 0) := ⟨checked_good hv hu⟩
          have HN : Aside0 (l0.length ≤ 900) := ⟨by have := hG.h.ln; rw [List.length_map] at this; omega⟩
          have HN1 : Aside0 (l1.length ≤ 900) := ⟨by have := hU.h.ln; rw [List.length_map] at this; omega⟩
          have C1 : Aside0 (∀ W g1 g2 g3, VeAt W (hsO l0) (vsO l0) (dsO l0) g1 g2 g3 → Calls Tryz.prog 37 #[.agg #[.pointer (some ⟨g1, 0, none⟩), .pointer (some ⟨g2, 0, none⟩), .pointer (some ⟨g3, 0, none⟩)], .int .i64 a2] W fun e w' => e = .returned (.bool true) ∧ Below W.heap.size W w') := ⟨fun W g1 g2 g3 hV => by have hh := vessel_isLevel.calls _ _ _ g1 g2 g3 a2 W hV hG; rwa [show decide (0 ≤ a2 ∧ a2 ≤ sm (hsO l0)) = true from ha] at hh⟩
          have C2 : Aside0 (∀ W g1 g2 g3, VeAt W (hsO l1) (vsO l1) (dsO l1) g1 g2 g3 → Calls Tryz.prog 37 #[.agg #[.pointer (some ⟨g1, 0, none⟩), .pointer (some ⟨g2, 0, none⟩), .pointer (some ⟨g3, 0, none⟩)], .int .i64 a3] W fun e w' => e = .returned (.bool false) ∧ Below W.heap.size W w') := ⟨fun W g1 g2 g3 hV => by have hh := vessel_isLevel.calls _ _ _ g1 g2 g3 a3 W hV hU; rwa [show decide (0 ≤ a3 ∧ a3 ≤ sm (hsO l1)) = false from hb_] at hh⟩
          obtain ⟨rfl, rfl, rfl⟩ : (0 : Int) = r1 ∧ (0 : Int) = r2 ∧ (1 : Int) = r3 := by simpa [erS] using h
          clear h
          clear hG hU hv hu ha hb_
          go_enter Tryz.func19, Tryz.ntmps19
          go_wp2_with (first | ((with_reducible refine gate_dst (N := 8) rfl ?_); refine bx_ 8 #[.int .i64 0, .int .i64 0] 37 ?_; intro gb hg w1 hbox hb; have GEgb := ge_ hg HB; replace hb := nb_ HB hb; replace HB := bs_ HB hb; have BKgb := Aside0.mk hbox; clear hb hbox hg) | ((with_reducible refine gate_dst (N := 17) rfl ?_); refine lit2_list ?hg (N := 17) ?hd (x := .slice A0 l0.length c0) (y := .slice A1 l1.length c1) (E := 23) ?hr ?_; (case hd => rfl); (case hg => rfl); (case hr => first | (go_simp; done) | (go_simp; rfl)); intro gl hg w1b hbox hb; replace hb := nb_ HB hb; replace BKgb := kb_ BKgb hb; replace HB := bs_ HB hb; have HPL := Aside0.mk (pair_row (Kd.C_below HR0.out HB.out) HC0.out (Kd.C_below HR1.out HB.out) HC1.out hbox); clear hb hbox hg) | ((with_reducible refine gate_callee (f := 54) rfl ?_); refine gL_ (some 18) Tryz.func54 (vessel_checked.calls 40 (some ⟨gl, 0, none⟩) 2 [l0, l1] 0 _ HPL.out (Nat.le_refl 2) HCK.out) ?_; rintro e w2 ⟨rfl, hb⟩; refine ⟨.int .i64 0, rfl, ?_⟩; replace hb := nb_ HB hb; replace BKgb := kb_ BKgb hb; replace HB := bs_ HB hb; clear HPL; clear hb) | ((with_reducible refine gate_callee (f := 36) rfl ?_); refine gL_ (some 24) Tryz.func36 (vessel_open.calls A0 c0 l0 _ (Kd.C_below HR0.out HB.out) HN.out) ?_; rintro e w3 ⟨g1, g2, g3, rfl, s_, hb⟩; refine ⟨.agg #[.pointer (some ⟨g1, 0, none⟩), .pointer (some ⟨g2, 0, none⟩), .pointer (some ⟨g3, 0, none⟩)], rfl, ?_⟩; replace hb := nb_ HB hb; replace BKgb := kb_ BKgb hb; replace HB := bs_ HB hb; have VE := Aside0.mk s_.at_; clear s_; clear hb) | ((with_reducible refine gate_callee (f := 36) rfl ?_); refine gL_ (some 26) Tryz.func36 (vessel_open.calls A1 c1 l1 _ (Kd.C_below HR1.out HB.out) HN1.out) ?_; rintro e w4 ⟨h1, h2, h3, rfl, s_, hb⟩; refine ⟨.agg #[.pointer (some ⟨h1, 0, none⟩), .pointer (some ⟨h2, 0, none⟩), .pointer (some ⟨h3, 0, none⟩)], rfl, ?_⟩; replace hb := nb_ HB hb; replace BKgb := kb_ BKgb hb; replace VE := Aside0.mk (VeAt.below VE.out hb); replace HB := bs_ HB hb; have VU := Aside0.mk s_.at_; clear s_; clear hb) | ((with_reducible refine gate_dst (N := 11) rfl ?_); refine bx_ 11 #[.pointer none, .pointer none, .pointer none] 73 ?_; intro gx hg w5 hbox hb; have GEgx := ge_ hg HB; have NEgb_gx := ne_ hg BKgb; replace hb := nb_ HB hb; replace BKgb := kb_ BKgb hb; replace VE := Aside0.mk (VeAt.below VE.out hb); replace VU := Aside0.mk (VeAt.below VU.out hb); replace HB := bs_ HB hb; have BKgx := Aside0.mk hbox; obtain ⟨Ogx_0, Ogx_1, Ogx_2⟩ := c3_ BKgx; clear hb hbox hg) | ((with_reducible refine gate_dst (N := 12) rfl ?_); refine bx_ 12 #[.pointer none, .pointer none, .pointer none] 73 ?_; intro gy hg w6 hbox hb; have GEgy := ge_ hg HB; have NEgb_gy := ne_ hg BKgb; have NEgx_gy := ne_ hg BKgx; replace hb := nb_ HB hb; replace BKgb := kb_ BKgb hb; replace BKgx := kb_ BKgx hb; replace VE := Aside0.mk (VeAt.below VE.out hb); replace VU := Aside0.mk (VeAt.below VU.out hb); replace HB := bs_ HB hb; clear Ogx_0 Ogx_1 Ogx_2; obtain ⟨Ogx_0, Ogx_1, Ogx_2⟩ := c3_ BKgx; have BKgy := Aside0.mk hbox; clear Ogx_0 Ogx_1 Ogx_2; obtain ⟨Ogx_0, Ogx_1, Ogx_2⟩ := c3_ BKgx; obtain ⟨Ogy_0, Ogy_1, Ogy_2⟩ := c3_ BKgy; clear hb hbox hg) | ((with_reducible refine gate_store (t := 73) (p := 11) rfl ?_); have hc_ := cf3_ BKgx; refine st3_ ?_; intro w7 hp_; clear hc_; clear Ogx_0 Ogx_1 Ogx_2 Ogy_0 Ogy_1 Ogy_2; replace VE : Aside0 (VeAt w7 (hsO l0) (vsO l0) (dsO l0) g1 g2 g3) := ⟨by rw [← hp_.e]; exact VE.out.set3 BKgx.out⟩; replace VU : Aside0 (VeAt w7 (hsO l1) (vsO l1) (dsO l1) h1 h2 h3) := ⟨by rw [← hp_.e]; exact VU.out.set3 BKgx.out⟩; replace BKgb := pf3_ NEgb_gx BKgb hp_; replace BKgx := pp3_ BKgx hp_; replace BKgy := pf3r_ NEgx_gy BKgy hp_; replace HB := pb3_ GEgx HB hp_; clear hp_; obtain ⟨Ogx_0, Ogx_1, Ogx_2⟩ := c3_ BKgx; obtain ⟨Ogy_0, Ogy_1, Ogy_2⟩ := c3_ BKgy) | ((with_reducible refine gate_store (t := 73) (p := 12) rfl ?_); have hc_ := cf3_ BKgy; refine st3_ ?_; intro wv hp_; clear hc_; clear Ogx_0 Ogx_1 Ogx_2 Ogy_0 Ogy_1 Ogy_2; replace VE : Aside0 (VeAt wv (hsO l0) (vsO l0) (dsO l0) g1 g2 g3) := ⟨by rw [← hp_.e]; exact VE.out.set3 BKgy.out⟩; replace VU : Aside0 (VeAt wv (hsO l1) (vsO l1) (dsO l1) h1 h2 h3) := ⟨by rw [← hp_.e]; exact VU.out.set3 BKgy.out⟩; replace BKgb := pf3_ NEgb_gy BKgb hp_; replace BKgx := pf3_ NEgx_gy BKgx hp_; replace BKgy := pp3_ BKgy hp_; replace HB := pb3_ GEgy HB hp_; clear hp_; obtain ⟨Ogx_0, Ogx_1, Ogx_2⟩ := c3_ BKgx; obtain ⟨Ogy_0, Ogy_1, Ogy_2⟩ := c3_ BKgy; have HV := Aside0.mk (Below.refl wv.heap.size wv)))
          refine (C1.out _ _ _ _ (VE.out.below HV.out)).mono ?_
          rintro e w8 ⟨rfl, hb⟩
          replace hb := nb_ HB hb
          replace BKgb := kb_ BKgb hb
          replace BKgx := kb_ BKgx hb
          replace BKgy := kb_ BKgy hb
          replace HB := bs_ HB hb
          replace HV := bs_ HV hb
          clear Ogx_0 Ogx_1 Ogx_2 Ogy_0 Ogy_1 Ogy_2
          obtain ⟨Ogx_0, Ogx_1, Ogx_2⟩ := c3_ BKgx
          obtain ⟨Ogy_0, Ogy_1, Ogy_2⟩ := c3_ BKgy
          clear hb
          go_wp2_with fail
          refine (C2.out _ _ _ _ (VU.out.below HV.out)).mono ?_
          rintro e w9 ⟨rfl, hb⟩
          replace hb := nb_ HB hb
          replace BKgb := kb_ BKgb hb
          replace BKgx := kb_ BKgx hb
          replace BKgy := kb_ BKgy hb
          replace HB := bs_ HB hb
          replace HV := bs_ HV hb
          clear Ogx_0 Ogx_1 Ogx_2 Ogy_0 Ogy_1 Ogy_2
          obtain ⟨Ogx_0, Ogx_1, Ogx_2⟩ := c3_ BKgx
          obtain ⟨Ogy_0, Ogy_1, Ogy_2⟩ := c3_ BKgy
          clear hb
          go_wp2_with (first | ((with_reducible refine gate_store (t := 37) (p := 8) rfl ?_); have hc_ := cf2_ BKgb; refine st2_ ?_; intro w10 hp_; clear hc_; clear Ogx_0 Ogx_1 Ogx_2 Ogy_0 Ogy_1 Ogy_2; replace BKgb := pp2_ BKgb hp_; replace BKgx := pf2r_ NEgb_gx BKgx hp_; replace BKgy := pf2r_ NEgb_gy BKgy hp_; replace HB := pb2_ GEgb HB hp_; clear HV; clear hp_; obtain ⟨Ogx_0, Ogx_1, Ogx_2⟩ := c3_ BKgx; obtain ⟨Ogy_0, Ogy_1, Ogy_2⟩ := c3_ BKgy))
          try go_wp2
          refine bodyPost_ret (results_ct rfl _ _ gb 37 #[.int .i64 0, .int .i64 0] (0, 0) _ rfl BKgb.out Tryz.underlying37 rfl (by kernel_rfl)) rfl ?_
          exact ⟨rfl, HB.out⟩
        | true =>
          rw [hb_, if_pos rfl] at h
          by_cases hab : (untilR (hsO l0) (vsO l0) (dsO l0) a2 (timeF (hsO l1) (vsO l1) a3)).2 = true
          · have HCK : Aside0 (vessel_checked.f 40 [l0, l1] = some 0) := ⟨checked_good hv hu⟩
            have HN : Aside0 (l0.length ≤ 900) := ⟨by have := hG.h.ln; rw [List.length_map] at this; omega⟩
            have HN1 : Aside0 (l1.length ≤ 900) := ⟨by have := hU.h.ln; rw [List.length_map] at this; omega⟩
            have C1 : Aside0 (∀ W g1 g2 g3, VeAt W (hsO l0) (vsO l0) (dsO l0) g1 g2 g3 → Calls Tryz.prog 37 #[.agg #[.pointer (some ⟨g1, 0, none⟩), .pointer (some ⟨g2, 0, none⟩), .pointer (some ⟨g3, 0, none⟩)], .int .i64 a2] W fun e w' => e = .returned (.bool true) ∧ Below W.heap.size W w') := ⟨fun W g1 g2 g3 hV => by have hh := vessel_isLevel.calls _ _ _ g1 g2 g3 a2 W hV hG; rwa [show decide (0 ≤ a2 ∧ a2 ≤ sm (hsO l0)) = true from ha] at hh⟩
            have C2 : Aside0 (∀ W g1 g2 g3, VeAt W (hsO l1) (vsO l1) (dsO l1) g1 g2 g3 → Calls Tryz.prog 37 #[.agg #[.pointer (some ⟨g1, 0, none⟩), .pointer (some ⟨g2, 0, none⟩), .pointer (some ⟨g3, 0, none⟩)], .int .i64 a3] W fun e w' => e = .returned (.bool true) ∧ Below W.heap.size W w') := ⟨fun W g1 g2 g3 hV => by have hh := vessel_isLevel.calls _ _ _ g1 g2 g3 a3 W hV hU; rwa [show decide (0 ≤ a3 ∧ a3 ≤ sm (hsO l1)) = true from hb_] at hh⟩
            have hl := of_decide_eq_true ha
            have hl2 := of_decide_eq_true hb_
            obtain ⟨z1, z2, z3, t2, t3, t4, t5⟩ := timeF_spec hU.h hU.v hU.hv hl2.1 hl2.2
            have hS := hU.sums
            have tw := w_le_v' t2 t5
            rw [if_pos hab] at h
            have hrest : ¬ (restF (hsO l0) (vsO l0) a2 (timeF (hsO l1) (vsO l1) a3)).w < 0 := by intro hn; unfold untilR at hab; rw [if_pos hn] at hab; exact absurd hab (by decide)
            have hX : (untilR (hsO l0) (vsO l0) (dsO l0) a2 (timeF (hsO l1) (vsO l1) a3)).1 = untilF (hsO l0) (vsO l0) (dsO l0) a2 (timeF (hsO l1) (vsO l1) a3) := by unfold untilR; rw [if_neg hrest]
            have hw := until_w hG hl.1 hl.2 t2 t3 t4 (show 0 ≤ (restF (hsO l0) (vsO l0) a2 (timeF (hsO l1) (vsO l1) a3)).w by omega)
            rw [← hX] at hw
            obtain ⟨rfl, rfl, rfl⟩ : (spanF ((untilR (hsO l0) (vsO l0) (dsO l0) a2 (timeF (hsO l1) (vsO l1) a3)).1)).1 = r1 ∧ (spanF ((untilR (hsO l0) (vsO l0) (dsO l0) a2 (timeF (hsO l1) (vsO l1) a3)).1)).2 = r2 ∧ (0 : Int) = r3 := by simpa [okS] using h
            have C7 : Aside0 (∀ W, Calls Tryz.prog 40 #[.agg #[.int .i64 ((untilR (hsO l0) (vsO l0) (dsO l0) a2 (timeF (hsO l1) (vsO l1) a3)).1).w, .int .i64 ((untilR (hsO l0) (vsO l0) (dsO l0) a2 (timeF (hsO l1) (vsO l1) a3)).1).n, .int .i64 ((untilR (hsO l0) (vsO l0) (dsO l0) a2 (timeF (hsO l1) (vsO l1) a3)).1).d]] W fun e w' => e = .returned (.agg #[.int .i64 (spanF ((untilR (hsO l0) (vsO l0) (dsO l0) a2 (timeF (hsO l1) (vsO l1) a3)).1)).1, .int .i64 (spanF ((untilR (hsO l0) (vsO l0) (dsO l0) a2 (timeF (hsO l1) (vsO l1) a3)).1)).2]) ∧ Below W.heap.size W w') := ⟨fun W => span_good ((untilR (hsO l0) (vsO l0) (dsO l0) a2 (timeF (hsO l1) (vsO l1) a3)).1) W (by omega)⟩
            clear hrest hX hw
            have hu2 : (untilR (hsO l0) (vsO l0) (dsO l0) a2 (timeF (hsO l1) (vsO l1) a3)).2 = true := hab
            have C3 : Aside0 (∀ W g1 g2 g3, VeAt W (hsO l1) (vsO l1) (dsO l1) g1 g2 g3 → Calls Tryz.prog 51 #[.agg #[.pointer (some ⟨g1, 0, none⟩), .pointer (some ⟨g2, 0, none⟩), .pointer (some ⟨g3, 0, none⟩)], .int .i64 a3] W fun e w' => e = .returned (.agg #[.int .i64 (timeF (hsO l1) (vsO l1) a3).w, .int .i64 (timeF (hsO l1) (vsO l1) a3).n, .int .i64 (timeF (hsO l1) (vsO l1) a3).d]) ∧ Below W.heap.size W w') := ⟨fun W g1 g2 g3 hV => vessel_content.calls _ _ _ g1 g2 g3 a3 W hV hU hl2.1 hl2.2⟩
            have C4 : Aside0 (∀ W g1 g2 g3, VeAt W (hsO l0) (vsO l0) (dsO l0) g1 g2 g3 → Calls Tryz.prog 49 #[.agg #[.pointer (some ⟨g1, 0, none⟩), .pointer (some ⟨g2, 0, none⟩), .pointer (some ⟨g3, 0, none⟩)], .int .i64 a2, .agg #[.int .i64 (timeF (hsO l1) (vsO l1) a3).w, .int .i64 (timeF (hsO l1) (vsO l1) a3).n, .int .i64 (timeF (hsO l1) (vsO l1) a3).d]] W fun e w' => e = .returned (.tuple #[.agg #[.int .i64 ((untilR (hsO l0) (vsO l0) (dsO l0) a2 (timeF (hsO l1) (vsO l1) a3)).1).w, .int .i64 ((untilR (hsO l0) (vsO l0) (dsO l0) a2 (timeF (hsO l1) (vsO l1) a3)).1).n, .int .i64 ((untilR (hsO l0) (vsO l0) (dsO l0) a2 (timeF (hsO l1) (vsO l1) a3)).1).d], .bool true]) ∧ Below W.heap.size W w') := ⟨fun W g1 g2 g3 hV => by have hh := vessel_until.calls _ _ _ g1 g2 g3 a2 (timeF (hsO l1) (vsO l1) a3) W hV hG hl.1 hl.2 t2 t3 t4 (by omega); rwa [hu2] at hh⟩
            clear h hu2 hab z1 z2 z3 t2 t3 t4 t5 hS tw hl hl2
            generalize hZ : (untilR (hsO l0) (vsO l0) (dsO l0) a2 (timeF (hsO l1) (vsO l1) a3)).1 = zz at *
            clear hZ
            clear hG hU hv hu ha hb_
            go_enter Tryz.func19, Tryz.ntmps19
            go_wp2_with (first | ((with_reducible refine gate_dst (N := 8) rfl ?_); refine bx_ 8 #[.int .i64 0, .int .i64 0] 37 ?_; intro gb hg w1 hbox hb; have GEgb := ge_ hg HB; replace hb := nb_ HB hb; replace HB := bs_ HB hb; have BKgb := Aside0.mk hbox; clear hb hbox hg) | ((with_reducible refine gate_dst (N := 17) rfl ?_); refine lit2_list ?hg (N := 17) ?hd (x := .slice A0 l0.length c0) (y := .slice A1 l1.length c1) (E := 23) ?hr ?_; (case hd => rfl); (case hg => rfl); (case hr => first | (go_simp; done) | (go_simp; rfl)); intro gl hg w1b hbox hb; replace hb := nb_ HB hb; replace BKgb := kb_ BKgb hb; replace HB := bs_ HB hb; have HPL := Aside0.mk (pair_row (Kd.C_below HR0.out HB.out) HC0.out (Kd.C_below HR1.out HB.out) HC1.out hbox); clear hb hbox hg) | ((with_reducible refine gate_callee (f := 54) rfl ?_); refine gL_ (some 18) Tryz.func54 (vessel_checked.calls 40 (some ⟨gl, 0, none⟩) 2 [l0, l1] 0 _ HPL.out (Nat.le_refl 2) HCK.out) ?_; rintro e w2 ⟨rfl, hb⟩; refine ⟨.int .i64 0, rfl, ?_⟩; replace hb := nb_ HB hb; replace BKgb := kb_ BKgb hb; replace HB := bs_ HB hb; clear HPL; clear hb) | ((with_reducible refine gate_callee (f := 36) rfl ?_); refine gL_ (some 24) Tryz.func36 (vessel_open.calls A0 c0 l0 _ (Kd.C_below HR0.out HB.out) HN.out) ?_; rintro e w3 ⟨g1, g2, g3, rfl, s_, hb⟩; refine ⟨.agg #[.pointer (some ⟨g1, 0, none⟩), .pointer (some ⟨g2, 0, none⟩), .pointer (some ⟨g3, 0, none⟩)], rfl, ?_⟩; replace hb := nb_ HB hb; replace BKgb := kb_ BKgb hb; replace HB := bs_ HB hb; have VE := Aside0.mk s_.at_; clear s_; clear hb) | ((with_reducible refine gate_callee (f := 36) rfl ?_); refine gL_ (some 26) Tryz.func36 (vessel_open.calls A1 c1 l1 _ (Kd.C_below HR1.out HB.out) HN1.out) ?_; rintro e w4 ⟨h1, h2, h3, rfl, s_, hb⟩; refine ⟨.agg #[.pointer (some ⟨h1, 0, none⟩), .pointer (some ⟨h2, 0, none⟩), .pointer (some ⟨h3, 0, none⟩)], rfl, ?_⟩; replace hb := nb_ HB hb; replace BKgb := kb_ BKgb hb; replace VE := Aside0.mk (VeAt.below VE.out hb); replace HB := bs_ HB hb; have VU := Aside0.mk s_.at_; clear s_; clear hb) | ((with_reducible refine gate_dst (N := 11) rfl ?_); refine bx_ 11 #[.pointer none, .pointer none, .pointer none] 73 ?_; intro gx hg w5 hbox hb; have GEgx := ge_ hg HB; have NEgb_gx := ne_ hg BKgb; replace hb := nb_ HB hb; replace BKgb := kb_ BKgb hb; replace VE := Aside0.mk (VeAt.below VE.out hb); replace VU := Aside0.mk (VeAt.below VU.out hb); replace HB := bs_ HB hb; have BKgx := Aside0.mk hbox; obtain ⟨Ogx_0, Ogx_1, Ogx_2⟩ := c3_ BKgx; clear hb hbox hg) | ((with_reducible refine gate_dst (N := 12) rfl ?_); refine bx_ 12 #[.pointer none, .pointer none, .pointer none] 73 ?_; intro gy hg w6 hbox hb; have GEgy := ge_ hg HB; have NEgb_gy := ne_ hg BKgb; have NEgx_gy := ne_ hg BKgx; replace hb := nb_ HB hb; replace BKgb := kb_ BKgb hb; replace BKgx := kb_ BKgx hb; replace VE := Aside0.mk (VeAt.below VE.out hb); replace VU := Aside0.mk (VeAt.below VU.out hb); replace HB := bs_ HB hb; clear Ogx_0 Ogx_1 Ogx_2; obtain ⟨Ogx_0, Ogx_1, Ogx_2⟩ := c3_ BKgx; have BKgy := Aside0.mk hbox; clear Ogx_0 Ogx_1 Ogx_2; obtain ⟨Ogx_0, Ogx_1, Ogx_2⟩ := c3_ BKgx; obtain ⟨Ogy_0, Ogy_1, Ogy_2⟩ := c3_ BKgy; clear hb hbox hg) | ((with_reducible refine gate_store (t := 73) (p := 11) rfl ?_); have hc_ := cf3_ BKgx; refine st3_ ?_; intro w7 hp_; clear hc_; clear Ogx_0 Ogx_1 Ogx_2 Ogy_0 Ogy_1 Ogy_2; replace VE : Aside0 (VeAt w7 (hsO l0) (vsO l0) (dsO l0) g1 g2 g3) := ⟨by rw [← hp_.e]; exact VE.out.set3 BKgx.out⟩; replace VU : Aside0 (VeAt w7 (hsO l1) (vsO l1) (dsO l1) h1 h2 h3) := ⟨by rw [← hp_.e]; exact VU.out.set3 BKgx.out⟩; replace BKgb := pf3_ NEgb_gx BKgb hp_; replace BKgx := pp3_ BKgx hp_; replace BKgy := pf3r_ NEgx_gy BKgy hp_; replace HB := pb3_ GEgx HB hp_; clear hp_; obtain ⟨Ogx_0, Ogx_1, Ogx_2⟩ := c3_ BKgx; obtain ⟨Ogy_0, Ogy_1, Ogy_2⟩ := c3_ BKgy) | ((with_reducible refine gate_store (t := 73) (p := 12) rfl ?_); have hc_ := cf3_ BKgy; refine st3_ ?_; intro wv hp_; clear hc_; clear Ogx_0 Ogx_1 Ogx_2 Ogy_0 Ogy_1 Ogy_2; replace VE : Aside0 (VeAt wv (hsO l0) (vsO l0) (dsO l0) g1 g2 g3) := ⟨by rw [← hp_.e]; exact VE.out.set3 BKgy.out⟩; replace VU : Aside0 (VeAt wv (hsO l1) (vsO l1) (dsO l1) h1 h2 h3) := ⟨by rw [← hp_.e]; exact VU.out.set3 BKgy.out⟩; replace BKgb := pf3_ NEgb_gy BKgb hp_; replace BKgx := pf3_ NEgx_gy BKgx hp_; replace BKgy := pp3_ BKgy hp_; replace HB := pb3_ GEgy HB hp_; clear hp_; obtain ⟨Ogx_0, Ogx_1, Ogx_2⟩ := c3_ BKgx; obtain ⟨Ogy_0, Ogy_1, Ogy_2⟩ := c3_ BKgy; have HV := Aside0.mk (Below.refl wv.heap.size wv)))
            refine (C1.out _ _ _ _ (VE.out.below HV.out)).mono ?_
            rintro e w8 ⟨rfl, hb⟩
            replace hb := nb_ HB hb
            replace BKgb := kb_ BKgb hb
            replace BKgx := kb_ BKgx hb
            replace BKgy := kb_ BKgy hb
            replace HB := bs_ HB hb
            replace HV := bs_ HV hb
            clear Ogx_0 Ogx_1 Ogx_2 Ogy_0 Ogy_1 Ogy_2
            obtain ⟨Ogx_0, Ogx_1, Ogx_2⟩ := c3_ BKgx
            obtain ⟨Ogy_0, Ogy_1, Ogy_2⟩ := c3_ BKgy
            clear hb
            go_wp2_with fail
            refine (C2.out _ _ _ _ (VU.out.below HV.out)).mono ?_
            rintro e w9 ⟨rfl, hb⟩
            replace hb := nb_ HB hb
            replace BKgb := kb_ BKgb hb
            replace BKgx := kb_ BKgx hb
            replace BKgy := kb_ BKgy hb
            replace HB := bs_ HB hb
            replace HV := bs_ HV hb
            clear Ogx_0 Ogx_1 Ogx_2 Ogy_0 Ogy_1 Ogy_2
            obtain ⟨Ogx_0, Ogx_1, Ogx_2⟩ := c3_ BKgx
            obtain ⟨Ogy_0, Ogy_1, Ogy_2⟩ := c3_ BKgy
            clear hb
            go_wp2
            clear Ogx_0 Ogx_1 Ogx_2 Ogy_0 Ogy_1 Ogy_2
            replace BKgb := kd_ BKgb
            replace BKgx := kd_ BKgx
            replace BKgy := kd_ BKgy
            replace HB := bd_ HB
            replace HV := bd_ HV
            refine sM_ [10] (fun w' => (w'.cell? ⟨gx, 0, none⟩ = some (.pointer (some ⟨g1, 0, none⟩)) ∧ w'.cell? ⟨gx, 1, none⟩ = some (.pointer (some ⟨g2, 0, none⟩)) ∧ w'.cell? ⟨gx, 2, none⟩ = some (.pointer (some ⟨g3, 0, none⟩))) ∧ (w'.cell? ⟨gy, 0, none⟩ = some (.pointer (some ⟨h1, 0, none⟩)) ∧ w'.cell? ⟨gy, 1, none⟩ = some (.pointer (some ⟨h2, 0, none⟩)) ∧ w'.cell? ⟨gy, 2, none⟩ = some (.pointer (some ⟨h3, 0, none⟩)))) vessel_Received.tab7 vessel_Received.bits7 ⟨c3_ BKgx, c3_ BKgy⟩ (fun hHeld HT_ HW_ => ?_)
            generalize w9.drew = w11 at BKgb BKgx BKgy HB HV hHeld ⊢
            refine pM_ HT_ 1 40 2 ?_
            refine pM_ HT_ 3 42 10 ?_
            refine tM_ HT_ HW_ hHeld 0 39 11 ?_
            refine tM_ HT_ HW_ hHeld 2 41 15 ?_
            refine twM_ HT_ 4 (some 43) 31 9 (some 13) 527 (fun K hK => ?_) (fun K hK => ?_)
            · refine gM_ Tryz.func51 (C3.out _ _ _ _ (VU.out.below HV.out)) ?_
              rintro e w12 ⟨rfl, hb⟩
              refine ⟨.agg #[.int .i64 (timeF (hsO l1) (vsO l1) a3).w, .int .i64 (timeF (hsO l1) (vsO l1) a3).n, .int .i64 (timeF (hsO l1) (vsO l1) a3).d], rfl, ?_⟩
              replace hb := nb_ HB hb
              replace BKgb := kb_ BKgb hb
              replace BKgx := kb_ BKgx hb
              replace BKgy := kb_ BKgy hb
              replace HB := bs_ HB hb
              replace HV := bs_ HV hb
              (try clear hb)
              refine hK.out _ _ ⟨c3_ BKgx, c3_ BKgy⟩ (fun hHeld => ?_)
              clear hK K
              refine nM_ ?_
              refine twM_ HT_ 5 (some 44) 63 9 (some 13) 543 (fun K hK => ?_) (fun K hK => ?_)
              · refine gM_ Tryz.func49 (C4.out _ _ _ _ (VE.out.below HV.out)) ?_
                rintro e w13 ⟨rfl, hb⟩
                refine ⟨.tuple #[.agg #[.int .i64 (zz).w, .int .i64 (zz).n, .int .i64 (zz).d], .bool true], rfl, ?_⟩
                replace hb := nb_ HB hb
                replace BKgb := kb_ BKgb hb
                replace BKgx := kb_ BKgx hb
                replace BKgy := kb_ BKgy hb
                replace HB := bs_ HB hb
                replace HV := bs_ HV hb
                (try clear hb)
                refine hK.out _ _ ⟨c3_ BKgx, c3_ BKgy⟩ (fun hHeld => ?_)
                clear hK K
                refine nM_ ?_
                refine pM_ HT_ 6 38 127 ?_
                refine pM_ HT_ 7 45 255 ?_
                refine pM_ HT_ 8 46 511 ?_
                refine oM_ HT_ 9 (some 13) 1023 (fun K hK => ?_)
                refine bs2_ 13 #[.int .i64 0, .int .i64 0, .int .i64 0] 77 ?_
                intro gt hg w14 hbox hb
                have GEgt := ge_ hg HB
                have GVgt := ge_ hg HV
                have NEgb_gt := ne_ hg BKgb
                have NEgx_gt := ne_ hg BKgx
                have NEgy_gt := ne_ hg BKgy
                replace hb := nb_ HB hb
                replace BKgb := kb_ BKgb hb
                replace BKgx := kb_ BKgx hb
                replace BKgy := kb_ BKgy hb
                replace HB := bs_ HB hb
                replace HV := bs_ HV hb
                have BKgt := Aside0.mk hbox
                clear hb hbox hg
                refine hK.out _ _ ⟨c3_ BKgx, c3_ BKgy⟩ (fun hHeld => ?_)
                clear hK K
                refine nM_ ?_
                refine lM_ HT_ 10 none 2047 (fun K hK => ?_)
                have hc_ := cf3_ BKgt
                refine sk3_ ?_
                intro ws_ hp_
                clear hc_
                refine hK.out _ _ ?_
                clear hK K
                refine pM_ HT_ 11 14 4095 ?_
                refine dM_ HT_ ?_
                replace BKgb := pf3_ NEgb_gt BKgb hp_
                replace BKgx := pf3_ NEgx_gt BKgx hp_
                replace BKgy := pf3_ NEgy_gt BKgy hp_
                replace BKgt := pp3_ BKgt hp_
                replace HB := pb3_ GEgt HB hp_
                replace HV := pb3_ GVgt HV hp_
                clear hp_
                generalize ws_ = w15 at BKgb BKgx BKgy BKgt HB HV ⊢
                clear ws_
                obtain ⟨Ogt_0, Ogt_1, Ogt_2⟩ := c3_ BKgt
                go_wp2_with (first | ((with_reducible refine gate_callee (f := 40) rfl ?_); refine gL_ (some 51) Tryz.func40 (C7.out _) ?_; rintro e w16 ⟨rfl, hb⟩; refine ⟨.agg #[.int .i64 (spanF zz).1, .int .i64 (spanF zz).2], rfl, ?_⟩; replace hb := nb_ HB hb; replace BKgb := kb_ BKgb hb; replace BKgx := kb_ BKgx hb; replace BKgy := kb_ BKgy hb; replace BKgt := kb_ BKgt hb; replace HB := bs_ HB hb; replace HV := bs_ HV hb; clear Ogt_0 Ogt_1 Ogt_2; obtain ⟨Ogt_0, Ogt_1, Ogt_2⟩ := c3_ BKgt; clear hb) | ((with_reducible refine gate_store (t := 37) (p := 8) rfl ?_); have hc_ := cf2_ BKgb; refine st2_ ?_; intro w17 hp_; clear hc_; clear Ogt_0 Ogt_1 Ogt_2; replace BKgb := pp2_ BKgb hp_; replace BKgx := pf2r_ NEgb_gx BKgx hp_; replace BKgy := pf2r_ NEgb_gy BKgy hp_; replace BKgt := pf2r_ NEgb_gt BKgt hp_; replace HB := pb2_ GEgb HB hp_; clear HV; clear hp_; obtain ⟨Ogt_0, Ogt_1, Ogt_2⟩ := c3_ BKgt))
                try go_wp2
                refine bodyPost_ret (results_ct rfl _ _ gb 37 #[.int .i64 (spanF zz).1, .int .i64 (spanF zz).2] (0, 0) _ rfl BKgb.out Tryz.underlying37 rfl (by kernel_rfl)) rfl ?_
                exact ⟨rfl, HB.out⟩
              · refine bs2_ 13 #[.int .i64 0, .int .i64 0, .int .i64 0] 77 ?_
                intro gt hg w14 hbox hb
                have GEgt := ge_ hg HB
                have GVgt := ge_ hg HV
                have NEgb_gt := ne_ hg BKgb
                have NEgx_gt := ne_ hg BKgx
                have NEgy_gt := ne_ hg BKgy
                replace hb := nb_ HB hb
                replace BKgb := kb_ BKgb hb
                replace BKgx := kb_ BKgx hb
                replace BKgy := kb_ BKgy hb
                replace HB := bs_ HB hb
                replace HV := bs_ HV hb
                have BKgt := Aside0.mk hbox
                clear hb hbox hg
                refine hK.out _ _ ⟨c3_ BKgx, c3_ BKgy⟩ (fun hHeld => ?_)
                clear hK K
                refine nM_ ?_
                refine oM_ HT_ 5 (some 44) 575 (fun K hK => ?_)
                refine gM_ Tryz.func49 (C4.out _ _ _ _ (VE.out.below HV.out)) ?_
                rintro e w13 ⟨rfl, hb⟩
                refine ⟨.tuple #[.agg #[.int .i64 (zz).w, .int .i64 (zz).n, .int .i64 (zz).d], .bool true], rfl, ?_⟩
                replace hb := nb_ HB hb
                replace BKgb := kb_ BKgb hb
                replace BKgx := kb_ BKgx hb
                replace BKgy := kb_ BKgy hb
                replace BKgt := kb_ BKgt hb
                replace HB := bs_ HB hb
                replace HV := bs_ HV hb
                (try clear hb)
                refine hK.out _ _ ⟨c3_ BKgx, c3_ BKgy⟩ (fun hHeld => ?_)
                clear hK K
                refine nM_ ?_
                refine pM_ HT_ 6 38 639 ?_
                refine pM_ HT_ 7 45 767 ?_
                refine pM_ HT_ 8 46 1023 ?_
                refine lM_ HT_ 10 none 2047 (fun K hK => ?_)
                have hc_ := cf3_ BKgt
                refine sk3_ ?_
                intro ws_ hp_
                clear hc_
                refine hK.out _ _ ?_
                clear hK K
                refine pM_ HT_ 11 14 4095 ?_
                refine dM_ HT_ ?_
                replace BKgb := pf3_ NEgb_gt BKgb hp_
                replace BKgx := pf3_ NEgx_gt BKgx hp_
                replace BKgy := pf3_ NEgy_gt BKgy hp_
                replace BKgt := pp3_ BKgt hp_
                replace HB := pb3_ GEgt HB hp_
                replace HV := pb3_ GVgt HV hp_
                clear hp_
                generalize ws_ = w15 at BKgb BKgx BKgy BKgt HB HV ⊢
                clear ws_
                obtain ⟨Ogt_0, Ogt_1, Ogt_2⟩ := c3_ BKgt
                go_wp2_with (first | ((with_reducible refine gate_callee (f := 40) rfl ?_); refine gL_ (some 51) Tryz.func40 (C7.out _) ?_; rintro e w16 ⟨rfl, hb⟩; refine ⟨.agg #[.int .i64 (spanF zz).1, .int .i64 (spanF zz).2], rfl, ?_⟩; replace hb := nb_ HB hb; replace BKgb := kb_ BKgb hb; replace BKgx := kb_ BKgx hb; replace BKgy := kb_ BKgy hb; replace BKgt := kb_ BKgt hb; replace HB := bs_ HB hb; replace HV := bs_ HV hb; clear Ogt_0 Ogt_1 Ogt_2; obtain ⟨Ogt_0, Ogt_1, Ogt_2⟩ := c3_ BKgt; clear hb) | ((with_reducible refine gate_store (t := 37) (p := 8) rfl ?_); have hc_ := cf2_ BKgb; refine st2_ ?_; intro w17 hp_; clear hc_; clear Ogt_0 Ogt_1 Ogt_2; replace BKgb := pp2_ BKgb hp_; replace BKgx := pf2r_ NEgb_gx BKgx hp_; replace BKgy := pf2r_ NEgb_gy BKgy hp_; replace BKgt := pf2r_ NEgb_gt BKgt hp_; replace HB := pb2_ GEgb HB hp_; clear HV; clear hp_; obtain ⟨Ogt_0, Ogt_1, Ogt_2⟩ := c3_ BKgt))
                try go_wp2
                refine bodyPost_ret (results_ct rfl _ _ gb 37 #[.int .i64 (spanF zz).1, .int .i64 (spanF zz).2] (0, 0) _ rfl BKgb.out Tryz.underlying37 rfl (by kernel_rfl)) rfl ?_
                exact ⟨rfl, HB.out⟩
            · refine bs2_ 13 #[.int .i64 0, .int .i64 0, .int .i64 0] 77 ?_
              intro gt hg w14 hbox hb
              have GEgt := ge_ hg HB
              have GVgt := ge_ hg HV
              have NEgb_gt := ne_ hg BKgb
              have NEgx_gt := ne_ hg BKgx
              have NEgy_gt := ne_ hg BKgy
              replace hb := nb_ HB hb
              replace BKgb := kb_ BKgb hb
              replace BKgx := kb_ BKgx hb
              replace BKgy := kb_ BKgy hb
              replace HB := bs_ HB hb
              replace HV := bs_ HV hb
              have BKgt := Aside0.mk hbox
              clear hb hbox hg
              refine hK.out _ _ ⟨c3_ BKgx, c3_ BKgy⟩ (fun hHeld => ?_)
              clear hK K
              refine nM_ ?_
              refine oM_ HT_ 4 (some 43) 543 (fun K hK => ?_)
              refine gM_ Tryz.func51 (C3.out _ _ _ _ (VU.out.below HV.out)) ?_
              rintro e w12 ⟨rfl, hb⟩
              refine ⟨.agg #[.int .i64 (timeF (hsO l1) (vsO l1) a3).w, .int .i64 (timeF (hsO l1) (vsO l1) a3).n, .int .i64 (timeF (hsO l1) (vsO l1) a3).d], rfl, ?_⟩
              replace hb := nb_ HB hb
              replace BKgb := kb_ BKgb hb
              replace BKgx := kb_ BKgx hb
              replace BKgy := kb_ BKgy hb
              replace BKgt := kb_ BKgt hb
              replace HB := bs_ HB hb
              replace HV := bs_ HV hb
              (try clear hb)
              refine hK.out _ _ ⟨c3_ BKgx, c3_ BKgy⟩ (fun hHeld => ?_)
              clear hK K
              refine nM_ ?_
              refine oM_ HT_ 5 (some 44) 575 (fun K hK => ?_)
              refine gM_ Tryz.func49 (C4.out _ _ _ _ (VE.out.below HV.out)) ?_
              rintro e w13 ⟨rfl, hb⟩
              refine ⟨.tuple #[.agg #[.int .i64 (zz).w, .int .i64 (zz).n, .int .i64 (zz).d], .bool true], rfl, ?_⟩
              replace hb := nb_ HB hb
              replace BKgb := kb_ BKgb hb
              replace BKgx := kb_ BKgx hb
              replace BKgy := kb_ BKgy hb
              replace BKgt := kb_ BKgt hb
              replace HB := bs_ HB hb
              replace HV := bs_ HV hb
              (try clear hb)
              refine hK.out _ _ ⟨c3_ BKgx, c3_ BKgy⟩ (fun hHeld => ?_)
              clear hK K
              refine nM_ ?_
              refine pM_ HT_ 6 38 639 ?_
              refine pM_ HT_ 7 45 767 ?_
              refine pM_ HT_ 8 46 1023 ?_
              refine lM_ HT_ 10 none 2047 (fun K hK => ?_)
              have hc_ := cf3_ BKgt
              refine sk3_ ?_
              intro ws_ hp_
              clear hc_
              refine hK.out _ _ ?_
              clear hK K
              refine pM_ HT_ 11 14 4095 ?_
              refine dM_ HT_ ?_
              replace BKgb := pf3_ NEgb_gt BKgb hp_
              replace BKgx := pf3_ NEgx_gt BKgx hp_
              replace BKgy := pf3_ NEgy_gt BKgy hp_
              replace BKgt := pp3_ BKgt hp_
              replace HB := pb3_ GEgt HB hp_
              replace HV := pb3_ GVgt HV hp_
              clear hp_
              generalize ws_ = w15 at BKgb BKgx BKgy BKgt HB HV ⊢
              clear ws_
              obtain ⟨Ogt_0, Ogt_1, Ogt_2⟩ := c3_ BKgt
              go_wp2_with (first | ((with_reducible refine gate_callee (f := 40) rfl ?_); refine gL_ (some 51) Tryz.func40 (C7.out _) ?_; rintro e w16 ⟨rfl, hb⟩; refine ⟨.agg #[.int .i64 (spanF zz).1, .int .i64 (spanF zz).2], rfl, ?_⟩; replace hb := nb_ HB hb; replace BKgb := kb_ BKgb hb; replace BKgx := kb_ BKgx hb; replace BKgy := kb_ BKgy hb; replace BKgt := kb_ BKgt hb; replace HB := bs_ HB hb; replace HV := bs_ HV hb; clear Ogt_0 Ogt_1 Ogt_2; obtain ⟨Ogt_0, Ogt_1, Ogt_2⟩ := c3_ BKgt; clear hb) | ((with_reducible refine gate_store (t := 37) (p := 8) rfl ?_); have hc_ := cf2_ BKgb; refine st2_ ?_; intro w17 hp_; clear hc_; clear Ogt_0 Ogt_1 Ogt_2; replace BKgb := pp2_ BKgb hp_; replace BKgx := pf2r_ NEgb_gx BKgx hp_; replace BKgy := pf2r_ NEgb_gy BKgy hp_; replace BKgt := pf2r_ NEgb_gt BKgt hp_; replace HB := pb2_ GEgb HB hp_; clear HV; clear hp_; obtain ⟨Ogt_0, Ogt_1, Ogt_2⟩ := c3_ BKgt))
              try go_wp2
              refine bodyPost_ret (results_ct rfl _ _ gb 37 #[.int .i64 (spanF zz).1, .int .i64 (spanF zz).2] (0, 0) _ rfl BKgb.out Tryz.underlying37 rfl (by kernel_rfl)) rfl ?_
              exact ⟨rfl, HB.out⟩
          · have HCK : Aside0 (vessel_checked.f 40 [l0, l1] = some 0) := ⟨checked_good hv hu⟩
            have HN : Aside0 (l0.length ≤ 900) := ⟨by have := hG.h.ln; rw [List.length_map] at this; omega⟩
            have HN1 : Aside0 (l1.length ≤ 900) := ⟨by have := hU.h.ln; rw [List.length_map] at this; omega⟩
            have C1 : Aside0 (∀ W g1 g2 g3, VeAt W (hsO l0) (vsO l0) (dsO l0) g1 g2 g3 → Calls Tryz.prog 37 #[.agg #[.pointer (some ⟨g1, 0, none⟩), .pointer (some ⟨g2, 0, none⟩), .pointer (some ⟨g3, 0, none⟩)], .int .i64 a2] W fun e w' => e = .returned (.bool true) ∧ Below W.heap.size W w') := ⟨fun W g1 g2 g3 hV => by have hh := vessel_isLevel.calls _ _ _ g1 g2 g3 a2 W hV hG; rwa [show decide (0 ≤ a2 ∧ a2 ≤ sm (hsO l0)) = true from ha] at hh⟩
            have C2 : Aside0 (∀ W g1 g2 g3, VeAt W (hsO l1) (vsO l1) (dsO l1) g1 g2 g3 → Calls Tryz.prog 37 #[.agg #[.pointer (some ⟨g1, 0, none⟩), .pointer (some ⟨g2, 0, none⟩), .pointer (some ⟨g3, 0, none⟩)], .int .i64 a3] W fun e w' => e = .returned (.bool true) ∧ Below W.heap.size W w') := ⟨fun W g1 g2 g3 hV => by have hh := vessel_isLevel.calls _ _ _ g1 g2 g3 a3 W hV hU; rwa [show decide (0 ≤ a3 ∧ a3 ≤ sm (hsO l1)) = true from hb_] at hh⟩
            have hl := of_decide_eq_true ha
            have hl2 := of_decide_eq_true hb_
            obtain ⟨z1, z2, z3, t2, t3, t4, t5⟩ := timeF_spec hU.h hU.v hU.hv hl2.1 hl2.2
            have hS := hU.sums
            have tw := w_le_v' t2 t5
            rw [if_neg hab] at h
            obtain ⟨rfl, rfl, rfl⟩ : (0 : Int) = r1 ∧ (0 : Int) = r2 ∧ (4 : Int) = r3 := by simpa [erS] using h
            have hu2 : (untilR (hsO l0) (vsO l0) (dsO l0) a2 (timeF (hsO l1) (vsO l1) a3)).2 = false := by simpa using hab
            have C3 : Aside0 (∀ W g1 g2 g3, VeAt W (hsO l1) (vsO l1) (dsO l1) g1 g2 g3 → Calls Tryz.prog 51 #[.agg #[.pointer (some ⟨g1, 0, none⟩), .pointer (some ⟨g2, 0, none⟩), .pointer (some ⟨g3, 0, none⟩)], .int .i64 a3] W fun e w' => e = .returned (.agg #[.int .i64 (timeF (hsO l1) (vsO l1) a3).w, .int .i64 (timeF (hsO l1) (vsO l1) a3).n, .int .i64 (timeF (hsO l1) (vsO l1) a3).d]) ∧ Below W.heap.size W w') := ⟨fun W g1 g2 g3 hV => vessel_content.calls _ _ _ g1 g2 g3 a3 W hV hU hl2.1 hl2.2⟩
            have C4 : Aside0 (∀ W g1 g2 g3, VeAt W (hsO l0) (vsO l0) (dsO l0) g1 g2 g3 → Calls Tryz.prog 49 #[.agg #[.pointer (some ⟨g1, 0, none⟩), .pointer (some ⟨g2, 0, none⟩), .pointer (some ⟨g3, 0, none⟩)], .int .i64 a2, .agg #[.int .i64 (timeF (hsO l1) (vsO l1) a3).w, .int .i64 (timeF (hsO l1) (vsO l1) a3).n, .int .i64 (timeF (hsO l1) (vsO l1) a3).d]] W fun e w' => e = .returned (.tuple #[.agg #[.int .i64 ((untilR (hsO l0) (vsO l0) (dsO l0) a2 (timeF (hsO l1) (vsO l1) a3)).1).w, .int .i64 ((untilR (hsO l0) (vsO l0) (dsO l0) a2 (timeF (hsO l1) (vsO l1) a3)).1).n, .int .i64 ((untilR (hsO l0) (vsO l0) (dsO l0) a2 (timeF (hsO l1) (vsO l1) a3)).1).d], .bool false]) ∧ Below W.heap.size W w') := ⟨fun W g1 g2 g3 hV => by have hh := vessel_until.calls _ _ _ g1 g2 g3 a2 (timeF (hsO l1) (vsO l1) a3) W hV hG hl.1 hl.2 t2 t3 t4 (by omega); rwa [hu2] at hh⟩
            clear h hu2 hab z1 z2 z3 t2 t3 t4 t5 hS tw hl hl2
            generalize hZ : (untilR (hsO l0) (vsO l0) (dsO l0) a2 (timeF (hsO l1) (vsO l1) a3)).1 = zz at *
            clear hZ
            clear hG hU hv hu ha hb_
            go_enter Tryz.func19, Tryz.ntmps19
            go_wp2_with (first | ((with_reducible refine gate_dst (N := 8) rfl ?_); refine bx_ 8 #[.int .i64 0, .int .i64 0] 37 ?_; intro gb hg w1 hbox hb; have GEgb := ge_ hg HB; replace hb := nb_ HB hb; replace HB := bs_ HB hb; have BKgb := Aside0.mk hbox; clear hb hbox hg) | ((with_reducible refine gate_dst (N := 17) rfl ?_); refine lit2_list ?hg (N := 17) ?hd (x := .slice A0 l0.length c0) (y := .slice A1 l1.length c1) (E := 23) ?hr ?_; (case hd => rfl); (case hg => rfl); (case hr => first | (go_simp; done) | (go_simp; rfl)); intro gl hg w1b hbox hb; replace hb := nb_ HB hb; replace BKgb := kb_ BKgb hb; replace HB := bs_ HB hb; have HPL := Aside0.mk (pair_row (Kd.C_below HR0.out HB.out) HC0.out (Kd.C_below HR1.out HB.out) HC1.out hbox); clear hb hbox hg) | ((with_reducible refine gate_callee (f := 54) rfl ?_); refine gL_ (some 18) Tryz.func54 (vessel_checked.calls 40 (some ⟨gl, 0, none⟩) 2 [l0, l1] 0 _ HPL.out (Nat.le_refl 2) HCK.out) ?_; rintro e w2 ⟨rfl, hb⟩; refine ⟨.int .i64 0, rfl, ?_⟩; replace hb := nb_ HB hb; replace BKgb := kb_ BKgb hb; replace HB := bs_ HB hb; clear HPL; clear hb) | ((with_reducible refine gate_callee (f := 36) rfl ?_); refine gL_ (some 24) Tryz.func36 (vessel_open.calls A0 c0 l0 _ (Kd.C_below HR0.out HB.out) HN.out) ?_; rintro e w3 ⟨g1, g2, g3, rfl, s_, hb⟩; refine ⟨.agg #[.pointer (some ⟨g1, 0, none⟩), .pointer (some ⟨g2, 0, none⟩), .pointer (some ⟨g3, 0, none⟩)], rfl, ?_⟩; replace hb := nb_ HB hb; replace BKgb := kb_ BKgb hb; replace HB := bs_ HB hb; have VE := Aside0.mk s_.at_; clear s_; clear hb) | ((with_reducible refine gate_callee (f := 36) rfl ?_); refine gL_ (some 26) Tryz.func36 (vessel_open.calls A1 c1 l1 _ (Kd.C_below HR1.out HB.out) HN1.out) ?_; rintro e w4 ⟨h1, h2, h3, rfl, s_, hb⟩; refine ⟨.agg #[.pointer (some ⟨h1, 0, none⟩), .pointer (some ⟨h2, 0, none⟩), .pointer (some ⟨h3, 0, none⟩)], rfl, ?_⟩; replace hb := nb_ HB hb; replace BKgb := kb_ BKgb hb; replace VE := Aside0.mk (VeAt.below VE.out hb); replace HB := bs_ HB hb; have VU := Aside0.mk s_.at_; clear s_; clear hb) | ((with_reducible refine gate_dst (N := 11) rfl ?_); refine bx_ 11 #[.pointer none, .pointer none, .pointer none] 73 ?_; intro gx hg w5 hbox hb; have GEgx := ge_ hg HB; have NEgb_gx := ne_ hg BKgb; replace hb := nb_ HB hb; replace BKgb := kb_ BKgb hb; replace VE := Aside0.mk (VeAt.below VE.out hb); replace VU := Aside0.mk (VeAt.below VU.out hb); replace HB := bs_ HB hb; have BKgx := Aside0.mk hbox; obtain ⟨Ogx_0, Ogx_1, Ogx_2⟩ := c3_ BKgx; clear hb hbox hg) | ((with_reducible refine gate_dst (N := 12) rfl ?_); refine bx_ 12 #[.pointer none, .pointer none, .pointer none] 73 ?_; intro gy hg w6 hbox hb; have GEgy := ge_ hg HB; have NEgb_gy := ne_ hg BKgb; have NEgx_gy := ne_ hg BKgx; replace hb := nb_ HB hb; replace BKgb := kb_ BKgb hb; replace BKgx := kb_ BKgx hb; replace VE := Aside0.mk (VeAt.below VE.out hb); replace VU := Aside0.mk (VeAt.below VU.out hb); replace HB := bs_ HB hb; clear Ogx_0 Ogx_1 Ogx_2; obtain ⟨Ogx_0, Ogx_1, Ogx_2⟩ := c3_ BKgx; have BKgy := Aside0.mk hbox; clear Ogx_0 Ogx_1 Ogx_2; obtain ⟨Ogx_0, Ogx_1, Ogx_2⟩ := c3_ BKgx; obtain ⟨Ogy_0, Ogy_1, Ogy_2⟩ := c3_ BKgy; clear hb hbox hg) | ((with_reducible refine gate_store (t := 73) (p := 11) rfl ?_); have hc_ := cf3_ BKgx; refine st3_ ?_; intro w7 hp_; clear hc_; clear Ogx_0 Ogx_1 Ogx_2 Ogy_0 Ogy_1 Ogy_2; replace VE : Aside0 (VeAt w7 (hsO l0) (vsO l0) (dsO l0) g1 g2 g3) := ⟨by rw [← hp_.e]; exact VE.out.set3 BKgx.out⟩; replace VU : Aside0 (VeAt w7 (hsO l1) (vsO l1) (dsO l1) h1 h2 h3) := ⟨by rw [← hp_.e]; exact VU.out.set3 BKgx.out⟩; replace BKgb := pf3_ NEgb_gx BKgb hp_; replace BKgx := pp3_ BKgx hp_; replace BKgy := pf3r_ NEgx_gy BKgy hp_; replace HB := pb3_ GEgx HB hp_; clear hp_; obtain ⟨Ogx_0, Ogx_1, Ogx_2⟩ := c3_ BKgx; obtain ⟨Ogy_0, Ogy_1, Ogy_2⟩ := c3_ BKgy) | ((with_reducible refine gate_store (t := 73) (p := 12) rfl ?_); have hc_ := cf3_ BKgy; refine st3_ ?_; intro wv hp_; clear hc_; clear Ogx_0 Ogx_1 Ogx_2 Ogy_0 Ogy_1 Ogy_2; replace VE : Aside0 (VeAt wv (hsO l0) (vsO l0) (dsO l0) g1 g2 g3) := ⟨by rw [← hp_.e]; exact VE.out.set3 BKgy.out⟩; replace VU : Aside0 (VeAt wv (hsO l1) (vsO l1) (dsO l1) h1 h2 h3) := ⟨by rw [← hp_.e]; exact VU.out.set3 BKgy.out⟩; replace BKgb := pf3_ NEgb_gy BKgb hp_; replace BKgx := pf3_ NEgx_gy BKgx hp_; replace BKgy := pp3_ BKgy hp_; replace HB := pb3_ GEgy HB hp_; clear hp_; obtain ⟨Ogx_0, Ogx_1, Ogx_2⟩ := c3_ BKgx; obtain ⟨Ogy_0, Ogy_1, Ogy_2⟩ := c3_ BKgy; have HV := Aside0.mk (Below.refl wv.heap.size wv)))
            refine (C1.out _ _ _ _ (VE.out.below HV.out)).mono ?_
            rintro e w8 ⟨rfl, hb⟩
            replace hb := nb_ HB hb
            replace BKgb := kb_ BKgb hb
            replace BKgx := kb_ BKgx hb
            replace BKgy := kb_ BKgy hb
            replace HB := bs_ HB hb
            replace HV := bs_ HV hb
            clear Ogx_0 Ogx_1 Ogx_2 Ogy_0 Ogy_1 Ogy_2
            obtain ⟨Ogx_0, Ogx_1, Ogx_2⟩ := c3_ BKgx
            obtain ⟨Ogy_0, Ogy_1, Ogy_2⟩ := c3_ BKgy
            clear hb
            go_wp2_with fail
            refine (C2.out _ _ _ _ (VU.out.below HV.out)).mono ?_
            rintro e w9 ⟨rfl, hb⟩
            replace hb := nb_ HB hb
            replace BKgb := kb_ BKgb hb
            replace BKgx := kb_ BKgx hb
            replace BKgy := kb_ BKgy hb
            replace HB := bs_ HB hb
            replace HV := bs_ HV hb
            clear Ogx_0 Ogx_1 Ogx_2 Ogy_0 Ogy_1 Ogy_2
            obtain ⟨Ogx_0, Ogx_1, Ogx_2⟩ := c3_ BKgx
            obtain ⟨Ogy_0, Ogy_1, Ogy_2⟩ := c3_ BKgy
            clear hb
            go_wp2
            clear Ogx_0 Ogx_1 Ogx_2 Ogy_0 Ogy_1 Ogy_2
            replace BKgb := kd_ BKgb
            replace BKgx := kd_ BKgx
            replace BKgy := kd_ BKgy
            replace HB := bd_ HB
            replace HV := bd_ HV
            refine sM_ [10] (fun w' => (w'.cell? ⟨gx, 0, none⟩ = some (.pointer (some ⟨g1, 0, none⟩)) ∧ w'.cell? ⟨gx, 1, none⟩ = some (.pointer (some ⟨g2, 0, none⟩)) ∧ w'.cell? ⟨gx, 2, none⟩ = some (.pointer (some ⟨g3, 0, none⟩))) ∧ (w'.cell? ⟨gy, 0, none⟩ = some (.pointer (some ⟨h1, 0, none⟩)) ∧ w'.cell? ⟨gy, 1, none⟩ = some (.pointer (some ⟨h2, 0, none⟩)) ∧ w'.cell? ⟨gy, 2, none⟩ = some (.pointer (some ⟨h3, 0, none⟩)))) vessel_Received.tab7 vessel_Received.bits7 ⟨c3_ BKgx, c3_ BKgy⟩ (fun hHeld HT_ HW_ => ?_)
            generalize w9.drew = w11 at BKgb BKgx BKgy HB HV hHeld ⊢
            refine pM_ HT_ 1 40 2 ?_
            refine pM_ HT_ 3 42 10 ?_
            refine tM_ HT_ HW_ hHeld 0 39 11 ?_
            refine tM_ HT_ HW_ hHeld 2 41 15 ?_
            refine twM_ HT_ 4 (some 43) 31 9 (some 13) 527 (fun K hK => ?_) (fun K hK => ?_)
            · refine gM_ Tryz.func51 (C3.out _ _ _ _ (VU.out.below HV.out)) ?_
              rintro e w12 ⟨rfl, hb⟩
              refine ⟨.agg #[.int .i64 (timeF (hsO l1) (vsO l1) a3).w, .int .i64 (timeF (hsO l1) (vsO l1) a3).n, .int .i64 (timeF (hsO l1) (vsO l1) a3).d], rfl, ?_⟩
              replace hb := nb_ HB hb
              replace BKgb := kb_ BKgb hb
              replace BKgx := kb_ BKgx hb
              replace BKgy := kb_ BKgy hb
              replace HB := bs_ HB hb
              replace HV := bs_ HV hb
              (try clear hb)
              refine hK.out _ _ ⟨c3_ BKgx, c3_ BKgy⟩ (fun hHeld => ?_)
              clear hK K
              refine nM_ ?_
              refine twM_ HT_ 5 (some 44) 63 9 (some 13) 543 (fun K hK => ?_) (fun K hK => ?_)
              · refine gM_ Tryz.func49 (C4.out _ _ _ _ (VE.out.below HV.out)) ?_
                rintro e w13 ⟨rfl, hb⟩
                refine ⟨.tuple #[.agg #[.int .i64 (zz).w, .int .i64 (zz).n, .int .i64 (zz).d], .bool false], rfl, ?_⟩
                replace hb := nb_ HB hb
                replace BKgb := kb_ BKgb hb
                replace BKgx := kb_ BKgx hb
                replace BKgy := kb_ BKgy hb
                replace HB := bs_ HB hb
                replace HV := bs_ HV hb
                (try clear hb)
                refine hK.out _ _ ⟨c3_ BKgx, c3_ BKgy⟩ (fun hHeld => ?_)
                clear hK K
                refine nM_ ?_
                refine pM_ HT_ 6 38 127 ?_
                refine pM_ HT_ 7 45 255 ?_
                refine pM_ HT_ 8 46 511 ?_
                refine oM_ HT_ 9 (some 13) 1023 (fun K hK => ?_)
                refine bs2_ 13 #[.int .i64 0, .int .i64 0, .int .i64 0] 77 ?_
                intro gt hg w14 hbox hb
                have GEgt := ge_ hg HB
                have GVgt := ge_ hg HV
                have NEgb_gt := ne_ hg BKgb
                have NEgx_gt := ne_ hg BKgx
                have NEgy_gt := ne_ hg BKgy
                replace hb := nb_ HB hb
                replace BKgb := kb_ BKgb hb
                replace BKgx := kb_ BKgx hb
                replace BKgy := kb_ BKgy hb
                replace HB := bs_ HB hb
                replace HV := bs_ HV hb
                have BKgt := Aside0.mk hbox
                clear hb hbox hg
                refine hK.out _ _ ⟨c3_ BKgx, c3_ BKgy⟩ (fun hHeld => ?_)
                clear hK K
                refine nM_ ?_
                refine lM_ HT_ 10 none 2047 (fun K hK => ?_)
                have hc_ := cf3_ BKgt
                refine sk3_ ?_
                intro ws_ hp_
                clear hc_
                refine hK.out _ _ ?_
                clear hK K
                refine pM_ HT_ 11 14 4095 ?_
                refine dM_ HT_ ?_
                replace BKgb := pf3_ NEgb_gt BKgb hp_
                replace BKgx := pf3_ NEgx_gt BKgx hp_
                replace BKgy := pf3_ NEgy_gt BKgy hp_
                replace BKgt := pp3_ BKgt hp_
                replace HB := pb3_ GEgt HB hp_
                replace HV := pb3_ GVgt HV hp_
                clear hp_
                generalize ws_ = w15 at BKgb BKgx BKgy BKgt HB HV ⊢
                clear ws_
                obtain ⟨Ogt_0, Ogt_1, Ogt_2⟩ := c3_ BKgt
                go_wp2_with (first | ((with_reducible refine gate_store (t := 37) (p := 8) rfl ?_); have hc_ := cf2_ BKgb; refine st2_ ?_; intro w17 hp_; clear hc_; clear Ogt_0 Ogt_1 Ogt_2; replace BKgb := pp2_ BKgb hp_; replace BKgx := pf2r_ NEgb_gx BKgx hp_; replace BKgy := pf2r_ NEgb_gy BKgy hp_; replace BKgt := pf2r_ NEgb_gt BKgt hp_; replace HB := pb2_ GEgb HB hp_; clear HV; clear hp_; obtain ⟨Ogt_0, Ogt_1, Ogt_2⟩ := c3_ BKgt))
                try go_wp2
                refine bodyPost_ret (results_ct rfl _ _ gb 37 #[.int .i64 0, .int .i64 0] (0, 0) _ rfl BKgb.out Tryz.underlying37 rfl (by kernel_rfl)) rfl ?_
                exact ⟨rfl, HB.out⟩
              · refine bs2_ 13 #[.int .i64 0, .int .i64 0, .int .i64 0] 77 ?_
                intro gt hg w14 hbox hb
                have GEgt := ge_ hg HB
                have GVgt := ge_ hg HV
                have NEgb_gt := ne_ hg BKgb
                have NEgx_gt := ne_ hg BKgx
                have NEgy_gt := ne_ hg BKgy
                replace hb := nb_ HB hb
                replace BKgb := kb_ BKgb hb
                replace BKgx := kb_ BKgx hb
                replace BKgy := kb_ BKgy hb
                replace HB := bs_ HB hb
                replace HV := bs_ HV hb
                have BKgt := Aside0.mk hbox
                clear hb hbox hg
                refine hK.out _ _ ⟨c3_ BKgx, c3_ BKgy⟩ (fun hHeld => ?_)
                clear hK K
                refine nM_ ?_
                refine oM_ HT_ 5 (some 44) 575 (fun K hK => ?_)
                refine gM_ Tryz.func49 (C4.out _ _ _ _ (VE.out.below HV.out)) ?_
                rintro e w13 ⟨rfl, hb⟩
                refine ⟨.tuple #[.agg #[.int .i64 (zz).w, .int .i64 (zz).n, .int .i64 (zz).d], .bool false], rfl, ?_⟩
                replace hb := nb_ HB hb
                replace BKgb := kb_ BKgb hb
                replace BKgx := kb_ BKgx hb
                replace BKgy := kb_ BKgy hb
                replace BKgt := kb_ BKgt hb
                replace HB := bs_ HB hb
                replace HV := bs_ HV hb
                (try clear hb)
                refine hK.out _ _ ⟨c3_ BKgx, c3_ BKgy⟩ (fun hHeld => ?_)
                clear hK K
                refine nM_ ?_
                refine pM_ HT_ 6 38 639 ?_
                refine pM_ HT_ 7 45 767 ?_
                refine pM_ HT_ 8 46 1023 ?_
                refine lM_ HT_ 10 none 2047 (fun K hK => ?_)
                have hc_ := cf3_ BKgt
                refine sk3_ ?_
                intro ws_ hp_
                clear hc_
                refine hK.out _ _ ?_
                clear hK K
                refine pM_ HT_ 11 14 4095 ?_
                refine dM_ HT_ ?_
                replace BKgb := pf3_ NEgb_gt BKgb hp_
                replace BKgx := pf3_ NEgx_gt BKgx hp_
                replace BKgy := pf3_ NEgy_gt BKgy hp_
                replace BKgt := pp3_ BKgt hp_
                replace HB := pb3_ GEgt HB hp_
                replace HV := pb3_ GVgt HV hp_
                clear hp_
                generalize ws_ = w15 at BKgb BKgx BKgy BKgt HB HV ⊢
                clear ws_
                obtain ⟨Ogt_0, Ogt_1, Ogt_2⟩ := c3_ BKgt
                go_wp2_with (first | ((with_reducible refine gate_store (t := 37) (p := 8) rfl ?_); have hc_ := cf2_ BKgb; refine st2_ ?_; intro w17 hp_; clear hc_; clear Ogt_0 Ogt_1 Ogt_2; replace BKgb := pp2_ BKgb hp_; replace BKgx := pf2r_ NEgb_gx BKgx hp_; replace BKgy := pf2r_ NEgb_gy BKgy hp_; replace BKgt := pf2r_ NEgb_gt BKgt hp_; replace HB := pb2_ GEgb HB hp_; clear HV; clear hp_; obtain ⟨Ogt_0, Ogt_1, Ogt_2⟩ := c3_ BKgt))
                try go_wp2
                refine bodyPost_ret (results_ct rfl _ _ gb 37 #[.int .i64 0, .int .i64 0] (0, 0) _ rfl BKgb.out Tryz.underlying37 rfl (by kernel_rfl)) rfl ?_
                exact ⟨rfl, HB.out⟩
            · refine bs2_ 13 #[.int .i64 0, .int .i64 0, .int .i64 0] 77 ?_
              intro gt hg w14 hbox hb
              have GEgt := ge_ hg HB
              have GVgt := ge_ hg HV
              have NEgb_gt := ne_ hg BKgb
              have NEgx_gt := ne_ hg BKgx
              have NEgy_gt := ne_ hg BKgy
              replace hb := nb_ HB hb
              replace BKgb := kb_ BKgb hb
              replace BKgx := kb_ BKgx hb
              replace BKgy := kb_ BKgy hb
              replace HB := bs_ HB hb
              replace HV := bs_ HV hb
              have BKgt := Aside0.mk hbox
              clear hb hbox hg
              refine hK.out _ _ ⟨c3_ BKgx, c3_ BKgy⟩ (fun hHeld => ?_)
              clear hK K
              refine nM_ ?_
              refine oM_ HT_ 4 (some 43) 543 (fun K hK => ?_)
              refine gM_ Tryz.func51 (C3.out _ _ _ _ (VU.out.below HV.out)) ?_
              rintro e w12 ⟨rfl, hb⟩
              refine ⟨.agg #[.int .i64 (timeF (hsO l1) (vsO l1) a3).w, .int .i64 (timeF (hsO l1) (vsO l1) a3).n, .int .i64 (timeF (hsO l1) (vsO l1) a3).d], rfl, ?_⟩
              replace hb := nb_ HB hb
              replace BKgb := kb_ BKgb hb
              replace BKgx := kb_ BKgx hb
              replace BKgy := kb_ BKgy hb
              replace BKgt := kb_ BKgt hb
              replace HB := bs_ HB hb
              replace HV := bs_ HV hb
              (try clear hb)
              refine hK.out _ _ ⟨c3_ BKgx, c3_ BKgy⟩ (fun hHeld => ?_)
              clear hK K
              refine nM_ ?_
              refine oM_ HT_ 5 (some 44) 575 (fun K hK => ?_)
              refine gM_ Tryz.func49 (C4.out _ _ _ _ (VE.out.below HV.out)) ?_
              rintro e w13 ⟨rfl, hb⟩
              refine ⟨.tuple #[.agg #[.int .i64 (zz).w, .int .i64 (zz).n, .int .i64 (zz).d], .bool false], rfl, ?_⟩
              replace hb := nb_ HB hb
              replace BKgb := kb_ BKgb hb
              replace BKgx := kb_ BKgx hb
              replace BKgy := kb_ BKgy hb
              replace BKgt := kb_ BKgt hb
              replace HB := bs_ HB hb
              replace HV := bs_ HV hb
              (try clear hb)
              refine hK.out _ _ ⟨c3_ BKgx, c3_ BKgy⟩ (fun hHeld => ?_)
              clear hK K
              refine nM_ ?_
              refine pM_ HT_ 6 38 639 ?_
              refine pM_ HT_ 7 45 767 ?_
              refine pM_ HT_ 8 46 1023 ?_
              refine lM_ HT_ 10 none 2047 (fun K hK => ?_)
              have hc_ := cf3_ BKgt
              refine sk3_ ?_
              intro ws_ hp_
              clear hc_
              refine hK.out _ _ ?_
              clear hK K
              refine pM_ HT_ 11 14 4095 ?_
              refine dM_ HT_ ?_
              replace BKgb := pf3_ NEgb_gt BKgb hp_
              replace BKgx := pf3_ NEgx_gt BKgx hp_
              replace BKgy := pf3_ NEgy_gt BKgy hp_
              replace BKgt := pp3_ BKgt hp_
              replace HB := pb3_ GEgt HB hp_
              replace HV := pb3_ GVgt HV hp_
              clear hp_
              generalize ws_ = w15 at BKgb BKgx BKgy BKgt HB HV ⊢
              clear ws_
              obtain ⟨Ogt_0, Ogt_1, Ogt_2⟩ := c3_ BKgt
              go_wp2_with (first | ((with_reducible refine gate_store (t := 37) (p := 8) rfl ?_); have hc_ := cf2_ BKgb; refine st2_ ?_; intro w17 hp_; clear hc_; clear Ogt_0 Ogt_1 Ogt_2; replace BKgb := pp2_ BKgb hp_; replace BKgx := pf2r_ NEgb_gx BKgx hp_; replace BKgy := pf2r_ NEgb_gy BKgy hp_; replace BKgt := pf2r_ NEgb_gt BKgt hp_; replace HB := pb2_ GEgb HB hp_; clear HV; clear hp_; obtain ⟨Ogt_0, Ogt_1, Ogt_2⟩ := c3_ BKgt))
              try go_wp2
              refine bodyPost_ret (results_ct rfl _ _ gb 37 #[.int .i64 0, .int .i64 0] (0, 0) _ rfl BKgb.out Tryz.underlying37 rfl (by kernel_rfl)) rfl ?_
              exact ⟨rfl, HB.out⟩
    · rw [if_neg hu] at h
      obtain ⟨rfl, rfl, rfl⟩ : (0 : Int) = r1 ∧ (0 : Int) = r2 ∧ (20 : Int) = r3 := by simpa [erS] using h
      clear h
      have HCK : Aside0 (vessel_checked.f 40 [l0, l1] = some 20) := ⟨checked_bad2 hv hu⟩
      go_enter Tryz.func19, Tryz.ntmps19
      go_wp2_with (first | ((with_reducible refine gate_dst (N := 8) rfl ?_); refine bx_ 8 #[.int .i64 0, .int .i64 0] 37 ?_; intro gb hg w1 hbox hb; have GEgb := ge_ hg HB; replace hb := nb_ HB hb; replace HB := bs_ HB hb; have BKgb := Aside0.mk hbox; clear hb hbox hg) | ((with_reducible refine gate_dst (N := 17) rfl ?_); refine lit2_list ?hg (N := 17) ?hd (x := .slice A0 l0.length c0) (y := .slice A1 l1.length c1) (E := 23) ?hr ?_; (case hd => rfl); (case hg => rfl); (case hr => first | (go_simp; done) | (go_simp; rfl)); intro gl hg w1b hbox hb; replace hb := nb_ HB hb; replace BKgb := kb_ BKgb hb; replace HB := bs_ HB hb; have HPL := Aside0.mk (pair_row (Kd.C_below HR0.out HB.out) HC0.out (Kd.C_below HR1.out HB.out) HC1.out hbox); clear hb hbox hg) | ((with_reducible refine gate_callee (f := 54) rfl ?_); refine gL_ (some 18) Tryz.func54 (vessel_checked.calls 40 (some ⟨gl, 0, none⟩) 2 [l0, l1] 20 _ HPL.out (Nat.le_refl 2) HCK.out) ?_; rintro e w2 ⟨rfl, hb⟩; refine ⟨.int .i64 20, rfl, ?_⟩; replace hb := nb_ HB hb; replace BKgb := kb_ BKgb hb; replace HB := bs_ HB hb; clear HPL; clear hb) | ((with_reducible refine gate_store (t := 37) (p := 8) rfl ?_); have hc_ := cf2_ BKgb; refine st2_ ?_; intro w3 hp_; clear hc_; replace BKgb := pp2_ BKgb hp_; replace HB := pb2_ GEgb HB hp_; clear hp_))
      try go_wp2
      refine bodyPost_ret (results_ct rfl _ _ gb 37 #[.int .i64 0, .int .i64 0] (0, 0) _ rfl BKgb.out Tryz.underlying37 rfl (by kernel_rfl)) rfl ?_
      exact ⟨rfl, HB.out⟩
  · rw [if_neg hv] at h
    obtain ⟨rfl, rfl, rfl⟩ : (0 : Int) = r1 ∧ (0 : Int) = r2 ∧ (20 : Int) = r3 := by simpa [erS] using h
    clear h
    have HCK : Aside0 (vessel_checked.f 40 [l0, l1] = some 20) := ⟨checked_bad1 hv⟩
    go_enter Tryz.func19, Tryz.ntmps19
    go_wp2_with (first | ((with_reducible refine gate_dst (N := 8) rfl ?_); refine bx_ 8 #[.int .i64 0, .int .i64 0] 37 ?_; intro gb hg w1 hbox hb; have GEgb := ge_ hg HB; replace hb := nb_ HB hb; replace HB := bs_ HB hb; have BKgb := Aside0.mk hbox; clear hb hbox hg) | ((with_reducible refine gate_dst (N := 17) rfl ?_); refine lit2_list ?hg (N := 17) ?hd (x := .slice A0 l0.length c0) (y := .slice A1 l1.length c1) (E := 23) ?hr ?_; (case hd => rfl); (case hg => rfl); (case hr => first | (go_simp; done) | (go_simp; rfl)); intro gl hg w1b hbox hb; replace hb := nb_ HB hb; replace BKgb := kb_ BKgb hb; replace HB := bs_ HB hb; have HPL := Aside0.mk (pair_row (Kd.C_below HR0.out HB.out) HC0.out (Kd.C_below HR1.out HB.out) HC1.out hbox); clear hb hbox hg) | ((with_reducible refine gate_callee (f := 54) rfl ?_); refine gL_ (some 18) Tryz.func54 (vessel_checked.calls 40 (some ⟨gl, 0, none⟩) 2 [l0, l1] 20 _ HPL.out (Nat.le_refl 2) HCK.out) ?_; rintro e w2 ⟨rfl, hb⟩; refine ⟨.int .i64 20, rfl, ?_⟩; replace hb := nb_ HB hb; replace BKgb := kb_ BKgb hb; replace HB := bs_ HB hb; clear HPL; clear hb) | ((with_reducible refine gate_store (t := 37) (p := 8) rfl ?_); have hc_ := cf2_ BKgb; refine st2_ ?_; intro w3 hp_; clear hc_; replace BKgb := pp2_ BKgb hp_; replace HB := pb2_ GEgb HB hp_; clear hp_))
    try go_wp2
    refine bodyPost_ret (results_ct rfl _ _ gb 37 #[.int .i64 0, .int .i64 0] (0, 0) _ rfl BKgb.out Tryz.underlying37 rfl (by kernel_rfl)) rfl ?_
    exact ⟨rfl, HB.out⟩
end Go.Proofs.YtlhfclpbodfmcaaGreatDoor.Pr
