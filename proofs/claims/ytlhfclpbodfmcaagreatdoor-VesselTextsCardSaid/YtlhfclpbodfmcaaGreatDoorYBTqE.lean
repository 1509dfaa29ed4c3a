/- A part of the proof: TqE. -/
import Derived.Test.YtlhfclpbodfmcaaGreatDoorYBTp
import Derived.Outline
namespace Go.Proofs.YtlhfclpbodfmcaaGreatDoor.Pr
open Go.RowKit Go.Proofs.YtlhfclpbodfmcaaGreatDoorW.PrintWords Go.Proofs.YtlhfclpbodfmcaaGreatDoorW.PrintLast Go.Proofs.YtlhfclpbodfmcaaGreatDoorW.PrintMore
open Go.Proofs.YtlhfclpbodfmcaaGreatDoor.Vm
set_option linter.unusedVariables false
set_option linter.unusedSimpArgs false
def vessel_Sinking.T9 : Bool × List (List Nat × List Nat) := (true, [([], []), ([], []), ([0, 1], [0, 1]), ([], []), ([], []), ([3, 4, 2], [3, 4]), ([2, 5, 5], [2, 5]), ([6, 6], [6]), ([7, 7, 0, 1, 2, 3, 4, 5, 6, 7], [7]), ([8, 0, 1, 2, 3, 4, 5, 6, 7, 8], [])])
def vessel_Sinking.B9 : List Nat := [0, 0, 3, 0, 0, 31, 63, 127, 255, 511]
theorem vessel_Sinking.tab9 : rtab .any (opsOf Tryz.f12 9) = vessel_Sinking.T9 := by kernel_rfl
theorem vessel_Sinking.bits9 : waitsOk vessel_Sinking.T9.2 vessel_Sinking.B9 = true := by kernel_rfl
def vessel_Sinking.f (l0 : List S79) (a1 a2 : Int) : Option (Int × Int × Int) := some (SinkingF l0 a1 a2)
set_option maxHeartbeats 1600000 in
set_option maxRecDepth 100000 in
theorem vessel_Sinking.calls (A0 : Option Addr) (c0 : Nat) (l0 : List S79) (a1 a2 r1 r2 r3 : Int) (w : World) (hr0 : Kd.C k79 w A0 l0.length l0) (hc0 : l0.length ≤ c0) (h : vessel_Sinking.f l0 a1 a2 = some (r1, r2, r3)) :
    Calls Tryz.prog 12 #[.slice A0 l0.length c0, .int .i64 a1, .int .i64 a2] w fun e w' => e = .returned (.tuple #[.agg #[.int .i64 r1, .int .i64 r2], .int .i64 r3]) ∧ Below w.heap.size w w' := by
  have hu86 := Tryz.underlying73
  have hu90 := Tryz.underlying77
  have hu27 := Tryz.underlying37
  have HR0 := Aside0.mk hr0
  have HC0 := Aside0.mk hc0
  clear hr0 hc0
  replace h : SinkingF l0 a1 a2 = (r1, r2, r3) := Option.some.inj h
  have HB := Aside0.mk (Below.refl w.heap.size w)
  unfold SinkingF at h
  by_cases hv : validB l0 = true
  · rw [if_pos hv] at h
    have hG : GV (hsO l0) (vsO l0) (dsO l0) := valid_GV hv
    have HK : Aside0 (vessel_Check.f 30 l0 = some 0) := ⟨by rw [vCheck]; unfold checkF; rw [hv]; rfl⟩
    have HN : Aside0 (l0.length ≤ 900) := ⟨by have := hG.h.ln; rw [List.length_map] at this; omega⟩
    cases ha : lvB l0 a1 with
    | false =>
      rw [ha, Bool.false_and, if_neg (by decide)] at h
      have C1 : Aside0 (∀ W g1 g2 g3, VeAt W (hsO l0) (vsO l0) (dsO l0) g1 g2 g3 → Calls Tryz.prog 37 #[.agg #[.pointer (some ⟨g1, 0, none⟩), .pointer (some ⟨g2, 0, none⟩), .pointer (some ⟨g3, 0, none⟩)], .int .i64 a1] W fun e w' => e = .returned (.bool false) ∧ Below W.heap.size W w') := ⟨fun W g1 g2 g3 hV => by have hh := vessel_isLevel.calls _ _ _ g1 g2 g3 a1 W hV hG; rwa [show decide (0 ≤ a1 ∧ a1 ≤ sm (hsO l0)) = false from ha] at hh⟩
      obtain ⟨rfl, rfl, rfl⟩ : (0 : Int) = r1 ∧ (0 : Int) = r2 ∧ (1 : Int) = r3 := by simpa [erS] using h
      clear h
      clear hG hv ha
      go_enter Tryz.func12, Tryz.ntmps12
      go_wp2_with (first | ((with_reducible refine gate_dst (N := 6) rfl ?_); refine bx_ 6 #[.int .i64 0, .int .i64 0] 37 ?_; intro gb hg w1 hbox hb; have GEgb := ge_ hg HB; replace hb := nb_ HB hb; replace HB := bs_ HB hb; have BKgb := Aside0.mk hbox; clear hb hbox hg) | ((with_reducible refine gate_callee (f := 26) rfl ?_); refine gL_ (some 11) Tryz.func26 (vessel_Check.calls 30 A0 c0 l0 0 _ (Kd.C_below HR0.out HB.out) HC0.out HK.out) ?_; rintro e w1b ⟨rfl, hb⟩; refine ⟨.int .i64 0, rfl, ?_⟩; replace hb := nb_ HB hb; replace BKgb := kb_ BKgb hb; replace HB := bs_ HB hb; clear hb) | ((with_reducible refine gate_callee (f := 36) rfl ?_); refine gL_ (some 17) Tryz.func36 (vessel_open.calls A0 c0 l0 _ (Kd.C_below HR0.out HB.out) HN.out) ?_; rintro e w2 ⟨g1, g2, g3, rfl, s_, hb⟩; refine ⟨.agg #[.pointer (some ⟨g1, 0, none⟩), .pointer (some ⟨g2, 0, none⟩), .pointer (some ⟨g3, 0, none⟩)], rfl, ?_⟩; replace hb := nb_ HB hb; replace BKgb := kb_ BKgb hb; replace HB := bs_ HB hb; have VE := Aside0.mk s_.at_; clear s_; clear hb) | ((with_reducible refine gate_dst (N := 9) rfl ?_); refine bx_ 9 #[.pointer none, .pointer none, .pointer none] 73 ?_; intro gx hg w3 hbox hb; have GEgx := ge_ hg HB; have NEgb_gx := ne_ hg BKgb; replace hb := nb_ HB hb; replace BKgb := kb_ BKgb hb; replace VE := Aside0.mk (VeAt.below VE.out hb); replace HB := bs_ HB hb; have BKgx := Aside0.mk hbox; obtain ⟨Ogx_0, Ogx_1, Ogx_2⟩ := c3_ BKgx; clear hb hbox hg) | ((with_reducible refine gate_store (t := 73) (p := 9) rfl ?_); have hc_ := cf3_ BKgx; refine st3_ ?_; intro wv hp_; clear hc_; clear Ogx_0 Ogx_1 Ogx_2; replace VE : Aside0 (VeAt wv (hsO l0) (vsO l0) (dsO l0) g1 g2 g3) := ⟨by rw [← hp_.e]; exact VE.out.set3 BKgx.out⟩; replace BKgb := pf3_ NEgb_gx BKgb hp_; replace BKgx := pp3_ BKgx hp_; replace HB := pb3_ GEgx HB hp_; clear hp_; obtain ⟨Ogx_0, Ogx_1, Ogx_2⟩ := c3_ BKgx; have HV := Aside0.mk (Below.refl wv.heap.size wv)))
      refine (C1.out _ _ _ _ (VE.out.below HV.out)).mono ?_
      rintro e w5 ⟨rfl, hb⟩
      replace hb := nb_ HB hb
      replace BKgb := kb_ BKgb hb
      replace BKgx := kb_ BKgx hb
      replace HB := bs_ HB hb
      replace HV := bs_ HV hb
      clear Ogx_0 Ogx_1 Ogx_2
      obtain ⟨Ogx_0, Ogx_1, Ogx_2⟩ := c3_ BKgx
      clear hb
      go_wp2_with (first | ((with_reducible refine gate_store (t := 37) (p := 6) rfl ?_); have hc_ := cf2_ BKgb; refine st2_ ?_; intro w7 hp_; clear hc_; clear Ogx_0 Ogx_1 Ogx_2; replace BKgb := pp2_ BKgb hp_; replace BKgx := pf2r_ NEgb_gx BKgx hp_; replace HB := pb2_ GEgb HB hp_; clear HV; clear hp_; obtain ⟨Ogx_0, Ogx_1, Ogx_2⟩ := c3_ BKgx))
      try go_wp2
      refine bodyPost_ret (results_ct rfl _ _ gb 37 #[.int .i64 0, .int .i64 0] (0, 0) _ rfl BKgb.out Tryz.underlying37 rfl (by kernel_rfl)) rfl ?_
      exact ⟨rfl, HB.out⟩
    | true =>
      rw [ha, Bool.true_and] at h
      cases hb_ : lvB l0 a2 with
      | false =>
        rw [hb_, if_neg (by decide)] at h
        have C1 : Aside0 (∀ W g1 g2 g3, VeAt W (hsO l0) (vsO l0) (dsO l0) g1 g2 g3 → Calls Tryz.prog 37 #[.agg #[.pointer (some ⟨g1, 0, none⟩), .pointer (some ⟨g2, 0, none⟩), .pointer (some ⟨g3, 0, none⟩)], .int .i64 a1] W fun e w' => e = .returned (.bool true) ∧ Below W.heap.size W w') := ⟨fun W g1 g2 g3 hV => by have hh := vessel_isLevel.calls _ _ _ g1 g2 g3 a1 W hV hG; rwa [show decide (0 ≤ a1 ∧ a1 ≤ sm (hsO l0)) = true from ha] at hh⟩
        have C2 : Aside0 (∀ W g1 g2 g3, VeAt W (hsO l0) (vsO l0) (dsO l0) g1 g2 g3 → Calls Tryz.prog 37 #[.agg #[.pointer (some ⟨g1, 0, none⟩), .pointer (some ⟨g2, 0, none⟩), .pointer (some ⟨g3, 0, none⟩)], .int .i64 a2] W fun e w' => e = .returned (.bool false) ∧ Below W.heap.size W w') := ⟨fun W g1 g2 g3 hV => by have hh := vessel_isLevel.calls _ _ _ g1 g2 g3 a2 W hV hG; rwa [show decide (0 ≤ a2 ∧ a2 ≤ sm (hsO l0)) = false from hb_] at hh⟩
        obtain ⟨rfl, rfl, rfl⟩ : (0 : Int) = r1 ∧ (0 : Int) = r2 ∧ (1 : Int) = r3 := by simpa [erS] using h
        clear h
        clear hG hv ha hb_
        go_enter Tryz.func12, Tryz.ntmps12
        go_wp2_with (first | ((with_reducible refine gate_dst (N := 6) rfl ?_); refine bx_ 6 #[.int .i64 0, .int .i64 0] 37 ?_; intro gb hg w1 hbox hb; have GEgb := ge_ hg HB; replace hb := nb_ HB hb; replace HB := bs_ HB hb; have BKgb := Aside0.mk hbox; clear hb hbox hg) | ((with_reducible refine gate_callee (f := 26) rfl ?_); refine gL_ (some 11) Tryz.func26 (vessel_Check.calls 30 A0 c0 l0 0 _ (Kd.C_below HR0.out HB.out) HC0.out HK.out) ?_; rintro e w1b ⟨rfl, hb⟩; refine ⟨.int .i64 0, rfl, ?_⟩; replace hb := nb_ HB hb; replace BKgb := kb_ BKgb hb; replace HB := bs_ HB hb; clear hb) | ((with_reducible refine gate_callee (f := 36) rfl ?_); refine gL_ (some 17) Tryz.func36 (vessel_open.calls A0 c0 l0 _ (Kd.C_below HR0.out HB.out) HN.out) ?_; rintro e w2 ⟨g1, g2, g3, rfl, s_, hb⟩; refine ⟨.agg #[.pointer (some ⟨g1, 0, none⟩), .pointer (some ⟨g2, 0, none⟩), .pointer (some ⟨g3, 0, none⟩)], rfl, ?_⟩; replace hb := nb_ HB hb; replace BKgb := kb_ BKgb hb; replace HB := bs_ HB hb; have VE := Aside0.mk s_.at_; clear s_; clear hb) | ((with_reducible refine gate_dst (N := 9) rfl ?_); refine bx_ 9 #[.pointer none, .pointer none, .pointer none] 73 ?_; intro gx hg w3 hbox hb; have GEgx := ge_ hg HB; have NEgb_gx := ne_ hg BKgb; replace hb := nb_ HB hb; replace BKgb := kb_ BKgb hb; replace VE := Aside0.mk (VeAt.below VE.out hb); replace HB := bs_ HB hb; have BKgx := Aside0.mk hbox; obtain ⟨Ogx_0, Ogx_1, Ogx_2⟩ := c3_ BKgx; clear hb hbox hg) | ((with_reducible refine gate_store (t := 73) (p := 9) rfl ?_); have hc_ := cf3_ BKgx; refine st3_ ?_; intro wv hp_; clear hc_; clear Ogx_0 Ogx_1 Ogx_2; replace VE : Aside0 (VeAt wv (hsO l0) (vsO l0) (dsO l0) g1 g2 g3) := ⟨by rw [← hp_.e]; exact VE.out.set3 BKgx.out⟩; replace BKgb := pf3_ NEgb_gx BKgb hp_; replace BKgx := pp3_ BKgx hp_; replace HB := pb3_ GEgx HB hp_; clear hp_; obtain ⟨Ogx_0, Ogx_1, Ogx_2⟩ := c3_ BKgx; have HV := Aside0.mk (Below.refl wv.heap.size wv)))
        refine (C1.out _ _ _ _ (VE.out.below HV.out)).mono ?_
        rintro e w5 ⟨rfl, hb⟩
        replace hb := nb_ HB hb
        replace BKgb := kb_ BKgb hb
        replace BKgx := kb_ BKgx hb
        replace HB := bs_ HB hb
        replace HV := bs_ HV hb
        clear Ogx_0 Ogx_1 Ogx_2
        obtain ⟨Ogx_0, Ogx_1, Ogx_2⟩ := c3_ BKgx
        clear hb
        go_wp2_with fail
        refine (C2.out _ _ _ _ (VE.out.below HV.out)).mono ?_
        rintro e w6 ⟨rfl, hb⟩
        replace hb := nb_ HB hb
        replace BKgb := kb_ BKgb hb
        replace BKgx := kb_ BKgx hb
        replace HB := bs_ HB hb
        replace HV := bs_ HV hb
        clear Ogx_0 Ogx_1 Ogx_2
        obtain ⟨Ogx_0, Ogx_1, Ogx_2⟩ := c3_ BKgx
        clear hb
        go_wp2_with (first | ((with_reducible refine gate_store (t := 37) (p := 6) rfl ?_); have hc_ := cf2_ BKgb; refine st2_ ?_; intro w7 hp_; clear hc_; clear Ogx_0 Ogx_1 Ogx_2; replace BKgb := pp2_ BKgb hp_; replace BKgx := pf2r_ NEgb_gx BKgx hp_; replace HB := pb2_ GEgb HB hp_; clear HV; clear hp_; obtain ⟨Ogx_0, Ogx_1, Ogx_2⟩ := c3_ BKgx))
        try go_wp2
        refine bodyPost_ret (results_ct rfl _ _ gb 37 #[.int .i64 0, .int .i64 0] (0, 0) _ rfl BKgb.out Tryz.underlying37 rfl (by kernel_rfl)) rfl ?_
        exact ⟨rfl, HB.out⟩
      | true =>
        rw [hb_, if_pos rfl] at h
        by_cases hgt : a2 > a1
        · have C1 : Aside0 (∀ W g1 g2 g3, VeAt W (hsO l0) (vsO l0) (dsO l0) g1 g2 g3 → Calls Tryz.prog 37 #[.agg #[.pointer (some ⟨g1, 0, none⟩), .pointer (some ⟨g2, 0, none⟩), .pointer (some ⟨g3, 0, none⟩)], .int .i64 a1] W fun e w' => e = .returned (.bool true) ∧ Below W.heap.size W w') := ⟨fun W g1 g2 g3 hV => by have hh := vessel_isLevel.calls _ _ _ g1 g2 g3 a1 W hV hG; rwa [show decide (0 ≤ a1 ∧ a1 ≤ sm (hsO l0)) = true from ha] at hh⟩
          have C2 : Aside0 (∀ W g1 g2 g3, VeAt W (hsO l0) (vsO l0) (dsO l0) g1 g2 g3 → Calls Tryz.prog 37 #[.agg #[.pointer (some ⟨g1, 0, none⟩), .pointer (some ⟨g2, 0, none⟩), .pointer (some ⟨g3, 0, none⟩)], .int .i64 a2] W fun e w' => e = .returned (.bool true) ∧ Below W.heap.size W w') := ⟨fun W g1 g2 g3 hV => by have hh := vessel_isLevel.calls _ _ _ g1 g2 g3 a2 W hV hG; rwa [show decide (0 ≤ a2 ∧ a2 ≤ sm (hsO l0)) = true from hb_] at hh⟩
          rw [if_pos hgt] at h
          obtain ⟨rfl, rfl, rfl⟩ : (0 : Int) = r1 ∧ (0 : Int) = r2 ∧ (4 : Int) = r3 := by simpa [erS] using h
          clear h
          have hd : decide (a1 < a2) = true := decide_eq_true hgt
          clear hG hv ha hb_ hgt
          go_enter Tryz.func12, Tryz.ntmps12
          go_wp2_with (first | ((with_reducible refine gate_dst (N := 6) rfl ?_); refine bx_ 6 #[.int .i64 0, .int .i64 0] 37 ?_; intro gb hg w1 hbox hb; have GEgb := ge_ hg HB; replace hb := nb_ HB hb; replace HB := bs_ HB hb; have BKgb := Aside0.mk hbox; clear hb hbox hg) | ((with_reducible refine gate_callee (f := 26) rfl ?_); refine gL_ (some 11) Tryz.func26 (vessel_Check.calls 30 A0 c0 l0 0 _ (Kd.C_below HR0.out HB.out) HC0.out HK.out) ?_; rintro e w1b ⟨rfl, hb⟩; refine ⟨.int .i64 0, rfl, ?_⟩; replace hb := nb_ HB hb; replace BKgb := kb_ BKgb hb; replace HB := bs_ HB hb; clear hb) | ((with_reducible refine gate_callee (f := 36) rfl ?_); refine gL_ (some 17) Tryz.func36 (vessel_open.calls A0 c0 l0 _ (Kd.C_below HR0.out HB.out) HN.out) ?_; rintro e w2 ⟨g1, g2, g3, rfl, s_, hb⟩; refine ⟨.agg #[.pointer (some ⟨g1, 0, none⟩), .pointer (some ⟨g2, 0, none⟩), .pointer (some ⟨g3, 0, none⟩)], rfl, ?_⟩; replace hb := nb_ HB hb; replace BKgb := kb_ BKgb hb; replace HB := bs_ HB hb; have VE := Aside0.mk s_.at_; clear s_; clear hb) | ((with_reducible refine gate_dst (N := 9) rfl ?_); refine bx_ 9 #[.pointer none, .pointer none, .pointer none] 73 ?_; intro gx hg w3 hbox hb; have GEgx := ge_ hg HB; have NEgb_gx := ne_ hg BKgb; replace hb := nb_ HB hb; replace BKgb := kb_ BKgb hb; replace VE := Aside0.mk (VeAt.below VE.out hb); replace HB := bs_ HB hb; have BKgx := Aside0.mk hbox; obtain ⟨Ogx_0, Ogx_1, Ogx_2⟩ := c3_ BKgx; clear hb hbox hg) | ((with_reducible refine gate_store (t := 73) (p := 9) rfl ?_); have hc_ := cf3_ BKgx; refine st3_ ?_; intro wv hp_; clear hc_; clear Ogx_0 Ogx_1 Ogx_2; replace VE : Aside0 (VeAt wv (hsO l0) (vsO l0) (dsO l0) g1 g2 g3) := ⟨by rw [← hp_.e]; exact VE.out.set3 BKgx.out⟩; replace BKgb := pf3_ NEgb_gx BKgb hp_; replace BKgx := pp3_ BKgx hp_; replace HB := pb3_ GEgx HB hp_; clear hp_; obtain ⟨Ogx_0, Ogx_1, Ogx_2⟩ := c3_ BKgx; have HV := Aside0.mk (Below.refl wv.heap.size wv)))
          refine (C1.out _ _ _ _ (VE.out.below HV.out)).mono ?_
          rintro e w5 ⟨rfl, hb⟩
          replace hb := nb_ HB hb
          replace BKgb := kb_ BKgb hb
          replace BKgx := kb_ BKgx hb
          replace HB := bs_ HB hb
          replace HV := bs_ HV hb
          clear Ogx_0 Ogx_1 Ogx_2
          obtain ⟨Ogx_0, Ogx_1, Ogx_2⟩ := c3_ BKgx
          clear hb
          go_wp2_with fail
          refine (C2.out _ _ _ _ (VE.out.below HV.out)).mono ?_
          rintro e w6 ⟨rfl, hb⟩
          replace hb := nb_ HB hb
          replace BKgb := kb_ BKgb hb
          replace BKgx := kb_ BKgx hb
          replace HB := bs_ HB hb
          replace HV := bs_ HV hb
          clear Ogx_0 Ogx_1 Ogx_2
          obtain ⟨Ogx_0, Ogx_1, Ogx_2⟩ := c3_ BKgx
          clear hb
          go_wp2_with (first | ((with_reducible refine gate_store (t := 37) (p := 6) rfl ?_); have hc_ := cf2_ BKgb; refine st2_ ?_; intro w7 hp_; clear hc_; clear Ogx_0 Ogx_1 Ogx_2; replace BKgb := pp2_ BKgb hp_; replace BKgx := pf2r_ NEgb_gx BKgx hp_; replace HB := pb2_ GEgb HB hp_; clear HV; clear hp_; obtain ⟨Ogx_0, Ogx_1, Ogx_2⟩ := c3_ BKgx))
          try go_wp2
          refine bodyPost_ret (results_ct rfl _ _ gb 37 #[.int .i64 0, .int .i64 0] (0, 0) _ rfl BKgb.out Tryz.underlying37 rfl (by kernel_rfl)) rfl ?_
          exact ⟨rfl, HB.out⟩
        · have C1 : Aside0 (∀ W g1 g2 g3, VeAt W (hsO l0) (vsO l0) (dsO l0) g1 g2 g3 → Calls Tryz.prog 37 #[.agg #[.pointer (some ⟨g1, 0, none⟩), .pointer (some ⟨g2, 0, none⟩), .pointer (some ⟨g3, 0, none⟩)], .int .i64 a1] W fun e w' => e = .returned (.bool true) ∧ Below W.heap.size W w') := ⟨fun W g1 g2 g3 hV => by have hh := vessel_isLevel.calls _ _ _ g1 g2 g3 a1 W hV hG; rwa [show decide (0 ≤ a1 ∧ a1 ≤ sm (hsO l0)) = true from ha] at hh⟩
          have C2 : Aside0 (∀ W g1 g2 g3, VeAt W (hsO l0) (vsO l0) (dsO l0) g1 g2 g3 → Calls Tryz.prog 37 #[.agg #[.pointer (some ⟨g1, 0, none⟩), .pointer (some ⟨g2, 0, none⟩), .pointer (some ⟨g3, 0, none⟩)], .int .i64 a2] W fun e w' => e = .returned (.bool true) ∧ Below W.heap.size W w') := ⟨fun W g1 g2 g3 hV => by have hh := vessel_isLevel.calls _ _ _ g1 g2 g3 a2 W hV hG; rwa [show decide (0 ≤ a2 ∧ a2 ≤ sm (hsO l0)) = true from hb_] at hh⟩
          rw [if_neg hgt] at h
          have hd : decide (a1 < a2) = false := decide_eq_false hgt
          have hl := of_decide_eq_true ha
          have hl2 := of_decide_eq_true hb_
          obtain ⟨z1, z2, z3, t2, t3, t4, t5⟩ := timeF_spec hG.h hG.d hG.hd hl.1 hl.2
          obtain ⟨y1, y2, y3, s2, s3, s4, s5⟩ := timeF_spec hG.h hG.d hG.hd hl2.1 hl2.2
          have hS := hG.sums
          have tw := w_le_v' t2 t5
          have sw := w_le_v' s2 s5
          have hdd : (timeF (hsO l0) (dsO l0) a1).d * (timeF (hsO l0) (dsO l0) a2).d ≤ 1000 * 1000 := Int.mul_le_mul t3 s3 (by have := s2.1; have := s2.2; omega) (by omega)
          have lw := less_w t2 s2 t4 s4 tw sw
          obtain ⟨rfl, rfl, rfl⟩ : (spanF (lessF (timeF (hsO l0) (dsO l0) a1) (timeF (hsO l0) (dsO l0) a2))).1 = r1 ∧ (spanF (lessF (timeF (hsO l0) (dsO l0) a1) (timeF (hsO l0) (dsO l0) a2))).2 = r2 ∧ (0 : Int) = r3 := by simpa [okS] using h
          have C3 : Aside0 (∀ W g1 g2 g3, VeAt W (hsO l0) (vsO l0) (dsO l0) g1 g2 g3 → Calls Tryz.prog 38 #[.agg #[.pointer (some ⟨g1, 0, none⟩), .pointer (some ⟨g2, 0, none⟩), .pointer (some ⟨g3, 0, none⟩)], .int .i64 a1] W fun e w' => e = .returned (.agg #[.int .i64 (timeF (hsO l0) (dsO l0) a1).w, .int .i64 (timeF (hsO l0) (dsO l0) a1).n, .int .i64 (timeF (hsO l0) (dsO l0) a1).d]) ∧ Below W.heap.size W w') := ⟨fun W g1 g2 g3 hV => vessel_time.calls _ _ _ g1 g2 g3 a1 W hV hG hl.1 hl.2⟩
          have C4 : Aside0 (∀ W g1 g2 g3, VeAt W (hsO l0) (vsO l0) (dsO l0) g1 g2 g3 → Calls Tryz.prog 38 #[.agg #[.pointer (some ⟨g1, 0, none⟩), .pointer (some ⟨g2, 0, none⟩), .pointer (some ⟨g3, 0, none⟩)], .int .i64 a2] W fun e w' => e = .returned (.agg #[.int .i64 (timeF (hsO l0) (dsO l0) a2).w, .int .i64 (timeF (hsO l0) (dsO l0) a2).n, .int .i64 (timeF (hsO l0) (dsO l0) a2).d]) ∧ Below W.heap.size W w') := ⟨fun W g1 g2 g3 hV => vessel_time.calls _ _ _ g1 g2 g3 a2 W hV hG hl2.1 hl2.2⟩
          have C5 : Aside0 (∀ W, Calls Tryz.prog 39 #[.agg #[.int .i64 (timeF (hsO l0) (dsO l0) a1).w, .int .i64 (timeF (hsO l0) (dsO l0) a1).n, .int .i64 (timeF (hsO l0) (dsO l0) a1).d], .agg #[.int .i64 (timeF (hsO l0) (dsO l0) a2).w, .int .i64 (timeF (hsO l0) (dsO l0) a2).n, .int .i64 (timeF (hsO l0) (dsO l0) a2).d]] W fun e w' => e = .returned (.agg #[.int .i64 (lessF (timeF (hsO l0) (dsO l0) a1) (timeF (hsO l0) (dsO l0) a2)).w, .int .i64 (lessF (timeF (hsO l0) (dsO l0) a1) (timeF (hsO l0) (dsO l0) a2)).n, .int .i64 (lessF (timeF (hsO l0) (dsO l0) a1) (timeF (hsO l0) (dsO l0) a2)).d]) ∧ Below W.heap.size W w') := ⟨fun W => less_good (timeF (hsO l0) (dsO l0) a1) (timeF (hsO l0) (dsO l0) a2) W t2 s2 (by omega) (by omega) (by omega)⟩
          have C6 : Aside0 (∀ W, Calls Tryz.prog 40 #[.agg #[.int .i64 (lessF (timeF (hsO l0) (dsO l0) a1) (timeF (hsO l0) (dsO l0) a2)).w, .int .i64 (lessF (timeF (hsO l0) (dsO l0) a1) (timeF (hsO l0) (dsO l0) a2)).n, .int .i64 (lessF (timeF (hsO l0) (dsO l0) a1) (timeF (hsO l0) (dsO l0) a2)).d]] W fun e w' => e = .returned (.agg #[.int .i64 (spanF (lessF (timeF (hsO l0) (dsO l0) a1) (timeF (hsO l0) (dsO l0) a2))).1, .int .i64 (spanF (lessF (timeF (hsO l0) (dsO l0) a1) (timeF (hsO l0) (dsO l0) a2))).2]) ∧ Below W.heap.size W w') := ⟨fun W => span_good (lessF (timeF (hsO l0) (dsO l0) a1) (timeF (hsO l0) (dsO l0) a2)) W (by omega)⟩
          clear h z1 z2 z3 t2 t3 t4 t5 y1 y2 y3 s2 s3 s4 s5 hS tw sw hdd lw hl hl2
          clear hG hv ha hb_ hgt
          go_enter Tryz.func12, Tryz.ntmps12
          go_wp2_with (first | ((with_reducible refine gate_dst (N := 6) rfl ?_); refine bx_ 6 #[.int .i64 0, .int .i64 0] 37 ?_; intro gb hg w1 hbox hb; have GEgb := ge_ hg HB; replace hb := nb_ HB hb; replace HB := bs_ HB hb; have BKgb := Aside0.mk hbox; clear hb hbox hg) | ((with_reducible refine gate_callee (f := 26) rfl ?_); refine gL_ (some 11) Tryz.func26 (vessel_Check.calls 30 A0 c0 l0 0 _ (Kd.C_below HR0.out HB.out) HC0.out HK.out) ?_; rintro e w1b ⟨rfl, hb⟩; refine ⟨.int .i64 0, rfl, ?_⟩; replace hb := nb_ HB hb; replace BKgb := kb_ BKgb hb; replace HB := bs_ HB hb; clear hb) | ((with_reducible refine gate_callee (f := 36) rfl ?_); refine gL_ (some 17) Tryz.func36 (vessel_open.calls A0 c0 l0 _ (Kd.C_below HR0.out HB.out) HN.out) ?_; rintro e w2 ⟨g1, g2, g3, rfl, s_, hb⟩; refine ⟨.agg #[.pointer (some ⟨g1, 0, none⟩), .pointer (some ⟨g2, 0, none⟩), .pointer (some ⟨g3, 0, none⟩)], rfl, ?_⟩; replace hb := nb_ HB hb; replace BKgb := kb_ BKgb hb; replace HB := bs_ HB hb; have VE := Aside0.mk s_.at_; clear s_; clear hb) | ((with_reducible refine gate_dst (N := 9) rfl ?_); refine bx_ 9 #[.pointer none, .pointer none, .pointer none] 73 ?_; intro gx hg w3 hbox hb; have GEgx := ge_ hg HB; have NEgb_gx := ne_ hg BKgb; replace hb := nb_ HB hb; replace BKgb := kb_ BKgb hb; replace VE := Aside0.mk (VeAt.below VE.out hb); replace HB := bs_ HB hb; have BKgx := Aside0.mk hbox; obtain ⟨Ogx_0, Ogx_1, Ogx_2⟩ := c3_ BKgx; clear hb hbox hg) | ((with_reducible refine gate_store (t := 73) (p := 9) rfl ?_); have hc_ := cf3_ BKgx; refine st3_ ?_; intro wv hp_; clear hc_; clear Ogx_0 Ogx_1 Ogx_2; replace VE : Aside0 (VeAt wv (hsO l0) (vsO l0) (dsO l0) g1 g2 g3) := ⟨by rw [← hp_.e]; exact VE.out.set3 BKgx.out⟩; replace BKgb := pf3_ NEgb_gx BKgb hp_; replace BKgx := pp3_ BKgx hp_; replace HB := pb3_ GEgx HB hp_; clear hp_; obtain ⟨Ogx_0, Ogx_1, Ogx_2⟩ := c3_ BKgx; have HV := Aside0.mk (Below.refl wv.heap.size wv)))
          refine (C1.out _ _ _ _ (VE.out.below HV.out)).mono ?_
          rintro e w5 ⟨rfl, hb⟩
          replace hb := nb_ HB hb
          replace BKgb := kb_ BKgb hb
          replace BKgx := kb_ BKgx hb
          replace HB := bs_ HB hb
          replace HV := bs_ HV hb
          clear Ogx_0 Ogx_1 Ogx_2
          obtain ⟨Ogx_0, Ogx_1, Ogx_2⟩ := c3_ BKgx
          clear hb
          go_wp2_with fail
          refine (C2.out _ _ _ _ (VE.out.below HV.out)).mono ?_
          rintro e w6 ⟨rfl, hb⟩
          replace hb := nb_ HB hb
          replace BKgb := kb_ BKgb hb
          replace BKgx := kb_ BKgx hb
          replace HB := bs_ HB hb
          replace HV := bs_ HV hb
          clear Ogx_0 Ogx_1 Ogx_2
          obtain ⟨Ogx_0, Ogx_1, Ogx_2⟩ := c3_ BKgx
          clear hb
          go_wp2
          clear Ogx_0 Ogx_1 Ogx_2
          replace BKgb := kd_ BKgb
          replace BKgx := kd_ BKgx
          replace HB := bd_ HB
          replace HV := bd_ HV
          refine sM_ [8] (fun w' => (w'.cell? ⟨gx, 0, none⟩ = some (.pointer (some ⟨g1, 0, none⟩)) ∧ w'.cell? ⟨gx, 1, none⟩ = some (.pointer (some ⟨g2, 0, none⟩)) ∧ w'.cell? ⟨gx, 2, none⟩ = some (.pointer (some ⟨g3, 0, none⟩)))) vessel_Sinking.tab9 vessel_Sinking.bits9 (c3_ BKgx) (fun hHeld HT_ HW_ => ?_)
          generalize w6.drew = w8 at BKgb BKgx HB HV hHeld ⊢
          refine pM_ HT_ 1 34 2 ?_
          refine pM_ HT_ 4 37 18 ?_
          refine tM_ HT_ HW_ hHeld 0 33 19 ?_
          refine tM_ HT_ HW_ hHeld 3 36 27 ?_
          refine oM_ HT_ 2 (some 35) 31 (fun K hK => ?_)
          refine gM_ Tryz.func38 (C3.out _ _ _ _ (VE.out.below HV.out)) ?_
          rintro e w9 ⟨rfl, hb⟩
          refine ⟨.agg #[.int .i64 (timeF (hsO l0) (dsO l0) a1).w, .int .i64 (timeF (hsO l0) (dsO l0) a1).n, .int .i64 (timeF (hsO l0) (dsO l0) a1).d], rfl, ?_⟩
          replace hb := nb_ HB hb
          replace BKgb := kb_ BKgb hb
          replace BKgx := kb_ BKgx hb
          replace HB := bs_ HB hb
          replace HV := bs_ HV hb
          (try clear hb)
          refine hK.out _ _ (c3_ BKgx) (fun hHeld => ?_)
          clear hK K
          refine nM_ ?_
          refine oM_ HT_ 5 (some 38) 63 (fun K hK => ?_)
          refine gM_ Tryz.func38 (C4.out _ _ _ _ (VE.out.below HV.out)) ?_
          rintro e w10 ⟨rfl, hb⟩
          refine ⟨.agg #[.int .i64 (timeF (hsO l0) (dsO l0) a2).w, .int .i64 (timeF (hsO l0) (dsO l0) a2).n, .int .i64 (timeF (hsO l0) (dsO l0) a2).d], rfl, ?_⟩
          replace hb := nb_ HB hb
          replace BKgb := kb_ BKgb hb
          replace BKgx := kb_ BKgx hb
          replace HB := bs_ HB hb
          replace HV := bs_ HV hb
          (try clear hb)
          refine hK.out _ _ (c3_ BKgx) (fun hHeld => ?_)
          clear hK K
          refine nM_ ?_
          refine oM_ HT_ 6 (some 39) 127 (fun K hK => ?_)
          refine gM_ Tryz.func39 (C5.out _) ?_
          rintro e w11 ⟨rfl, hb⟩
          refine ⟨.agg #[.int .i64 (lessF (timeF (hsO l0) (dsO l0) a1) (timeF (hsO l0) (dsO l0) a2)).w, .int .i64 (lessF (timeF (hsO l0) (dsO l0) a1) (timeF (hsO l0) (dsO l0) a2)).n, .int .i64 (lessF (timeF (hsO l0) (dsO l0) a1) (timeF (hsO l0) (dsO l0) a2)).d], rfl, ?_⟩
          replace hb := nb_ HB hb
          replace BKgb := kb_ BKgb hb
          replace BKgx := kb_ BKgx hb
          replace HB := bs_ HB hb
          replace HV := bs_ HV hb
          (try clear hb)
          refine hK.out _ _ (c3_ BKgx) (fun hHeld => ?_)
          clear hK K
          refine nM_ ?_
          refine oM_ HT_ 7 (some 40) 255 (fun K hK => ?_)
          refine gM_ Tryz.func40 (C6.out _) ?_
          rintro e w12 ⟨rfl, hb⟩
          refine ⟨.agg #[.int .i64 (spanF (lessF (timeF (hsO l0) (dsO l0) a1) (timeF (hsO l0) (dsO l0) a2))).1, .int .i64 (spanF (lessF (timeF (hsO l0) (dsO l0) a1) (timeF (hsO l0) (dsO l0) a2))).2], rfl, ?_⟩
          replace hb := nb_ HB hb
          replace BKgb := kb_ BKgb hb
          replace BKgx := kb_ BKgx hb
          replace HB := bs_ HB hb
          replace HV := bs_ HV hb
          (try clear hb)
          refine hK.out _ _ (c3_ BKgx) (fun hHeld => ?_)
          clear hK K
          refine nM_ ?_
          refine lM_ HT_ 8 none 511 (fun K hK => ?_)
          have hc_ := cf2_ BKgb
          refine sk2_ ?_
          intro ws_ hp_
          clear hc_
          refine hK.out _ _ ?_
          clear hK K
          refine pM_ HT_ 9 7 1023 ?_
          refine dM_ HT_ ?_
          try go_wp2
          replace BKgb := pp2_ BKgb hp_
          replace BKgx := pf2r_ NEgb_gx BKgx hp_
          replace HB := pb2_ GEgb HB hp_
          clear HV
          clear hp_
          generalize ws_ = w13 at BKgb BKgx HB ⊢
          clear ws_
          refine bodyPost_ret (results_ct rfl _ _ gb 37 #[.int .i64 (spanF (lessF (timeF (hsO l0) (dsO l0) a1) (timeF (hsO l0) (dsO l0) a2))).1, .int .i64 (spanF (lessF (timeF (hsO l0) (dsO l0) a1) (timeF (hsO l0) (dsO l0) a2))).2] (0, 0) _ rfl BKgb.out Tryz.underlying37 rfl (by kernel_rfl)) rfl ?_
          exact ⟨rfl, HB.out⟩
  · rw [if_neg hv] at h
    obtain ⟨rfl, rfl, rfl⟩ : (0 : Int) = r1 ∧ (0 : Int) = r2 ∧ (20 : Int) = r3 := by simpa [erS] using h
    clear h
    have HK : Aside0 (vessel_Check.f 30 l0 = some 20) := ⟨by rw [vCheck]; unfold checkF; rw [if_neg hv]⟩
    clear hv
    go_enter Tryz.func12, Tryz.ntmps12
    go_wp2_with (first | ((with_reducible refine gate_dst (N := 6) rfl ?_); refine bx_ 6 #[.int .i64 0, .int .i64 0] 37 ?_; intro gb hg w1 hbox hb; have GEgb := ge_ hg HB; replace hb := nb_ HB hb; replace HB := bs_ HB hb; have BKgb := Aside0.mk hbox; clear hb hbox hg) | ((with_reducible refine gate_callee (f := 26) rfl ?_); refine gL_ (some 11) Tryz.func26 (vessel_Check.calls 30 A0 c0 l0 20 _ (Kd.C_below HR0.out HB.out) HC0.out HK.out) ?_; rintro e w2 ⟨rfl, hb⟩; refine ⟨.int .i64 20, rfl, ?_⟩; replace hb := nb_ HB hb; replace BKgb := kb_ BKgb hb; replace HB := bs_ HB hb; clear hb) | ((with_reducible refine gate_store (t := 37) (p := 6) rfl ?_); have hc_ := cf2_ BKgb; refine st2_ ?_; intro w3 hp_; clear hc_; replace BKgb := pp2_ BKgb hp_; replace HB := pb2_ GEgb HB hp_; clear hp_))
    try go_wp2
    refine bodyPost_ret (results_ct rfl _ _ gb 37 #[.int .i64 0, .int .i64 0] (0, 0) _ rfl BKgb.out Tryz.underlying37 rfl (by kernel_rfl)) rfl ?_
    exact ⟨rfl, HB.out⟩
end Go.Proofs.YtlhfclpbodfmcaaGreatDoor.Pr
