/- A part of the proof: TqA. -/
import Derived.Test.YtlhfclpbodfmcaaGreatDoorYBTp
import Derived.Outline
namespace Go.Proofs.YtlhfclpbodfmcaaGreatDoor.Pr
open Go.RowKit Go.Proofs.YtlhfclpbodfmcaaGreatDoorW.PrintWords Go.Proofs.YtlhfclpbodfmcaaGreatDoorW.PrintLast Go.Proofs.YtlhfclpbodfmcaaGreatDoorW.PrintMore
open Go.Proofs.YtlhfclpbodfmcaaGreatDoor.Vm
set_option linter.unusedVariables false
set_option linter.unusedSimpArgs false
def vessel_After.T4 : Bool × List (List Nat × List Nat) := (true, [([], []), ([0], [0]), ([], []), ([], []), ([], []), ([2, 3, 4], [2, 3, 4]), ([1, 5, 5], [1, 5]), ([6, 6], [6]), ([7, 7, 0, 1, 2, 3, 4, 5, 6, 7], [7]), ([8, 0, 1, 2, 3, 4, 5, 6, 7, 8], [])])
def vessel_After.B4 : List Nat := [0, 1, 0, 0, 0, 28, 63, 127, 255, 511]
theorem vessel_After.tab4 : rtab .any (opsOf Tryz.f13 4) = vessel_After.T4 := by kernel_rfl
theorem vessel_After.bits4 : waitsOk vessel_After.T4.2 vessel_After.B4 = true := by kernel_rfl
def vessel_After.f (l0 : List S79) (a1 a2 : Int) : Option (Int × Int × Int) := some (AfterF l0 a1 a2)
set_option maxHeartbeats 1600000 in
set_option maxRecDepth 100000 in
theorem vessel_After.calls (A0 : Option Addr) (c0 : Nat) (l0 : List S79) (a1 a2 r1 r2 r3 : Int) (w : World) (hr0 : Kd.C k79 w A0 l0.length l0) (hc0 : l0.length ≤ c0) (h : vessel_After.f l0 a1 a2 = some (r1, r2, r3)) :
    Calls Tryz.prog 13 #[.slice A0 l0.length c0, .int .i64 a1, .int .i64 a2] w fun e w' => e = .returned (.tuple #[.agg #[.int .i64 r1, .int .i64 r2], .int .i64 r3]) ∧ Below w.heap.size w w' := by
  have hu86 := Tryz.underlying73
  have hu90 := Tryz.underlying77
  have hu27 := Tryz.underlying37
  have hu105 := Tryz.underlying86
  have HR0 := Aside0.mk hr0
  have HC0 := Aside0.mk hc0
  clear hr0 hc0
  replace h : AfterF l0 a1 a2 = (r1, r2, r3) := Option.some.inj h
  have HB := Aside0.mk (Below.refl w.heap.size w)
  unfold AfterF asks at h
  by_cases hv : validB l0 = true
  · rw [if_pos hv] at h
    by_cases ha : (lvB l0 a1 && manyB a2) = true
    · rw [if_pos ha] at h
      rw [Bool.and_eq_true] at ha
      have hl := lvB_iff.1 ha.1
      have hm := manyB_iff.1 ha.2
      have hG : GV (hsO l0) (vsO l0) (dsO l0) := valid_GV hv
      clear ha
      have HVAL := Aside0.mk hv
      have HLV := Aside0.mk hl
      have HM := Aside0.mk hm
      obtain ⟨p1, p2, z1, p3, p4, p5, p6⟩ := placeF_spec hG.h hG.d hG.hd hG.h hG.hd.symm hl.1 hl.2 hm.1
      have hS := hG.sums
      have pw := w_le_v' p3 p6
      obtain ⟨rfl, rfl, rfl⟩ : (spanF (atF (hsO l0) (afterF (hsO l0) (dsO l0) a1 a2))).1 = r1 ∧ (spanF (atF (hsO l0) (afterF (hsO l0) (dsO l0) a1 a2))).2 = r2 ∧ (0 : Int) = r3 := by simpa [okS] using h
      clear h z1
      have C1 : Aside0 (∀ W g1 g2 g3, VeAt W (hsO l0) (vsO l0) (dsO l0) g1 g2 g3 → Calls Tryz.prog 43 #[.agg #[.pointer (some ⟨g1, 0, none⟩), .pointer (some ⟨g2, 0, none⟩), .pointer (some ⟨g3, 0, none⟩)], .int .i64 a1, .int .i64 a2] W fun e w' => e = .returned (.agg #[.int .i64 ((afterF (hsO l0) (dsO l0) a1 a2).r : Int), .int .i64 (afterF (hsO l0) (dsO l0) a1 a2).n, .int .i64 (afterF (hsO l0) (dsO l0) a1 a2).d]) ∧ Below W.heap.size W w') := ⟨fun W g1 g2 g3 hV => vessel_after.calls _ _ _ g1 g2 g3 a1 a2 W hV hG hl.1 hl.2 hm.1 hm.2⟩
      have C2 : Aside0 (∀ W g1 g2 g3, VeAt W (hsO l0) (vsO l0) (dsO l0) g1 g2 g3 → Calls Tryz.prog 42 #[.pointer (some ⟨g1, 0, none⟩), .agg #[.int .i64 ((afterF (hsO l0) (dsO l0) a1 a2).r : Int), .int .i64 (afterF (hsO l0) (dsO l0) a1 a2).n, .int .i64 (afterF (hsO l0) (dsO l0) a1 a2).d]] W fun e w' => e = .returned (.agg #[.int .i64 (atF (hsO l0) (afterF (hsO l0) (dsO l0) a1 a2)).w, .int .i64 (atF (hsO l0) (afterF (hsO l0) (dsO l0) a1 a2)).n, .int .i64 (atF (hsO l0) (afterF (hsO l0) (dsO l0) a1 a2)).d]) ∧ Below W.heap.size W w') := ⟨fun W g1 g2 g3 hV => height_at.good g1 (hsO l0) 1000 (afterF (hsO l0) (dsO l0) a1 a2) W hV.s1 hG.h (by decide) (hG.hd ▸ p1) (by omega) (by omega)⟩
      have C3 : Aside0 (∀ W, Calls Tryz.prog 40 #[.agg #[.int .i64 (atF (hsO l0) (afterF (hsO l0) (dsO l0) a1 a2)).w, .int .i64 (atF (hsO l0) (afterF (hsO l0) (dsO l0) a1 a2)).n, .int .i64 (atF (hsO l0) (afterF (hsO l0) (dsO l0) a1 a2)).d]] W fun e w' => e = .returned (.agg #[.int .i64 (spanF (atF (hsO l0) (afterF (hsO l0) (dsO l0) a1 a2))).1, .int .i64 (spanF (atF (hsO l0) (afterF (hsO l0) (dsO l0) a1 a2))).2]) ∧ Below W.heap.size W w') := ⟨fun W => span_good (atF (hsO l0) (afterF (hsO l0) (dsO l0) a1 a2)) W (by omega)⟩
      clear p1 p2 p3 p4 p5 p6 pw hS hG hl hm hv
      go_enter Tryz.func13, Tryz.ntmps13
      go_wp2_with (first | ((with_reducible refine gate_dst (N := 6) rfl ?_); refine bx_ 6 #[.int .i64 0, .int .i64 0] 37 ?_; intro gb hg w1 hbox hb; have GEgb := ge_ hg HB; replace hb := nb_ HB hb; replace HB := bs_ HB hb; have BKgb := Aside0.mk hbox; clear hb hbox hg) | ((with_reducible refine gate_callee (f := 41) rfl ?_); refine gL_ (some 14) Tryz.func41 (vessel_asked.good A0 c0 l0 a1 a2 _ (Kd.C_below HR0.out HB.out) HC0.out HVAL.out HLV.out HM.out) ?_; rintro e w2 ⟨g1, g2, g3, rfl, s_, hb⟩; refine ⟨.tuple #[.agg #[.pointer (some ⟨g1, 0, none⟩), .pointer (some ⟨g2, 0, none⟩), .pointer (some ⟨g3, 0, none⟩)], .int .i64 0], rfl, ?_⟩; replace hb := nb_ HB hb; replace BKgb := kb_ BKgb hb; replace HB := bs_ HB hb; have VE := Aside0.mk s_; clear s_; clear hb) | ((with_reducible refine gate_dst (N := 8) rfl ?_); refine bx_ 8 #[.pointer none, .pointer none, .pointer none] 73 ?_; intro gx hg w3 hbox hb; have GEgx := ge_ hg HB; have NEgb_gx := ne_ hg BKgb; replace hb := nb_ HB hb; replace BKgb := kb_ BKgb hb; replace VE := Aside0.mk (VeAt.below VE.out hb); replace HB := bs_ HB hb; have BKgx := Aside0.mk hbox; clear hb hbox hg) | ((with_reducible refine gate_store (t := 73) (p := 8) rfl ?_); have hc_ := cf3_ BKgx; refine st3_ ?_; intro wv hp_; clear hc_; replace VE : Aside0 (VeAt wv (hsO l0) (vsO l0) (dsO l0) g1 g2 g3) := ⟨by rw [← hp_.e]; exact VE.out.set3 BKgx.out⟩; replace BKgb := pf3_ NEgb_gx BKgb hp_; replace BKgx := pp3_ BKgx hp_; replace HB := pb3_ GEgx HB hp_; clear hp_; have HV := Aside0.mk (Below.refl wv.heap.size wv)))
      replace BKgb := kd_ BKgb
      replace BKgx := kd_ BKgx
      replace HB := bd_ HB
      replace HV := bd_ HV
      refine sM_ [8] (fun w' => (w'.cell? ⟨gx, 0, none⟩ = some (.pointer (some ⟨g1, 0, none⟩)) ∧ w'.cell? ⟨gx, 1, none⟩ = some (.pointer (some ⟨g2, 0, none⟩)) ∧ w'.cell? ⟨gx, 2, none⟩ = some (.pointer (some ⟨g3, 0, none⟩)))) vessel_After.tab4 vessel_After.bits4 (c3_ BKgx) (fun hHeld HT_ HW_ => ?_)
      generalize wv.drew = w5 at BKgb BKgx HB HV hHeld ⊢
      refine pM_ HT_ 0 21 1 ?_
      refine pM_ HT_ 3 24 9 ?_
      refine pM_ HT_ 4 25 25 ?_
      refine tM_ HT_ HW_ hHeld 1 22 27 ?_
      refine tM_ HT_ HW_ hHeld 2 23 31 ?_
      refine oM_ HT_ 5 (some 26) 63 (fun K hK => ?_)
      refine gM_ Tryz.func43 (C1.out _ _ _ _ (VE.out.below HV.out)) ?_
      rintro e w6 ⟨rfl, hb⟩
      refine ⟨.agg #[.int .i64 ((afterF (hsO l0) (dsO l0) a1 a2).r : Int), .int .i64 (afterF (hsO l0) (dsO l0) a1 a2).n, .int .i64 (afterF (hsO l0) (dsO l0) a1 a2).d], rfl, ?_⟩
      replace hb := nb_ HB hb
      replace BKgb := kb_ BKgb hb
      replace BKgx := kb_ BKgx hb
      replace HB := bs_ HB hb
      replace HV := bs_ HV hb
      (try clear hb)
      refine hK.out _ _ (c3_ BKgx) (fun hHeld => ?_)
      clear hK K
      refine nM_ ?_
      refine oM_ HT_ 6 (some 27) 127 (fun K hK => ?_)
      refine gM_ Tryz.func42 (C2.out _ _ _ _ (VE.out.below HV.out)) ?_
      rintro e w7 ⟨rfl, hb⟩
      refine ⟨.agg #[.int .i64 (atF (hsO l0) (afterF (hsO l0) (dsO l0) a1 a2)).w, .int .i64 (atF (hsO l0) (afterF (hsO l0) (dsO l0) a1 a2)).n, .int .i64 (atF (hsO l0) (afterF (hsO l0) (dsO l0) a1 a2)).d], rfl, ?_⟩
      replace hb := nb_ HB hb
      replace BKgb := kb_ BKgb hb
      replace BKgx := kb_ BKgx hb
      replace HB := bs_ HB hb
      replace HV := bs_ HV hb
      (try clear hb)
      refine hK.out _ _ (c3_ BKgx) (fun hHeld => ?_)
      clear hK K
      refine nM_ ?_
      refine oM_ HT_ 7 (some 28) 255 (fun K hK => ?_)
      refine gM_ Tryz.func40 (C3.out _) ?_
      rintro e w8 ⟨rfl, hb⟩
      refine ⟨.agg #[.int .i64 (spanF (atF (hsO l0) (afterF (hsO l0) (dsO l0) a1 a2))).1, .int .i64 (spanF (atF (hsO l0) (afterF (hsO l0) (dsO l0) a1 a2))).2], rfl, ?_⟩
      replace hb := nb_ HB hb
      replace BKgb := kb_ BKgb hb
      replace BKgx := kb_ BKgx hb
      replace HB := bs_ HB hb
      replace HV := bs_ HV hb
      (try clear hb)
      refine hK.out _ _ (c3_ BKgx) (fun hHeld => ?_)
      clear hK K
      refine nM_ ?_
      refine lM_ HT_ 8 none 511 (fun K hK => ?_)
      have hc_ := cf2_ BKgb
      refine sk2_ ?_
      intro ws_ hp_
      clear hc_
      refine hK.out _ _ ?_
      clear hK K
      refine pM_ HT_ 9 7 1023 ?_
      refine dM_ HT_ ?_
      try go_wp2
      replace BKgb := pp2_ BKgb hp_
      replace BKgx := pf2r_ NEgb_gx BKgx hp_
      replace HB := pb2_ GEgb HB hp_
      clear HV
      clear hp_
      generalize ws_ = w9 at BKgb BKgx HB ⊢
      clear ws_
      refine bodyPost_ret (results_ct rfl _ _ gb 37 #[.int .i64 (spanF (atF (hsO l0) (afterF (hsO l0) (dsO l0) a1 a2))).1, .int .i64 (spanF (atF (hsO l0) (afterF (hsO l0) (dsO l0) a1 a2))).2] (0, 0) _ rfl BKgb.out Tryz.underlying37 rfl (by kernel_rfl)) rfl ?_
      exact ⟨rfl, HB.out⟩
    · rw [if_neg ha] at h
      obtain ⟨rfl, rfl, rfl⟩ : (0 : Int) = r1 ∧ (0 : Int) = r2 ∧ (1 : Int) = r3 := by simpa [erS] using h
      clear h
      have HA : Aside0 (∀ W, Below w.heap.size w W → Calls Tryz.prog 41 #[.slice A0 l0.length c0, .int .i64 a1, .int .i64 a2] W fun e w' => e = .returned (.tuple #[.agg #[.pointer none, .pointer none, .pointer none], .int .i64 1]) ∧ Below W.heap.size W w') := ⟨fun W hB => vessel_asked.arg A0 c0 l0 a1 a2 W (Kd.C_below HR0.out hB) HC0.out hv (fun hh => ha (by rw [Bool.and_eq_true]; exact ⟨lvB_iff.2 hh.1, manyB_iff.2 hh.2⟩))⟩
      go_enter Tryz.func13, Tryz.ntmps13
      go_wp2_with (first | ((with_reducible refine gate_dst (N := 6) rfl ?_); refine bx_ 6 #[.int .i64 0, .int .i64 0] 37 ?_; intro gb hg w1 hbox hb; have GEgb := ge_ hg HB; replace hb := nb_ HB hb; replace HB := bs_ HB hb; have BKgb := Aside0.mk hbox; clear hb hbox hg) | ((with_reducible refine gate_callee (f := 41) rfl ?_); refine gL_ (some 14) Tryz.func41 (HA.out _ HB.out) ?_; rintro e w2 ⟨rfl, hb⟩; refine ⟨.tuple #[.agg #[.pointer none, .pointer none, .pointer none], .int .i64 1], rfl, ?_⟩; replace hb := nb_ HB hb; replace BKgb := kb_ BKgb hb; replace HB := bs_ HB hb; clear hb) | ((with_reducible refine gate_dst (N := 8) rfl ?_); refine bx_ 8 #[.pointer none, .pointer none, .pointer none] 73 ?_; intro gx hg w3 hbox hb; have GEgx := ge_ hg HB; have NEgb_gx := ne_ hg BKgb; replace hb := nb_ HB hb; replace BKgb := kb_ BKgb hb; replace HB := bs_ HB hb; have BKgx := Aside0.mk hbox; clear hb hbox hg) | ((with_reducible refine gate_store (t := 73) (p := 8) rfl ?_); have hc_ := cf3_ BKgx; refine st3_ ?_; intro w4 hp_; clear hc_; replace BKgb := pf3_ NEgb_gx BKgb hp_; replace BKgx := pp3_ BKgx hp_; replace HB := pb3_ GEgx HB hp_; clear hp_) | ((with_reducible refine gate_store (t := 37) (p := 6) rfl ?_); have hc_ := cf2_ BKgb; refine st2_ ?_; intro w5 hp_; clear hc_; replace BKgb := pp2_ BKgb hp_; replace BKgx := pf2r_ NEgb_gx BKgx hp_; replace HB := pb2_ GEgb HB hp_; clear hp_))
      try go_wp2
      refine bodyPost_ret (results_ct rfl _ _ gb 37 #[.int .i64 0, .int .i64 0] (0, 0) _ rfl BKgb.out Tryz.underlying37 rfl (by kernel_rfl)) rfl ?_
      exact ⟨rfl, HB.out⟩
  · rw [if_neg hv] at h
    obtain ⟨rfl, rfl, rfl⟩ : (0 : Int) = r1 ∧ (0 : Int) = r2 ∧ (20 : Int) = r3 := by simpa [erS] using h
    clear h
    have HA : Aside0 (∀ W, Below w.heap.size w W → Calls Tryz.prog 41 #[.slice A0 l0.length c0, .int .i64 a1, .int .i64 a2] W fun e w' => e = .returned (.tuple #[.agg #[.pointer none, .pointer none, .pointer none], .int .i64 20]) ∧ Below W.heap.size W w') := ⟨fun W hB => vessel_asked.bad A0 c0 l0 a1 a2 W (Kd.C_below HR0.out hB) HC0.out (by simpa using hv)⟩
    go_enter Tryz.func13, Tryz.ntmps13
    go_wp2_with (first | ((with_reducible refine gate_dst (N := 6) rfl ?_); refine bx_ 6 #[.int .i64 0, .int .i64 0] 37 ?_; intro gb hg w1 hbox hb; have GEgb := ge_ hg HB; replace hb := nb_ HB hb; replace HB := bs_ HB hb; have BKgb := Aside0.mk hbox; clear hb hbox hg) | ((with_reducible refine gate_callee (f := 41) rfl ?_); refine gL_ (some 14) Tryz.func41 (HA.out _ HB.out) ?_; rintro e w2 ⟨rfl, hb⟩; refine ⟨.tuple #[.agg #[.pointer none, .pointer none, .pointer none], .int .i64 20], rfl, ?_⟩; replace hb := nb_ HB hb; replace BKgb := kb_ BKgb hb; replace HB := bs_ HB hb; clear hb) | ((with_reducible refine gate_dst (N := 8) rfl ?_); refine bx_ 8 #[.pointer none, .pointer none, .pointer none] 73 ?_; intro gx hg w3 hbox hb; have GEgx := ge_ hg HB; have NEgb_gx := ne_ hg BKgb; replace hb := nb_ HB hb; replace BKgb := kb_ BKgb hb; replace HB := bs_ HB hb; have BKgx := Aside0.mk hbox; clear hb hbox hg) | ((with_reducible refine gate_store (t := 73) (p := 8) rfl ?_); have hc_ := cf3_ BKgx; refine st3_ ?_; intro w4 hp_; clear hc_; replace BKgb := pf3_ NEgb_gx BKgb hp_; replace BKgx := pp3_ BKgx hp_; replace HB := pb3_ GEgx HB hp_; clear hp_) | ((with_reducible refine gate_store (t := 37) (p := 6) rfl ?_); have hc_ := cf2_ BKgb; refine st2_ ?_; intro w5 hp_; clear hc_; replace BKgb := pp2_ BKgb hp_; replace BKgx := pf2r_ NEgb_gx BKgx hp_; replace HB := pb2_ GEgb HB hp_; clear hp_))
    try go_wp2
    refine bodyPost_ret (results_ct rfl _ _ gb 37 #[.int .i64 0, .int .i64 0] (0, 0) _ rfl BKgb.out Tryz.underlying37 rfl (by kernel_rfl)) rfl ?_
    exact ⟨rfl, HB.out⟩
end Go.Proofs.YtlhfclpbodfmcaaGreatDoor.Pr
