/- A part of the proof: TqF. -/
import Derived.Test.YtlhfclpbodfmcaaXTp
import Derived.Outline
namespace Go.Proofs.Ytlhfclpbodfmcaa.Pr
open Go.RowKit Go.Proofs.YtlhfclpbodfmcaaW.PrintWords Go.Proofs.YtlhfclpbodfmcaaW.PrintLast Go.Proofs.YtlhfclpbodfmcaaW.PrintMore
open Go.Proofs.Ytlhfclpbodfmcaa.Vm
set_option linter.unusedVariables false
set_option linter.unusedSimpArgs false
def vessel_Sizes.T5 : Bool × List (List Nat × List Nat) := (true, [([], []), ([0], [0]), ([1], [1]), ([], []), ([3], [3]), ([4, 2], [4]), ([], []), ([6], [6]), ([7, 5], [7]), ([2, 8, 0, 1, 2], [2]), ([5, 9, 0, 1, 2, 3, 4, 5, 9], [5]), ([8, 10, 0, 1, 2, 3, 4, 5, 6, 7, 8, 9, 10], [8]), ([11, 0, 1, 2, 3, 4, 5, 6, 7, 8, 9, 10, 11], [])])
def vessel_Sizes.B5 : List Nat := [0, 1, 3, 0, 8, 31, 0, 64, 255, 511, 1023, 2047, 4095]
theorem vessel_Sizes.tab5 : rtab .any (opsOf Try.f49 5) = vessel_Sizes.T5 := by kernel_rfl
theorem vessel_Sizes.bits5 : waitsOk vessel_Sizes.T5.2 vessel_Sizes.B5 = true := by kernel_rfl
def vessel_Sizes.f (l0 : List S79) : Option (Int × Int × Int × Int) := some (SizesF l0)
set_option maxHeartbeats 1600000 in
set_option maxRecDepth 100000 in
theorem vessel_Sizes.calls (A0 : Option Addr) (c0 : Nat) (l0 : List S79) (r1 r2 r3 r4 : Int) (w : World) (hr0 : Kd.C k79 w A0 l0.length l0) (hc0 : l0.length ≤ c0) (h : vessel_Sizes.f l0 = some (r1, r2, r3, r4)) :
    Calls Try.prog 49 #[.slice A0 l0.length c0] w fun e w' => e = .returned (.tuple #[.int .i64 r1, .int .i64 r2, .int .i64 r3, .int .i64 r4]) ∧ Below w.heap.size w w' := by
  have hu86 := Try.underlying86
  have HR0 := Aside0.mk hr0
  have HC0 := Aside0.mk hc0
  clear hr0 hc0
  replace h : SizesF l0 = (r1, r2, r3, r4) := Option.some.inj h
  have HB := Aside0.mk (Below.refl w.heap.size w)
  unfold SizesF at h
  by_cases hv : validB l0 = true
  · rw [if_pos hv] at h
    obtain ⟨rfl, rfl, rfl, rfl⟩ : sm (hsO l0) = r1 ∧ sm (vsO l0) = r2 ∧ sm (dsO l0) = r3 ∧ (0 : Int) = r4 := by simpa using h
    clear h
    have hG : GV (hsO l0) (vsO l0) (dsO l0) := valid_GV hv
    have HK : Aside0 (vessel_Check.f 30 l0 = some 0) := ⟨by rw [vCheck]; unfold checkF; rw [hv]; rfl⟩
    have HN : Aside0 (l0.length ≤ 900) := ⟨by have := hG.h.ln; rw [List.length_map] at this; omega⟩
    have C1 : Aside0 (∀ W g1 g2 g3, VeAt W (hsO l0) (vsO l0) (dsO l0) g1 g2 g3 → Calls Try.prog 118 #[.pointer (some ⟨g1, 0, none⟩)] W fun e w' => e = .returned (.int .i64 (sm (hsO l0))) ∧ Below W.heap.size W w') := ⟨fun W g1 g2 g3 hV => by have hh := height_all.calls2 g1 (hsO l0) (sums 0 (hsO l0)) W hV.s1 (by rw [sums_length]; omega); rw [hG.h.rd (by decide) (Nat.le_refl _), List.take_length] at hh; exact hh⟩
    have C2 : Aside0 (∀ W g1 g2 g3, VeAt W (hsO l0) (vsO l0) (dsO l0) g1 g2 g3 → Calls Try.prog 99 #[.pointer (some ⟨g2, 0, none⟩)] W fun e w' => e = .returned (.int .i64 (sm (vsO l0))) ∧ Below W.heap.size W w') := ⟨fun W g1 g2 g3 hV => by have hh := volume_all.calls2 g2 (vsO l0) (sums 0 (vsO l0)) W hV.s2 (by rw [sums_length]; omega); rw [hG.v.rd (by decide) (Nat.le_refl _), List.take_length] at hh; exact hh⟩
    have C3 : Aside0 (∀ W g1 g2 g3, VeAt W (hsO l0) (vsO l0) (dsO l0) g1 g2 g3 → Calls Try.prog 89 #[.pointer (some ⟨g3, 0, none⟩)] W fun e w' => e = .returned (.int .i64 (sm (dsO l0))) ∧ Below W.heap.size W w') := ⟨fun W g1 g2 g3 hV => by have hh := minute_all.calls2 g3 (dsO l0) (sums 0 (dsO l0)) W hV.s3 (by rw [sums_length]; omega); rw [hG.d.rd (by decide) (Nat.le_refl _), List.take_length] at hh; exact hh⟩
    clear hG hv
    go_enter Try.func49, Try.ntmps49
    go_wp2_with (first | ((with_reducible refine gate_callee (f := 48) rfl ?_); refine gL_ (some 9) Try.func48 (vessel_Check.calls 30 A0 c0 l0 0 _ (Kd.C_below HR0.out HB.out) HC0.out HK.out) ?_; rintro e w1b ⟨rfl, hb⟩; refine ⟨.int .i64 0, rfl, ?_⟩; replace hb := nb_ HB hb; replace HB := bs_ HB hb; clear hb) | ((with_reducible refine gate_callee (f := 72) rfl ?_); refine gL_ (some 14) Try.func72 (vessel_open.calls A0 c0 l0 _ (Kd.C_below HR0.out HB.out) HN.out) ?_; rintro e w2 ⟨g1, g2, g3, rfl, s_, hb⟩; refine ⟨.agg #[.pointer (some ⟨g1, 0, none⟩), .pointer (some ⟨g2, 0, none⟩), .pointer (some ⟨g3, 0, none⟩)], rfl, ?_⟩; replace hb := nb_ HB hb; replace HB := bs_ HB hb; have VE := Aside0.mk s_.at_; clear s_; clear hb) | ((with_reducible refine gate_dst (N := 7) rfl ?_); refine bx_ 7 #[.pointer none, .pointer none, .pointer none] 86 ?_; intro gx hg w3 hbox hb; have GEgx := ge_ hg HB; replace hb := nb_ HB hb; replace VE := Aside0.mk (VeAt.below VE.out hb); replace HB := bs_ HB hb; have BKgx := Aside0.mk hbox; clear hb hbox hg) | ((with_reducible refine gate_store (t := 86) (p := 7) rfl ?_); have hc_ := cf3_ BKgx; refine st3_ ?_; intro wv hp_; clear hc_; replace VE : Aside0 (VeAt wv (hsO l0) (vsO l0) (dsO l0) g1 g2 g3) := ⟨by rw [← hp_.e]; exact VE.out.set3 BKgx.out⟩; replace BKgx := pp3_ BKgx hp_; replace HB := pb3_ GEgx HB hp_; clear hp_; have HV := Aside0.mk (Below.refl wv.heap.size wv)))
    replace BKgx := kd_ BKgx
    replace HB := bd_ HB
    replace HV := bd_ HV
    refine sM_ [] (fun w' => (w'.cell? ⟨gx, 0, none⟩ = some (.pointer (some ⟨g1, 0, none⟩)) ∧ w'.cell? ⟨gx, 1, none⟩ = some (.pointer (some ⟨g2, 0, none⟩)) ∧ w'.cell? ⟨gx, 2, none⟩ = some (.pointer (some ⟨g3, 0, none⟩)))) vessel_Sizes.tab5 vessel_Sizes.bits5 (c3_ BKgx) (fun hHeld HT_ HW_ => ?_)
    generalize wv.drew = w5 at BKgx HB HV hHeld ⊢
    refine pM_ HT_ 0 15 1 ?_
    refine pM_ HT_ 3 18 9 ?_
    refine pM_ HT_ 6 21 73 ?_
    refine tM_ HT_ HW_ hHeld 1 16 75 ?_
    refine tM_ HT_ HW_ hHeld 4 19 91 ?_
    refine tM_ HT_ HW_ hHeld 7 22 219 ?_
    refine oM_ HT_ 2 (some 17) 223 (fun K hK => ?_)
    refine gM_ Try.func118 (C1.out _ _ _ _ (VE.out.below HV.out)) ?_
    rintro e w6 ⟨rfl, hb⟩
    refine ⟨.int .i64 (sm (hsO l0)), rfl, ?_⟩
    replace hb := nb_ HB hb
    replace BKgx := kb_ BKgx hb
    replace HB := bs_ HB hb
    replace HV := bs_ HV hb
    (try clear hb)
    refine hK.out _ _ (c3_ BKgx) (fun hHeld => ?_)
    clear hK K
    refine nM_ ?_
    refine oM_ HT_ 5 (some 20) 255 (fun K hK => ?_)
    refine gM_ Try.func99 (C2.out _ _ _ _ (VE.out.below HV.out)) ?_
    rintro e w7 ⟨rfl, hb⟩
    refine ⟨.int .i64 (sm (vsO l0)), rfl, ?_⟩
    replace hb := nb_ HB hb
    replace BKgx := kb_ BKgx hb
    replace HB := bs_ HB hb
    replace HV := bs_ HV hb
    (try clear hb)
    refine hK.out _ _ (c3_ BKgx) (fun hHeld => ?_)
    clear hK K
    refine nM_ ?_
    refine oM_ HT_ 8 (some 23) 511 (fun K hK => ?_)
    refine gM_ Try.func89 (C3.out _ _ _ _ (VE.out.below HV.out)) ?_
    rintro e w8 ⟨rfl, hb⟩
    refine ⟨.int .i64 (sm (dsO l0)), rfl, ?_⟩
    replace hb := nb_ HB hb
    replace BKgx := kb_ BKgx hb
    replace HB := bs_ HB hb
    replace HV := bs_ HV hb
    (try clear hb)
    refine hK.out _ _ (c3_ BKgx) (fun hHeld => ?_)
    clear hK K
    refine nM_ ?_
    refine pM_ HT_ 9 2 1023 ?_
    refine pM_ HT_ 10 3 2047 ?_
    refine pM_ HT_ 11 4 4095 ?_
    refine pM_ HT_ 12 5 8191 ?_
    refine dM_ HT_ ?_
    try go_wp2
    refine bodyPost_ret (results_list (rs := [.tmp 2, .tmp 3, .tmp 4, .tmp 5]) rfl (by simp) (.tmp (.tmp (.tmp (.tmp .nil))))) rfl ?_
    exact ⟨rfl, HB.out⟩
  · rw [if_neg hv] at h
    obtain ⟨rfl, rfl, rfl, rfl⟩ : (0 : Int) = r1 ∧ (0 : Int) = r2 ∧ (0 : Int) = r3 ∧ (20 : Int) = r4 := by simpa using h
    clear h
    have HK : Aside0 (vessel_Check.f 30 l0 = some 20) := ⟨by rw [vCheck]; unfold checkF; rw [if_neg hv]⟩
    clear hv
    go_enter Try.func49, Try.ntmps49
    go_wp2_with (first | ((with_reducible refine gate_callee (f := 48) rfl ?_); refine gL_ (some 9) Try.func48 (vessel_Check.calls 30 A0 c0 l0 20 _ (Kd.C_below HR0.out HB.out) HC0.out HK.out) ?_; rintro e w2 ⟨rfl, hb⟩; refine ⟨.int .i64 20, rfl, ?_⟩; replace hb := nb_ HB hb; replace HB := bs_ HB hb; clear hb))
    try go_wp2
    refine bodyPost_ret (results_list (rs := [.tmp 2, .tmp 3, .tmp 4, .tmp 5]) rfl (by simp) (.tmp (.tmp (.tmp (.tmp .nil))))) rfl ?_
    exact ⟨rfl, HB.out⟩
end Go.Proofs.Ytlhfclpbodfmcaa.Pr
