/- A part of the proof: ScJ. -/
import Derived.Test.YtlhfclpbodfmcaaGreatDoorYBScG
import Derived.Test.YtlhfclpbodfmcaaGreatDoorYBCj
import Derived.Test.YtlhfclpbodfmcaaGreatDoorYBScI
import Derived.Outline
namespace Go.Proofs.YtlhfclpbodfmcaaGreatDoor.Pr
open Go.RowKit Go.Proofs.YtlhfclpbodfmcaaGreatDoorW.PrintWords Go.Proofs.YtlhfclpbodfmcaaGreatDoorW.PrintLast Go.Proofs.YtlhfclpbodfmcaaGreatDoorW.PrintMore
open Go.Proofs.YtlhfclpbodfmcaaGreatDoor.Vm
set_option linter.unusedVariables false
set_option linter.unusedSimpArgs false
theorem below_of_drawn {w w' : World} (h : Drawn0 w w') : Below w.heap.size w w' := by
  obtain ⟨n, rfl⟩ := h.out
  exact pw_below_drewN (Below.refl _ _) n
theorem isMany_f (n : Int) : vessel_isMany.f n = some (decide (0 ≤ n ∧ n ≤ 16777216)) := by
  unfold vessel_isMany.f
  by_cases h : n ≥ 0
  · rw [if_pos h]
    by_cases h2 : n ≤ 16777216
    · rw [decide_eq_true h2, decide_eq_true ⟨h, h2⟩]
    · rw [decide_eq_false h2, decide_eq_false (by omega)]
  · rw [if_neg h, decide_eq_false (by omega)]
set_option maxHeartbeats 1600000 in
set_option maxRecDepth 100000 in
theorem vessel_isLevel.calls (hs vs ds : List Int) (g1 g2 g3 : Nat) (n : Int) (w : World) (hV : VeAt w hs vs ds g1 g2 g3) (hG : GV hs vs ds) :
    Calls Tryz.prog 37 #[.agg #[.pointer (some ⟨g1, 0, none⟩), .pointer (some ⟨g2, 0, none⟩), .pointer (some ⟨g3, 0, none⟩)], .int .i64 n] w fun e w' => e = .returned (.bool (decide (0 ≤ n ∧ n ≤ sm hs))) ∧ Below w.heap.size w w' := by
  have hu86 := Tryz.underlying73
  have C1 : Aside0 (∀ W, Below w.heap.size w W → Calls Tryz.prog 74 #[.pointer (some ⟨g1, 0, none⟩)] W fun e w' => e = .returned (.int .i64 (sm hs)) ∧ Below W.heap.size W w') := ⟨fun W hB => by have h := height_all.calls2 g1 hs (sums 0 hs) W (hV.below hB).s1 (by rw [sums_length]; omega); rw [hG.h.rd (by decide) (Nat.le_refl _), List.take_length] at h; exact h⟩
  have HB := Aside0.mk (Below.refl w.heap.size w)
  clear hV hG
  by_cases hn : 0 ≤ n
  · have hd1 : decide (0 ≤ n) = true := decide_eq_true hn
    have HE : Aside0 (decide (0 ≤ n ∧ n ≤ sm hs) = decide (n ≤ sm hs)) := ⟨by simp [hn]⟩
    rw [HE.out]
    clear HE hn
    go_enter Tryz.func37, Tryz.ntmps37
    go_wp2_with (first | ((with_reducible refine gate_dst (N := 2) rfl ?_); refine bx_ 2 #[.pointer (some ⟨g1, 0, none⟩), .pointer (some ⟨g2, 0, none⟩), .pointer (some ⟨g3, 0, none⟩)] 73 ?_; intro ga hg w1 hbox hb; have GEga := ge_ hg HB; replace hb := nb_ HB hb; replace HB := bs_ HB hb; have BKga := Aside0.mk hbox; obtain ⟨Oga_0, Oga_1, Oga_2⟩ := c3_ BKga; clear hb hbox hg))
    refine (C1.out _ HB.out).mono ?_
    rintro e w2 ⟨rfl, hb⟩
    replace hb := nb_ HB hb
    replace BKga := kb_ BKga hb
    replace HB := bs_ HB hb
    clear Oga_0 Oga_1 Oga_2
    obtain ⟨Oga_0, Oga_1, Oga_2⟩ := c3_ BKga
    clear hb
    go_wp2
    go_ret
    exact ⟨rfl, HB.out⟩
  · have hd1 : decide (0 ≤ n) = false := decide_eq_false hn
    have HE : Aside0 (decide (0 ≤ n ∧ n ≤ sm hs) = false) := ⟨decide_eq_false (by omega)⟩
    rw [HE.out]
    clear HE hn
    go_enter Tryz.func37, Tryz.ntmps37
    go_wp2_with (first | ((with_reducible refine gate_dst (N := 2) rfl ?_); refine bx_ 2 #[.pointer (some ⟨g1, 0, none⟩), .pointer (some ⟨g2, 0, none⟩), .pointer (some ⟨g3, 0, none⟩)] 73 ?_; intro ga hg w1 hbox hb; have GEga := ge_ hg HB; replace hb := nb_ HB hb; replace HB := bs_ HB hb; have BKga := Aside0.mk hbox; clear hb hbox hg))
    go_ret
    exact ⟨rfl, HB.out⟩
set_option maxHeartbeats 1600000 in
set_option maxRecDepth 100000 in
theorem vessel_open.calls (A0 : Option Addr) (c0 : Nat) (l0 : List S79) (w : World) (hr0 : Kd.C k79 w A0 l0.length l0) (hn : l0.length ≤ 900) :
    Calls Tryz.prog 36 #[.slice A0 l0.length c0] w (VeRet w (l0.map (·.f0)) (l0.map (·.f1)) (l0.map (·.f2))) := by
  have hu86 := Tryz.underlying73
  have HR0 := Aside0.mk hr0
  have HN := Aside0.mk hn
  clear hr0 hn
  have HB := Aside0.mk (Below.refl w.heap.size w)
  go_enter Tryz.func36, Tryz.ntmps36
  go_wp2_with (first | ((with_reducible refine gate_dst (N := 2) rfl ?_); refine bx_ 2 #[.pointer none, .pointer none, .pointer none] 73 ?_; intro gb hg w1 hbox hb; have GEgb := ge_ hg HB; replace hb := nb_ HB hb; replace HB := bs_ HB hb; have BKgb := Aside0.mk hbox; clear hb hbox hg) | ((with_reducible refine gate_callee (f := 69) rfl ?_); refine gL_ (some 4) Tryz.func69 (height_scaled.calls A0 c0 l0 _ (Kd.C_below HR0.out HB.out) HN.out) ?_; have SZ1 : Aside0 (w.heap.size ≤ _) := Aside0.mk HB.out.size; rintro e w2 ⟨g1, rfl, s_, hb⟩; refine ⟨.pointer (some ⟨g1, 0, none⟩), rfl, ?_⟩; replace hb := nb_ HB hb; replace BKgb := kb_ BKgb hb; replace HB := bs_ HB hb; have SC1 := Aside0.mk (ScX.mono s_ (fun k_ hk_ => Nat.lt_of_lt_of_le hk_ SZ1.out)); clear s_; clear hb) | ((with_reducible refine gate_callee (f := 71) rfl ?_); refine gL_ (some 6) Tryz.func71 (volume_scaled.calls A0 c0 l0 _ (Kd.C_below HR0.out HB.out) HN.out) ?_; have SZ2 : Aside0 (w.heap.size ≤ _) := Aside0.mk HB.out.size; rintro e w3 ⟨g2, rfl, s_, hb⟩; refine ⟨.pointer (some ⟨g2, 0, none⟩), rfl, ?_⟩; replace hb := nb_ HB hb; replace BKgb := kb_ BKgb hb; replace SC1 := Aside0.mk (ScX.below SC1.out hb); replace HB := bs_ HB hb; have SC2 := Aside0.mk (ScX.mono s_ (fun k_ hk_ => Nat.lt_of_lt_of_le hk_ SZ2.out)); clear s_; clear hb) | ((with_reducible refine gate_callee (f := 73) rfl ?_); refine gL_ (some 8) Tryz.func73 (minute_scaled.calls A0 c0 l0 _ (Kd.C_below HR0.out HB.out) HN.out) ?_; have SZ3 : Aside0 (w.heap.size ≤ _) := Aside0.mk HB.out.size; rintro e w4 ⟨g3, rfl, s_, hb⟩; refine ⟨.pointer (some ⟨g3, 0, none⟩), rfl, ?_⟩; replace hb := nb_ HB hb; replace BKgb := kb_ BKgb hb; replace SC1 := Aside0.mk (ScX.below SC1.out hb); replace SC2 := Aside0.mk (ScX.below SC2.out hb); replace HB := bs_ HB hb; have SC3 := Aside0.mk (ScX.mono s_ (fun k_ hk_ => Nat.lt_of_lt_of_le hk_ SZ3.out)); clear s_; clear hb) | ((with_reducible refine gate_store (t := 73) (p := 2) rfl ?_); have hc_ := cf3_ BKgb; refine st3_ ?_; intro w5 hp_; clear hc_; have VE := Aside0.mk (VeX.mk SC1.out SC2.out SC3.out); clear SC1 SC2 SC3; replace VE : Aside0 (VeX w5 (fun k => k < w.heap.size) (l0.map (·.f0)) (l0.map (·.f1)) (l0.map (·.f2)) g1 g2 g3) := ⟨by rw [← hp_.e]; exact VE.out.set3 BKgb.out⟩; replace BKgb := pp3_ BKgb hp_; replace HB := pb3_ GEgb HB hp_; clear hp_))
  try go_wp2
  refine bodyPost_ret (results_cell_row rfl _ _ gb 73 #[.pointer (some ⟨g1, 0, none⟩), .pointer (some ⟨g2, 0, none⟩), .pointer (some ⟨g3, 0, none⟩)] (0, 0) _ rfl BKgb.out Tryz.underlying73 rfl (by kernel_rfl)) rfl ?_
  exact ⟨g1, g2, g3, rfl, VE.out, HB.out⟩
set_option maxHeartbeats 1600000 in
set_option maxRecDepth 100000 in
theorem vessel_asked.bad (A0 : Option Addr) (c0 : Nat) (l0 : List S79) (lv n : Int) (w : World) (hr0 : Kd.C k79 w A0 l0.length l0) (hc0 : l0.length ≤ c0) (hv : validB l0 = false) :
    Calls Tryz.prog 41 #[.slice A0 l0.length c0, .int .i64 lv, .int .i64 n] w fun e w' => e = .returned (.tuple #[.agg #[.pointer none, .pointer none, .pointer none], .int .i64 20]) ∧ Below w.heap.size w w' := by
  have hu86 := Tryz.underlying73
  have HR0 := Aside0.mk hr0
  have HC0 := Aside0.mk hc0
  have hck : vessel_Check.f 30 l0 = some 20 := by rw [vCheck]; unfold checkF; rw [hv]; rfl
  have HK := Aside0.mk hck
  clear hr0 hc0 hck hv
  have HB := Aside0.mk (Below.refl w.heap.size w)
  go_enter Tryz.func41, Tryz.ntmps41
  go_wp2_with (first | ((with_reducible refine gate_dst (N := 6) rfl ?_); refine bx_ 6 #[.pointer none, .pointer none, .pointer none] 73 ?_; intro gb hg w1 hbox hb; have GEgb := ge_ hg HB; replace hb := nb_ HB hb; replace HB := bs_ HB hb; have BKgb := Aside0.mk hbox; clear hb hbox hg) | ((with_reducible refine gate_callee (f := 26) rfl ?_); refine gL_ (some 11) Tryz.func26 (vessel_Check.calls 30 A0 c0 l0 20 _ (Kd.C_below HR0.out HB.out) HC0.out HK.out) ?_; rintro e w2 ⟨rfl, hb⟩; refine ⟨.int .i64 20, rfl, ?_⟩; replace hb := nb_ HB hb; replace BKgb := kb_ BKgb hb; replace HB := bs_ HB hb; clear hb) | ((with_reducible refine gate_store (t := 73) (p := 6) rfl ?_); have hc_ := cf3_ BKgb; refine st3_ ?_; intro w3 hp_; clear hc_; replace BKgb := pp3_ BKgb hp_; replace HB := pb3_ GEgb HB hp_; clear hp_))
  try go_wp2
  refine bodyPost_ret (results_ct rfl _ _ gb 73 #[.pointer none, .pointer none, .pointer none] (0, 0) _ rfl BKgb.out Tryz.underlying73 rfl (by kernel_rfl)) rfl ?_
  exact ⟨rfl, HB.out⟩
set_option maxHeartbeats 1600000 in
set_option maxRecDepth 100000 in
theorem vessel_asked.arg (A0 : Option Addr) (c0 : Nat) (l0 : List S79) (lv n : Int) (w : World) (hr0 : Kd.C k79 w A0 l0.length l0) (hc0 : l0.length ≤ c0) (hv : validB l0 = true) (ha : ¬ ((0 ≤ lv ∧ lv ≤ sm (l0.map (·.f0))) ∧ (0 ≤ n ∧ n ≤ 16777216))) :
    Calls Tryz.prog 41 #[.slice A0 l0.length c0, .int .i64 lv, .int .i64 n] w fun e w' => e = .returned (.tuple #[.agg #[.pointer none, .pointer none, .pointer none], .int .i64 1]) ∧ Below w.heap.size w w' := by
  have hu86 := Tryz.underlying73
  have HR0 := Aside0.mk hr0
  have HC0 := Aside0.mk hc0
  have hck : vessel_Check.f 30 l0 = some 0 := by rw [vCheck]; unfold checkF; rw [hv]; rfl
  have HK := Aside0.mk hck
  have HG := Aside0.mk (valid_GV hv)
  have hn9 : l0.length ≤ 900 := by have := HG.out.h.ln; rw [List.length_map] at this; omega
  have HN := Aside0.mk hn9
  clear hr0 hc0 hck hv hn9
  have HB := Aside0.mk (Below.refl w.heap.size w)
  by_cases hl : 0 ≤ lv ∧ lv ≤ sm (l0.map (·.f0))
  · have hm : ¬ (0 ≤ n ∧ n ≤ 16777216) := by omega
    have C1 : Aside0 (∀ W g1 g2 g3, VeAt W (l0.map (·.f0)) (l0.map (·.f1)) (l0.map (·.f2)) g1 g2 g3 → Calls Tryz.prog 37 #[.agg #[.pointer (some ⟨g1, 0, none⟩), .pointer (some ⟨g2, 0, none⟩), .pointer (some ⟨g3, 0, none⟩)], .int .i64 lv] W fun e w' => e = .returned (.bool true) ∧ Below W.heap.size W w') := ⟨fun W g1 g2 g3 hV => by have h := vessel_isLevel.calls _ _ _ g1 g2 g3 lv W hV HG.out; rwa [decide_eq_true hl] at h⟩
    have C2 : Aside0 (∀ W, Calls Tryz.prog 77 #[.int .i64 n] W fun e w' => e = .returned (.bool false) ∧ Drawn0 W w') := ⟨fun W => vessel_isMany.calls n false W (by rw [isMany_f, decide_eq_false hm])⟩
    clear hl hm
    go_enter Tryz.func41, Tryz.ntmps41
    go_wp2_with (first | ((with_reducible refine gate_dst (N := 6) rfl ?_); refine bx_ 6 #[.pointer none, .pointer none, .pointer none] 73 ?_; intro gb hg w1 hbox hb; have GEgb := ge_ hg HB; replace hb := nb_ HB hb; replace HB := bs_ HB hb; have BKgb := Aside0.mk hbox; clear hb hbox hg) | ((with_reducible refine gate_callee (f := 26) rfl ?_); refine gL_ (some 11) Tryz.func26 (vessel_Check.calls 30 A0 c0 l0 0 _ (Kd.C_below HR0.out HB.out) HC0.out HK.out) ?_; rintro e w2 ⟨rfl, hb⟩; refine ⟨.int .i64 0, rfl, ?_⟩; replace hb := nb_ HB hb; replace BKgb := kb_ BKgb hb; replace HB := bs_ HB hb; clear hb) | ((with_reducible refine gate_callee (f := 36) rfl ?_); refine gL_ (some 17) Tryz.func36 (vessel_open.calls A0 c0 l0 _ (Kd.C_below HR0.out HB.out) HN.out) ?_; rintro e w3 ⟨g1, g2, g3, rfl, s_, hb⟩; refine ⟨.agg #[.pointer (some ⟨g1, 0, none⟩), .pointer (some ⟨g2, 0, none⟩), .pointer (some ⟨g3, 0, none⟩)], rfl, ?_⟩; replace hb := nb_ HB hb; replace BKgb := kb_ BKgb hb; replace HB := bs_ HB hb; have VE := Aside0.mk s_.at_; clear s_; clear hb) | ((with_reducible refine gate_dst (N := 9) rfl ?_); refine bx_ 9 #[.pointer none, .pointer none, .pointer none] 73 ?_; intro gc hg w4 hbox hb; have GEgc := ge_ hg HB; have NEgb_gc := ne_ hg BKgb; replace hb := nb_ HB hb; replace BKgb := kb_ BKgb hb; replace VE := Aside0.mk (VeAt.below VE.out hb); replace HB := bs_ HB hb; have BKgc := Aside0.mk hbox; obtain ⟨Ogc_0, Ogc_1, Ogc_2⟩ := c3_ BKgc; clear hb hbox hg) | ((with_reducible refine gate_store (t := 73) (p := 9) rfl ?_); have hc_ := cf3_ BKgc; refine st3_ ?_; intro w5 hp_; clear hc_; clear Ogc_0 Ogc_1 Ogc_2; replace VE : Aside0 (VeAt w5 (l0.map (·.f0)) (l0.map (·.f1)) (l0.map (·.f2)) g1 g2 g3) := ⟨by rw [← hp_.e]; exact VE.out.set3 BKgc.out⟩; replace BKgb := pf3_ NEgb_gc BKgb hp_; replace BKgc := pp3_ BKgc hp_; replace HB := pb3_ GEgc HB hp_; clear hp_; obtain ⟨Ogc_0, Ogc_1, Ogc_2⟩ := c3_ BKgc))
    refine (C1.out _ _ _ _ VE.out).mono ?_
    rintro e w6 ⟨rfl, hb⟩
    replace hb := nb_ HB hb
    replace BKgb := kb_ BKgb hb
    replace BKgc := kb_ BKgc hb
    replace VE := Aside0.mk (VeAt.below VE.out hb)
    replace HB := bs_ HB hb
    clear Ogc_0 Ogc_1 Ogc_2
    obtain ⟨Ogc_0, Ogc_1, Ogc_2⟩ := c3_ BKgc
    clear hb
    go_wp2_with fail
    refine (C2.out _).mono ?_
    rintro e w7 ⟨rfl, hq⟩
    have hb := below_of_drawn hq
    replace hb := nb_ HB hb
    replace BKgb := kb_ BKgb hb
    replace BKgc := kb_ BKgc hb
    replace VE := Aside0.mk (VeAt.below VE.out hb)
    replace HB := bs_ HB hb
    clear Ogc_0 Ogc_1 Ogc_2
    obtain ⟨Ogc_0, Ogc_1, Ogc_2⟩ := c3_ BKgc
    clear hb hq
    go_wp2_with (first | ((with_reducible refine gate_store (t := 73) (p := 6) rfl ?_); have hc_ := cf3_ BKgb; refine st3_ ?_; intro w8 hp_; clear hc_; clear Ogc_0 Ogc_1 Ogc_2; replace VE : Aside0 (VeAt w8 (l0.map (·.f0)) (l0.map (·.f1)) (l0.map (·.f2)) g1 g2 g3) := ⟨by rw [← hp_.e]; exact VE.out.set3 BKgb.out⟩; replace BKgb := pp3_ BKgb hp_; replace BKgc := pf3r_ NEgb_gc BKgc hp_; replace HB := pb3_ GEgb HB hp_; clear hp_; obtain ⟨Ogc_0, Ogc_1, Ogc_2⟩ := c3_ BKgc))
    try go_wp2
    refine bodyPost_ret (results_ct rfl _ _ gb 73 #[.pointer none, .pointer none, .pointer none] (0, 0) _ rfl BKgb.out Tryz.underlying73 rfl (by kernel_rfl)) rfl ?_
    exact ⟨rfl, HB.out⟩
  · have C1 : Aside0 (∀ W g1 g2 g3, VeAt W (l0.map (·.f0)) (l0.map (·.f1)) (l0.map (·.f2)) g1 g2 g3 → Calls Tryz.prog 37 #[.agg #[.pointer (some ⟨g1, 0, none⟩), .pointer (some ⟨g2, 0, none⟩), .pointer (some ⟨g3, 0, none⟩)], .int .i64 lv] W fun e w' => e = .returned (.bool false) ∧ Below W.heap.size W w') := ⟨fun W g1 g2 g3 hV => by have h := vessel_isLevel.calls _ _ _ g1 g2 g3 lv W hV HG.out; rwa [decide_eq_false hl] at h⟩
    clear hl
    go_enter Tryz.func41, Tryz.ntmps41
    go_wp2_with (first | ((with_reducible refine gate_dst (N := 6) rfl ?_); refine bx_ 6 #[.pointer none, .pointer none, .pointer none] 73 ?_; intro gb hg w1 hbox hb; have GEgb := ge_ hg HB; replace hb := nb_ HB hb; replace HB := bs_ HB hb; have BKgb := Aside0.mk hbox; clear hb hbox hg) | ((with_reducible refine gate_callee (f := 26) rfl ?_); refine gL_ (some 11) Tryz.func26 (vessel_Check.calls 30 A0 c0 l0 0 _ (Kd.C_below HR0.out HB.out) HC0.out HK.out) ?_; rintro e w2 ⟨rfl, hb⟩; refine ⟨.int .i64 0, rfl, ?_⟩; replace hb := nb_ HB hb; replace BKgb := kb_ BKgb hb; replace HB := bs_ HB hb; clear hb) | ((with_reducible refine gate_callee (f := 36) rfl ?_); refine gL_ (some 17) Tryz.func36 (vessel_open.calls A0 c0 l0 _ (Kd.C_below HR0.out HB.out) HN.out) ?_; rintro e w3 ⟨g1, g2, g3, rfl, s_, hb⟩; refine ⟨.agg #[.pointer (some ⟨g1, 0, none⟩), .pointer (some ⟨g2, 0, none⟩), .pointer (some ⟨g3, 0, none⟩)], rfl, ?_⟩; replace hb := nb_ HB hb; replace BKgb := kb_ BKgb hb; replace HB := bs_ HB hb; have VE := Aside0.mk s_.at_; clear s_; clear hb) | ((with_reducible refine gate_dst (N := 9) rfl ?_); refine bx_ 9 #[.pointer none, .pointer none, .pointer none] 73 ?_; intro gc hg w4 hbox hb; have GEgc := ge_ hg HB; have NEgb_gc := ne_ hg BKgb; replace hb := nb_ HB hb; replace BKgb := kb_ BKgb hb; replace VE := Aside0.mk (VeAt.below VE.out hb); replace HB := bs_ HB hb; have BKgc := Aside0.mk hbox; obtain ⟨Ogc_0, Ogc_1, Ogc_2⟩ := c3_ BKgc; clear hb hbox hg) | ((with_reducible refine gate_store (t := 73) (p := 9) rfl ?_); have hc_ := cf3_ BKgc; refine st3_ ?_; intro w5 hp_; clear hc_; clear Ogc_0 Ogc_1 Ogc_2; replace VE : Aside0 (VeAt w5 (l0.map (·.f0)) (l0.map (·.f1)) (l0.map (·.f2)) g1 g2 g3) := ⟨by rw [← hp_.e]; exact VE.out.set3 BKgc.out⟩; replace BKgb := pf3_ NEgb_gc BKgb hp_; replace BKgc := pp3_ BKgc hp_; replace HB := pb3_ GEgc HB hp_; clear hp_; obtain ⟨Ogc_0, Ogc_1, Ogc_2⟩ := c3_ BKgc))
    refine (C1.out _ _ _ _ VE.out).mono ?_
    rintro e w6 ⟨rfl, hb⟩
    replace hb := nb_ HB hb
    replace BKgb := kb_ BKgb hb
    replace BKgc := kb_ BKgc hb
    replace VE := Aside0.mk (VeAt.below VE.out hb)
    replace HB := bs_ HB hb
    clear Ogc_0 Ogc_1 Ogc_2
    obtain ⟨Ogc_0, Ogc_1, Ogc_2⟩ := c3_ BKgc
    clear hb
    go_wp2_with (first | ((with_reducible refine gate_store (t := 73) (p := 6) rfl ?_); have hc_ := cf3_ BKgb; refine st3_ ?_; intro w8 hp_; clear hc_; clear Ogc_0 Ogc_1 Ogc_2; replace VE : Aside0 (VeAt w8 (l0.map (·.f0)) (l0.map (·.f1)) (l0.map (·.f2)) g1 g2 g3) := ⟨by rw [← hp_.e]; exact VE.out.set3 BKgb.out⟩; replace BKgb := pp3_ BKgb hp_; replace BKgc := pf3r_ NEgb_gc BKgc hp_; replace HB := pb3_ GEgb HB hp_; clear hp_; obtain ⟨Ogc_0, Ogc_1, Ogc_2⟩ := c3_ BKgc))
    try go_wp2
    refine bodyPost_ret (results_ct rfl _ _ gb 73 #[.pointer none, .pointer none, .pointer none] (0, 0) _ rfl BKgb.out Tryz.underlying73 rfl (by kernel_rfl)) rfl ?_
    exact ⟨rfl, HB.out⟩
/-- What asked comes to where all is well. -/
def AskRet (w : World) (l : List S79) (e : Ending) (w' : World) : Prop := ∃ g1 g2 g3, e = .returned (.tuple #[.agg #[.pointer (some ⟨g1, 0, none⟩), .pointer (some ⟨g2, 0, none⟩), .pointer (some ⟨g3, 0, none⟩)], .int .i64 0]) ∧ VeAt w' (l.map (·.f0)) (l.map (·.f1)) (l.map (·.f2)) g1 g2 g3 ∧ Below w.heap.size w w'
set_option maxHeartbeats 1600000 in
set_option maxRecDepth 100000 in
theorem vessel_asked.good (A0 : Option Addr) (c0 : Nat) (l0 : List S79) (lv n : Int) (w : World) (hr0 : Kd.C k79 w A0 l0.length l0) (hc0 : l0.length ≤ c0) (hv : validB l0 = true) (hl : 0 ≤ lv ∧ lv ≤ sm (l0.map (·.f0))) (hm : 0 ≤ n ∧ n ≤ 16777216) :
    Calls Tryz.prog 41 #[.slice A0 l0.length c0, .int .i64 lv, .int .i64 n] w (AskRet w l0) := by
  have hu86 := Tryz.underlying73
  have HR0 := Aside0.mk hr0
  have HC0 := Aside0.mk hc0
  have hck : vessel_Check.f 30 l0 = some 0 := by rw [vCheck]; unfold checkF; rw [hv]; rfl
  have HK := Aside0.mk hck
  have HG := Aside0.mk (valid_GV hv)
  have hn9 : l0.length ≤ 900 := by have := HG.out.h.ln; rw [List.length_map] at this; omega
  have HN := Aside0.mk hn9
  clear hr0 hc0 hck hv hn9
  have HB := Aside0.mk (Below.refl w.heap.size w)
  have C1 : Aside0 (∀ W g1 g2 g3, VeAt W (l0.map (·.f0)) (l0.map (·.f1)) (l0.map (·.f2)) g1 g2 g3 → Calls Tryz.prog 37 #[.agg #[.pointer (some ⟨g1, 0, none⟩), .pointer (some ⟨g2, 0, none⟩), .pointer (some ⟨g3, 0, none⟩)], .int .i64 lv] W fun e w' => e = .returned (.bool true) ∧ Below W.heap.size W w') := ⟨fun W g1 g2 g3 hV => by have h := vessel_isLevel.calls _ _ _ g1 g2 g3 lv W hV HG.out; rwa [decide_eq_true hl] at h⟩
  have C2 : Aside0 (∀ W, Calls Tryz.prog 77 #[.int .i64 n] W fun e w' => e = .returned (.bool true) ∧ Drawn0 W w') := ⟨fun W => vessel_isMany.calls n true W (by rw [isMany_f, decide_eq_true hm])⟩
  clear hl hm
  go_enter Tryz.func41, Tryz.ntmps41
  go_wp2_with (first | ((with_reducible refine gate_dst (N := 6) rfl ?_); refine bx_ 6 #[.pointer none, .pointer none, .pointer none] 73 ?_; intro gb hg w1 hbox hb; have GEgb := ge_ hg HB; replace hb := nb_ HB hb; replace HB := bs_ HB hb; have BKgb := Aside0.mk hbox; clear hb hbox hg) | ((with_reducible refine gate_callee (f := 26) rfl ?_); refine gL_ (some 11) Tryz.func26 (vessel_Check.calls 30 A0 c0 l0 0 _ (Kd.C_below HR0.out HB.out) HC0.out HK.out) ?_; rintro e w2 ⟨rfl, hb⟩; refine ⟨.int .i64 0, rfl, ?_⟩; replace hb := nb_ HB hb; replace BKgb := kb_ BKgb hb; replace HB := bs_ HB hb; clear hb) | ((with_reducible refine gate_callee (f := 36) rfl ?_); refine gL_ (some 17) Tryz.func36 (vessel_open.calls A0 c0 l0 _ (Kd.C_below HR0.out HB.out) HN.out) ?_; rintro e w3 ⟨g1, g2, g3, rfl, s_, hb⟩; refine ⟨.agg #[.pointer (some ⟨g1, 0, none⟩), .pointer (some ⟨g2, 0, none⟩), .pointer (some ⟨g3, 0, none⟩)], rfl, ?_⟩; replace hb := nb_ HB hb; replace BKgb := kb_ BKgb hb; replace HB := bs_ HB hb; have VE := Aside0.mk s_.at_; clear s_; clear hb) | ((with_reducible refine gate_dst (N := 9) rfl ?_); refine bx_ 9 #[.pointer none, .pointer none, .pointer none] 73 ?_; intro gc hg w4 hbox hb; have GEgc := ge_ hg HB; have NEgb_gc := ne_ hg BKgb; replace hb := nb_ HB hb; replace BKgb := kb_ BKgb hb; replace VE := Aside0.mk (VeAt.below VE.out hb); replace HB := bs_ HB hb; have BKgc := Aside0.mk hbox; obtain ⟨Ogc_0, Ogc_1, Ogc_2⟩ := c3_ BKgc; clear hb hbox hg) | ((with_reducible refine gate_store (t := 73) (p := 9) rfl ?_); have hc_ := cf3_ BKgc; refine st3_ ?_; intro w5 hp_; clear hc_; clear Ogc_0 Ogc_1 Ogc_2; replace VE : Aside0 (VeAt w5 (l0.map (·.f0)) (l0.map (·.f1)) (l0.map (·.f2)) g1 g2 g3) := ⟨by rw [← hp_.e]; exact VE.out.set3 BKgc.out⟩; replace BKgb := pf3_ NEgb_gc BKgb hp_; replace BKgc := pp3_ BKgc hp_; replace HB := pb3_ GEgc HB hp_; clear hp_; obtain ⟨Ogc_0, Ogc_1, Ogc_2⟩ := c3_ BKgc))
  refine (C1.out _ _ _ _ VE.out).mono ?_
  rintro e w6 ⟨rfl, hb⟩
  replace hb := nb_ HB hb
  replace BKgb := kb_ BKgb hb
  replace BKgc := kb_ BKgc hb
  replace VE := Aside0.mk (VeAt.below VE.out hb)
  replace HB := bs_ HB hb
  clear Ogc_0 Ogc_1 Ogc_2
  obtain ⟨Ogc_0, Ogc_1, Ogc_2⟩ := c3_ BKgc
  clear hb
  go_wp2_with fail
  refine (C2.out _).mono ?_
  rintro e w7 ⟨rfl, hq⟩
  have hb := below_of_drawn hq
  replace hb := nb_ HB hb
  replace BKgb := kb_ BKgb hb
  replace BKgc := kb_ BKgc hb
  replace VE := Aside0.mk (VeAt.below VE.out hb)
  replace HB := bs_ HB hb
  clear Ogc_0 Ogc_1 Ogc_2
  obtain ⟨Ogc_0, Ogc_1, Ogc_2⟩ := c3_ BKgc
  clear hb hq
  go_wp2_with (first | ((with_reducible refine gate_store (t := 73) (p := 6) rfl ?_); have hc_ := cf3_ BKgb; refine st3_ ?_; intro w8 hp_; clear hc_; clear Ogc_0 Ogc_1 Ogc_2; replace VE : Aside0 (VeAt w8 (l0.map (·.f0)) (l0.map (·.f1)) (l0.map (·.f2)) g1 g2 g3) := ⟨by rw [← hp_.e]; exact VE.out.set3 BKgb.out⟩; replace BKgb := pp3_ BKgb hp_; replace BKgc := pf3r_ NEgb_gc BKgc hp_; replace HB := pb3_ GEgb HB hp_; clear hp_; obtain ⟨Ogc_0, Ogc_1, Ogc_2⟩ := c3_ BKgc))
  try go_wp2
  refine bodyPost_ret (results_ct rfl _ _ gb 73 #[.pointer (some ⟨g1, 0, none⟩), .pointer (some ⟨g2, 0, none⟩), .pointer (some ⟨g3, 0, none⟩)] (0, 0) _ rfl BKgb.out Tryz.underlying73 rfl (by kernel_rfl)) rfl ?_
  exact ⟨g1, g2, g3, rfl, VE.out, HB.out⟩
end Go.Proofs.YtlhfclpbodfmcaaGreatDoor.Pr
