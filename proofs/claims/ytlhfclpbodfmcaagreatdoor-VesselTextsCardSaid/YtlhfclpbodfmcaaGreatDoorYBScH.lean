/- A part of the proof: ScH. -/
import Derived.Test.YtlhfclpbodfmcaaGreatDoorYBScG
import Derived.Test.YtlhfclpbodfmcaaGreatDoorYBKq
import Derived.Outline
namespace Go.Proofs.YtlhfclpbodfmcaaGreatDoor.Pr
open Go.RowKit Go.Proofs.YtlhfclpbodfmcaaGreatDoorW.PrintWords Go.Proofs.YtlhfclpbodfmcaaGreatDoorW.PrintLast Go.Proofs.YtlhfclpbodfmcaaGreatDoorW.PrintMore
open Go.Proofs.YtlhfclpbodfmcaaGreatDoor.Vm
set_option linter.unusedVariables false
set_option linter.unusedSimpArgs false
def vessel_time.T1 : Bool × List (List Nat × List Nat) := (true, [([], []), ([0], [0]), ([], []), ([2], [2]), ([], []), ([4], [4]), ([3, 5, 5], [3, 5]), ([1, 6, 6], [1, 6]), ([7, 7, 0, 1, 2, 3, 4, 5, 6, 7], [7])])
def vessel_time.B1 : List Nat := [0, 1, 0, 4, 0, 16, 60, 127, 255]
theorem vessel_time.tab1 : rtab .any (opsOf Tryz.f38 1) = vessel_time.T1 := by kernel_rfl
theorem vessel_time.bits1 : waitsOk vessel_time.T1.2 vessel_time.B1 = true := by kernel_rfl
set_option maxHeartbeats 1600000 in
set_option maxRecDepth 100000 in
theorem vessel_time.calls (hs vs ds : List Int) (g1 g2 g3 : Nat) (lv : Int) (w : World) (hV : VeAt w hs vs ds g1 g2 g3) (hG : GV hs vs ds) (h0 : 0 ≤ lv) (h1 : lv ≤ sm hs) :
    Calls Tryz.prog 38 #[.agg #[.pointer (some ⟨g1, 0, none⟩), .pointer (some ⟨g2, 0, none⟩), .pointer (some ⟨g3, 0, none⟩)], .int .i64 lv] w fun e w' => e = .returned (.agg #[.int .i64 (timeF hs ds lv).w, .int .i64 (timeF hs ds lv).n, .int .i64 (timeF hs ds lv).d]) ∧ Below w.heap.size w w' := by
  have hu86 := Tryz.underlying73
  have hu90 := Tryz.underlying77
  obtain ⟨f1, f2, z1, z2, z3, z4, z5⟩ := timeF_spec hG.h hG.d hG.hd h0 h1
  have C2 : Aside0 (∀ W, Below w.heap.size w W → Calls Tryz.prog 76 #[.pointer (some ⟨g1, 0, none⟩), .agg #[.int .i64 (wholeF lv).w, .int .i64 (wholeF lv).n, .int .i64 (wholeF lv).d]] W fun e w' => e = .returned (plV (findF hs (wholeF lv))) ∧ Below W.heap.size W w') := ⟨fun W hB => height_find.good g1 hs 1000 (wholeF lv) W (hV.s1.below hB) hG.h (by decide) (wholeF_ok lv).1 h0 (by rw [(wholeF_ok lv).2]; exact castLe h1) (by simp [wholeF])⟩
  have C3 : Aside0 (∀ W, Below w.heap.size w W → Calls Tryz.prog 75 #[.pointer (some ⟨g3, 0, none⟩), .agg #[.int .i64 ((findF hs (wholeF lv)).r : Int), .int .i64 (findF hs (wholeF lv)).n, .int .i64 (findF hs (wholeF lv)).d]] W fun e w' => e = .returned (exV (timeF hs ds lv)) ∧ Below W.heap.size W w') := ⟨fun W hB => minute_at.good g3 ds 20000 (findF hs (wholeF lv)) W (hV.s3.below hB) hG.d (by decide) (hG.hd ▸ f1) (by omega) (by omega)⟩
  have HB := Aside0.mk (Below.refl w.heap.size w)
  clear f1 f2 z1 z2 z3 z4 z5 hV hG h0 h1
  go_enter Tryz.func38, Tryz.ntmps38
  go_wp2_with (first | ((with_reducible refine gate_dst (N := 2) rfl ?_); refine bx_ 2 #[.pointer (some ⟨g1, 0, none⟩), .pointer (some ⟨g2, 0, none⟩), .pointer (some ⟨g3, 0, none⟩)] 73 ?_; intro ga hg w1 hbox hb; have GEga := ge_ hg HB; replace hb := nb_ HB hb; replace HB := bs_ HB hb; have BKga := Aside0.mk hbox; clear hb hbox hg) | ((with_reducible refine gate_dst (N := 4) rfl ?_); refine bx_ 4 #[.int .i64 0, .int .i64 0, .int .i64 0] 77 ?_; intro gb hg w2 hbox hb; have GEgb := ge_ hg HB; have NEga_gb := ne_ hg BKga; replace hb := nb_ HB hb; replace BKga := kb_ BKga hb; replace HB := bs_ HB hb; have BKgb := Aside0.mk hbox; clear hb hbox hg))
  replace BKga := kd_ BKga
  replace BKgb := kd_ BKgb
  replace HB := bd_ HB
  refine sM_ [8] (fun w' => (w'.cell? ⟨ga, 0, none⟩ = some (.pointer (some ⟨g1, 0, none⟩)) ∧ w'.cell? ⟨ga, 1, none⟩ = some (.pointer (some ⟨g2, 0, none⟩)) ∧ w'.cell? ⟨ga, 2, none⟩ = some (.pointer (some ⟨g3, 0, none⟩)))) vessel_time.tab1 vessel_time.bits1 (c3_ BKga) (fun hHeld HT_ HW_ => ?_)
  generalize w2.drew = w3 at BKga BKgb HB hHeld ⊢
  refine pM_ HT_ 0 5 1 ?_
  refine pM_ HT_ 2 7 5 ?_
  refine pM_ HT_ 4 9 21 ?_
  refine tM_ HT_ HW_ hHeld 1 6 23 ?_
  refine tM_ HT_ HW_ hHeld 3 8 31 ?_
  refine oM_ HT_ 5 (some 10) 63 (fun K hK => ?_)
  refine gM_ Tryz.func50 (whole_good lv _) ?_
  rintro e w4 ⟨rfl, hb⟩
  refine ⟨.agg #[.int .i64 (wholeF lv).w, .int .i64 (wholeF lv).n, .int .i64 (wholeF lv).d], rfl, ?_⟩
  replace hb := nb_ HB hb
  replace BKga := kb_ BKga hb
  replace BKgb := kb_ BKgb hb
  replace HB := bs_ HB hb
  (try clear hb)
  refine hK.out _ _ (c3_ BKga) (fun hHeld => ?_)
  clear hK K
  refine nM_ ?_
  refine oM_ HT_ 6 (some 11) 127 (fun K hK => ?_)
  refine gM_ Tryz.func76 (C2.out _ HB.out) ?_
  rintro e w5 ⟨rfl, hb⟩
  refine ⟨.agg #[.int .i64 ((findF hs (wholeF lv)).r : Int), .int .i64 (findF hs (wholeF lv)).n, .int .i64 (findF hs (wholeF lv)).d], rfl, ?_⟩
  replace hb := nb_ HB hb
  replace BKga := kb_ BKga hb
  replace BKgb := kb_ BKgb hb
  replace HB := bs_ HB hb
  (try clear hb)
  refine hK.out _ _ (c3_ BKga) (fun hHeld => ?_)
  clear hK K
  refine nM_ ?_
  refine oM_ HT_ 7 (some 12) 255 (fun K hK => ?_)
  refine gM_ Tryz.func75 (C3.out _ HB.out) ?_
  rintro e w6 ⟨rfl, hb⟩
  refine ⟨.agg #[.int .i64 (timeF hs ds lv).w, .int .i64 (timeF hs ds lv).n, .int .i64 (timeF hs ds lv).d], rfl, ?_⟩
  replace hb := nb_ HB hb
  replace BKga := kb_ BKga hb
  replace BKgb := kb_ BKgb hb
  replace HB := bs_ HB hb
  (try clear hb)
  refine hK.out _ _ (c3_ BKga) (fun hHeld => ?_)
  clear hK K
  refine nM_ ?_
  refine lM_ HT_ 8 none 511 (fun K hK => ?_)
  have hc_ := cf3_ BKgb
  refine sk3_ ?_
  intro ws_ hp_
  clear hc_
  refine hK.out _ _ ?_
  clear hK K
  refine dM_ HT_ ?_
  try go_wp2
  refine bodyPost_ret (results_cell_row rfl _ _ gb 77 #[.int .i64 (timeF hs ds lv).w, .int .i64 (timeF hs ds lv).n, .int .i64 (timeF hs ds lv).d] (0, 0) _ rfl (pp3_ BKgb hp_).out Tryz.underlying77 rfl (by kernel_rfl)) rfl ?_
  exact ⟨by first | rfl | (simp <;> rfl), (pb3_ GEgb HB hp_).out⟩
def vessel_content.T1 : Bool × List (List Nat × List Nat) := (true, [([], []), ([0], [0]), ([], []), ([2], [2]), ([], []), ([4], [4]), ([3, 5, 5], [3, 5]), ([1, 6, 6], [1, 6]), ([7, 7, 0, 1, 2, 3, 4, 5, 6, 7], [7])])
def vessel_content.B1 : List Nat := [0, 1, 0, 4, 0, 16, 60, 127, 255]
theorem vessel_content.tab1 : rtab .any (opsOf Tryz.f51 1) = vessel_content.T1 := by kernel_rfl
theorem vessel_content.bits1 : waitsOk vessel_content.T1.2 vessel_content.B1 = true := by kernel_rfl
set_option maxHeartbeats 1600000 in
set_option maxRecDepth 100000 in
theorem vessel_content.calls (hs vs ds : List Int) (g1 g2 g3 : Nat) (lv : Int) (w : World) (hV : VeAt w hs vs ds g1 g2 g3) (hG : GV hs vs ds) (h0 : 0 ≤ lv) (h1 : lv ≤ sm hs) :
    Calls Tryz.prog 51 #[.agg #[.pointer (some ⟨g1, 0, none⟩), .pointer (some ⟨g2, 0, none⟩), .pointer (some ⟨g3, 0, none⟩)], .int .i64 lv] w fun e w' => e = .returned (.agg #[.int .i64 (timeF hs vs lv).w, .int .i64 (timeF hs vs lv).n, .int .i64 (timeF hs vs lv).d]) ∧ Below w.heap.size w w' := by
  have hu86 := Tryz.underlying73
  have hu90 := Tryz.underlying77
  obtain ⟨f1, f2, z1, z2, z3, z4, z5⟩ := timeF_spec hG.h hG.v hG.hv h0 h1
  have C2 : Aside0 (∀ W, Below w.heap.size w W → Calls Tryz.prog 76 #[.pointer (some ⟨g1, 0, none⟩), .agg #[.int .i64 (wholeF lv).w, .int .i64 (wholeF lv).n, .int .i64 (wholeF lv).d]] W fun e w' => e = .returned (plV (findF hs (wholeF lv))) ∧ Below W.heap.size W w') := ⟨fun W hB => height_find.good g1 hs 1000 (wholeF lv) W (hV.s1.below hB) hG.h (by decide) (wholeF_ok lv).1 h0 (by rw [(wholeF_ok lv).2]; exact castLe h1) (by simp [wholeF])⟩
  have C3 : Aside0 (∀ W, Below w.heap.size w W → Calls Tryz.prog 80 #[.pointer (some ⟨g2, 0, none⟩), .agg #[.int .i64 ((findF hs (wholeF lv)).r : Int), .int .i64 (findF hs (wholeF lv)).n, .int .i64 (findF hs (wholeF lv)).d]] W fun e w' => e = .returned (exV (timeF hs vs lv)) ∧ Below W.heap.size W w') := ⟨fun W hB => volume_at.good g2 vs 100000 (findF hs (wholeF lv)) W (hV.s2.below hB) hG.v (by decide) (hG.hv ▸ f1) (by omega) (by omega)⟩
  have HB := Aside0.mk (Below.refl w.heap.size w)
  clear f1 f2 z1 z2 z3 z4 z5 hV hG h0 h1
  go_enter Tryz.func51, Tryz.ntmps51
  go_wp2_with (first | ((with_reducible refine gate_dst (N := 2) rfl ?_); refine bx_ 2 #[.pointer (some ⟨g1, 0, none⟩), .pointer (some ⟨g2, 0, none⟩), .pointer (some ⟨g3, 0, none⟩)] 73 ?_; intro ga hg w1 hbox hb; have GEga := ge_ hg HB; replace hb := nb_ HB hb; replace HB := bs_ HB hb; have BKga := Aside0.mk hbox; clear hb hbox hg) | ((with_reducible refine gate_dst (N := 4) rfl ?_); refine bx_ 4 #[.int .i64 0, .int .i64 0, .int .i64 0] 77 ?_; intro gb hg w2 hbox hb; have GEgb := ge_ hg HB; have NEga_gb := ne_ hg BKga; replace hb := nb_ HB hb; replace BKga := kb_ BKga hb; replace HB := bs_ HB hb; have BKgb := Aside0.mk hbox; clear hb hbox hg))
  replace BKga := kd_ BKga
  replace BKgb := kd_ BKgb
  replace HB := bd_ HB
  refine sM_ [8] (fun w' => (w'.cell? ⟨ga, 0, none⟩ = some (.pointer (some ⟨g1, 0, none⟩)) ∧ w'.cell? ⟨ga, 1, none⟩ = some (.pointer (some ⟨g2, 0, none⟩)) ∧ w'.cell? ⟨ga, 2, none⟩ = some (.pointer (some ⟨g3, 0, none⟩)))) vessel_content.tab1 vessel_content.bits1 (c3_ BKga) (fun hHeld HT_ HW_ => ?_)
  generalize w2.drew = w3 at BKga BKgb HB hHeld ⊢
  refine pM_ HT_ 0 5 1 ?_
  refine pM_ HT_ 2 7 5 ?_
  refine pM_ HT_ 4 9 21 ?_
  refine tM_ HT_ HW_ hHeld 1 6 23 ?_
  refine tM_ HT_ HW_ hHeld 3 8 31 ?_
  refine oM_ HT_ 5 (some 10) 63 (fun K hK => ?_)
  refine gM_ Tryz.func50 (whole_good lv _) ?_
  rintro e w4 ⟨rfl, hb⟩
  refine ⟨.agg #[.int .i64 (wholeF lv).w, .int .i64 (wholeF lv).n, .int .i64 (wholeF lv).d], rfl, ?_⟩
  replace hb := nb_ HB hb
  replace BKga := kb_ BKga hb
  replace BKgb := kb_ BKgb hb
  replace HB := bs_ HB hb
  (try clear hb)
  refine hK.out _ _ (c3_ BKga) (fun hHeld => ?_)
  clear hK K
  refine nM_ ?_
  refine oM_ HT_ 6 (some 11) 127 (fun K hK => ?_)
  refine gM_ Tryz.func76 (C2.out _ HB.out) ?_
  rintro e w5 ⟨rfl, hb⟩
  refine ⟨.agg #[.int .i64 ((findF hs (wholeF lv)).r : Int), .int .i64 (findF hs (wholeF lv)).n, .int .i64 (findF hs (wholeF lv)).d], rfl, ?_⟩
  replace hb := nb_ HB hb
  replace BKga := kb_ BKga hb
  replace BKgb := kb_ BKgb hb
  replace HB := bs_ HB hb
  (try clear hb)
  refine hK.out _ _ (c3_ BKga) (fun hHeld => ?_)
  clear hK K
  refine nM_ ?_
  refine oM_ HT_ 7 (some 12) 255 (fun K hK => ?_)
  refine gM_ Tryz.func80 (C3.out _ HB.out) ?_
  rintro e w6 ⟨rfl, hb⟩
  refine ⟨.agg #[.int .i64 (timeF hs vs lv).w, .int .i64 (timeF hs vs lv).n, .int .i64 (timeF hs vs lv).d], rfl, ?_⟩
  replace hb := nb_ HB hb
  replace BKga := kb_ BKga hb
  replace BKgb := kb_ BKgb hb
  replace HB := bs_ HB hb
  (try clear hb)
  refine hK.out _ _ (c3_ BKga) (fun hHeld => ?_)
  clear hK K
  refine nM_ ?_
  refine lM_ HT_ 8 none 511 (fun K hK => ?_)
  have hc_ := cf3_ BKgb
  refine sk3_ ?_
  intro ws_ hp_
  clear hc_
  refine hK.out _ _ ?_
  clear hK K
  refine dM_ HT_ ?_
  try go_wp2
  refine bodyPost_ret (results_cell_row rfl _ _ gb 77 #[.int .i64 (timeF hs vs lv).w, .int .i64 (timeF hs vs lv).n, .int .i64 (timeF hs vs lv).d] (0, 0) _ rfl (pp3_ BKgb hp_).out Tryz.underlying77 rfl (by kernel_rfl)) rfl ?_
  exact ⟨by first | rfl | (simp <;> rfl), (pb3_ GEgb HB hp_).out⟩
set_option maxHeartbeats 1600000 in
set_option maxRecDepth 100000 in
theorem vessel_after.calls (hs vs ds : List Int) (g1 g2 g3 : Nat) (lv m : Int) (w : World) (hV : VeAt w hs vs ds g1 g2 g3) (hG : GV hs vs ds) (h0 : 0 ≤ lv) (h1 : lv ≤ sm hs) (hm : 0 ≤ m) (hm2 : m ≤ 16777216) :
    Calls Tryz.prog 43 #[.agg #[.pointer (some ⟨g1, 0, none⟩), .pointer (some ⟨g2, 0, none⟩), .pointer (some ⟨g3, 0, none⟩)], .int .i64 lv, .int .i64 m] w fun e w' => e = .returned (.agg #[.int .i64 ((afterF hs ds lv m).r : Int), .int .i64 (afterF hs ds lv m).n, .int .i64 (afterF hs ds lv m).d]) ∧ Below w.heap.size w w' := by
  have hu86 := Tryz.underlying73
  have hu90 := Tryz.underlying77
  have hu105 := Tryz.underlying86
  obtain ⟨z1, z2, z3, t2, t3, t4, t5⟩ := timeF_spec hG.h hG.d hG.hd h0 h1
  obtain ⟨c1, c2, z4, c4, c5⟩ := afterF_spec hG.h hG.d hG.hd h0 h1 hm
  have tw := w_le t2 t5
  have hsum := hG.d.all_le (by decide) 24
  rw [List.take_of_length_le (by have := hG.d.ln; omega)] at hsum
  have C1 : Aside0 (∀ W, Below w.heap.size w W → Calls Tryz.prog 38 #[.agg #[.pointer (some ⟨g1, 0, none⟩), .pointer (some ⟨g2, 0, none⟩), .pointer (some ⟨g3, 0, none⟩)], .int .i64 lv] W fun e w' => e = .returned (.agg #[.int .i64 (timeF hs ds lv).w, .int .i64 (timeF hs ds lv).n, .int .i64 (timeF hs ds lv).d]) ∧ Below W.heap.size W w') := ⟨fun W hB => vessel_time.calls hs vs ds g1 g2 g3 lv W (hV.below hB) hG h0 h1⟩
  have C2 : Aside0 (∀ W, Calls Tryz.prog 44 #[.agg #[.int .i64 (timeF hs ds lv).w, .int .i64 (timeF hs ds lv).n, .int .i64 (timeF hs ds lv).d], .int .i64 (-m)] W fun e w' => e = .returned (exV (plusF (timeF hs ds lv) (-m))) ∧ Below W.heap.size W w') := ⟨fun W => plus_good (timeF hs ds lv) (-m) W (by omega)⟩
  have C4 : Aside0 (∀ W, Below w.heap.size w W → Calls Tryz.prog 47 #[.pointer (some ⟨g3, 0, none⟩), .agg #[.int .i64 (clipF (plusF (timeF hs ds lv) (-m))).w, .int .i64 (clipF (plusF (timeF hs ds lv) (-m))).n, .int .i64 (clipF (plusF (timeF hs ds lv) (-m))).d]] W fun e w' => e = .returned (plV (afterF hs ds lv m)) ∧ Below W.heap.size W w') := ⟨fun W hB => minute_find.good g3 ds 20000 (clipF (plusF (timeF hs ds lv) (-m))) W (hV.s3.below hB) hG.d (by decide) c1 c2 c5 (by omega)⟩
  have HB := Aside0.mk (Below.refl w.heap.size w)
  clear z1 z2 z3 z4 t2 t3 t4 t5 c1 c2 c4 c5 tw hsum hV hG h0 h1
  by_cases hc : (plusF (timeF hs ds lv) (-m)).w < 0
  · have HC : Aside0 (clipF (plusF (timeF hs ds lv) (-m)) = wholeF 0) := ⟨by unfold clipF; rw [if_pos hc]⟩
    have C3 : Aside0 (∀ W, Calls Tryz.prog 78 #[.agg #[.int .i64 (plusF (timeF hs ds lv) (-m)).w, .int .i64 (plusF (timeF hs ds lv) (-m)).n, .int .i64 (plusF (timeF hs ds lv) (-m)).d], .int .i64 0] W fun e w' => e = .returned (.bool true) ∧ Below W.heap.size W w') := ⟨fun W => by have := below_good (plusF (timeF hs ds lv) (-m)) 0 W; rwa [decide_eq_true hc] at this⟩
    clear hc
    have C5 := C4.out
    rw [HC.out] at C5
    have C5 := Aside0.mk C5
    clear C4 HC
    go_enter Tryz.func43, Tryz.ntmps43
    have tok1 : True := trivial
    go_wp2_with (first | ((with_reducible refine gate_dst (N := 3) rfl ?_); refine bx_ 3 #[.pointer (some ⟨g1, 0, none⟩), .pointer (some ⟨g2, 0, none⟩), .pointer (some ⟨g3, 0, none⟩)] 73 ?_; intro ga hg w1 hbox hb; have GEga := ge_ hg HB; replace hb := nb_ HB hb; replace HB := bs_ HB hb; have BKga := Aside0.mk hbox; obtain ⟨Oga_0, Oga_1, Oga_2⟩ := c3_ BKga; clear hb hbox hg) | ((with_reducible refine gate_dst (N := 6) rfl ?_); refine bx_ 6 #[.int .i64 0, .int .i64 0, .int .i64 0] 86 ?_; intro gb hg w2 hbox hb; have GEgb := ge_ hg HB; have NEga_gb := ne_ hg BKga; replace hb := nb_ HB hb; replace BKga := kb_ BKga hb; replace HB := bs_ HB hb; clear Oga_0 Oga_1 Oga_2; obtain ⟨Oga_0, Oga_1, Oga_2⟩ := c3_ BKga; have BKgb := Aside0.mk hbox; clear Oga_0 Oga_1 Oga_2; obtain ⟨Oga_0, Oga_1, Oga_2⟩ := c3_ BKga; clear hb hbox hg) | ((with_reducible refine gate_callee (f := 38) rfl ?_); refine gL_ (some 10) Tryz.func38 (C1.out _ HB.out) ?_; rintro e w3 ⟨rfl, hb⟩; refine ⟨.agg #[.int .i64 (timeF hs ds lv).w, .int .i64 (timeF hs ds lv).n, .int .i64 (timeF hs ds lv).d], rfl, ?_⟩; replace hb := nb_ HB hb; replace BKga := kb_ BKga hb; replace BKgb := kb_ BKgb hb; replace HB := bs_ HB hb; clear Oga_0 Oga_1 Oga_2; obtain ⟨Oga_0, Oga_1, Oga_2⟩ := c3_ BKga; clear hb) | ((with_reducible refine gate_callee (f := 44) rfl ?_); refine gL_ (some 13) Tryz.func44 (C2.out _) ?_; rintro e w4 ⟨rfl, hb⟩; refine ⟨.agg #[.int .i64 (plusF (timeF hs ds lv) (-m)).w, .int .i64 (plusF (timeF hs ds lv) (-m)).n, .int .i64 (plusF (timeF hs ds lv) (-m)).d], rfl, ?_⟩; replace hb := nb_ HB hb; replace BKga := kb_ BKga hb; replace BKgb := kb_ BKgb hb; replace HB := bs_ HB hb; clear Oga_0 Oga_1 Oga_2; obtain ⟨Oga_0, Oga_1, Oga_2⟩ := c3_ BKga; clear hb) | ((with_reducible refine gate_dst (N := 7) rfl ?_); refine bx_ 7 #[.int .i64 0, .int .i64 0, .int .i64 0] 77 ?_; intro gc hg w5 hbox hb; have GEgc := ge_ hg HB; have NEga_gc := ne_ hg BKga; have NEgb_gc := ne_ hg BKgb; replace hb := nb_ HB hb; replace BKga := kb_ BKga hb; replace BKgb := kb_ BKgb hb; replace HB := bs_ HB hb; clear Oga_0 Oga_1 Oga_2; obtain ⟨Oga_0, Oga_1, Oga_2⟩ := c3_ BKga; have BKgc := Aside0.mk hbox; clear Oga_0 Oga_1 Oga_2; obtain ⟨Oga_0, Oga_1, Oga_2⟩ := c3_ BKga; obtain ⟨Ogc_0, Ogc_1, Ogc_2⟩ := c3_ BKgc; clear hb hbox hg) | ((with_reducible refine gate_store (t := 77) (p := 7) rfl ?_); have hc_ := cf3_ BKgc; refine st3_ ?_; intro w6 hp_; clear hc_; clear Oga_0 Oga_1 Oga_2 Ogc_0 Ogc_1 Ogc_2; replace BKga := pf3_ NEga_gc BKga hp_; replace BKgb := pf3_ NEgb_gc BKgb hp_; replace BKgc := pp3_ BKgc hp_; replace HB := pb3_ GEgc HB hp_; clear hp_; obtain ⟨Oga_0, Oga_1, Oga_2⟩ := c3_ BKga; obtain ⟨Ogc_0, Ogc_1, Ogc_2⟩ := c3_ BKgc) | ((with_reducible refine gate_callee (f := 78) rfl ?_); refine gL_ (some 15) Tryz.func78 (C3.out _) ?_; rintro e w7 ⟨rfl, hb⟩; refine ⟨.bool true, rfl, ?_⟩; replace hb := nb_ HB hb; replace BKga := kb_ BKga hb; replace BKgb := kb_ BKgb hb; replace BKgc := kb_ BKgc hb; replace HB := bs_ HB hb; clear Oga_0 Oga_1 Oga_2 Ogc_0 Ogc_1 Ogc_2; obtain ⟨Oga_0, Oga_1, Oga_2⟩ := c3_ BKga; obtain ⟨Ogc_0, Ogc_1, Ogc_2⟩ := c3_ BKgc; clear hb) | ((with_reducible refine gate_callee (f := 50) rfl ?_); refine gL_ (some 16) Tryz.func50 (whole_good 0 _) ?_; rintro e w8 ⟨rfl, hb⟩; refine ⟨.agg #[.int .i64 (wholeF 0).w, .int .i64 (wholeF 0).n, .int .i64 (wholeF 0).d], rfl, ?_⟩; replace hb := nb_ HB hb; replace BKga := kb_ BKga hb; replace BKgb := kb_ BKgb hb; replace BKgc := kb_ BKgc hb; replace HB := bs_ HB hb; clear Oga_0 Oga_1 Oga_2 Ogc_0 Ogc_1 Ogc_2; obtain ⟨Oga_0, Oga_1, Oga_2⟩ := c3_ BKga; obtain ⟨Ogc_0, Ogc_1, Ogc_2⟩ := c3_ BKgc; clear hb) | ((with_reducible refine gate_store (t := 77) (p := 7) rfl ?_); have hc_ := cf3_ BKgc; refine st3_ ?_; intro w9 hp_; clear hc_; clear Oga_0 Oga_1 Oga_2 Ogc_0 Ogc_1 Ogc_2; replace BKga := pf3_ NEga_gc BKga hp_; replace BKgb := pf3_ NEgb_gc BKgb hp_; replace BKgc := pp3_ BKgc hp_; replace HB := pb3_ GEgc HB hp_; clear hp_; obtain ⟨Oga_0, Oga_1, Oga_2⟩ := c3_ BKga; obtain ⟨Ogc_0, Ogc_1, Ogc_2⟩ := c3_ BKgc) | ((with_reducible refine gate_callee (f := 47) rfl ?_); refine gL_ (some 20) Tryz.func47 (C5.out _ HB.out) ?_; rintro e w10 ⟨rfl, hb⟩; refine ⟨.agg #[.int .i64 ((afterF hs ds lv m).r : Int), .int .i64 (afterF hs ds lv m).n, .int .i64 (afterF hs ds lv m).d], rfl, ?_⟩; replace hb := nb_ HB hb; replace BKga := kb_ BKga hb; replace BKgb := kb_ BKgb hb; replace BKgc := kb_ BKgc hb; replace HB := bs_ HB hb; clear Oga_0 Oga_1 Oga_2 Ogc_0 Ogc_1 Ogc_2; obtain ⟨Oga_0, Oga_1, Oga_2⟩ := c3_ BKga; obtain ⟨Ogc_0, Ogc_1, Ogc_2⟩ := c3_ BKgc; clear hb) | ((with_reducible refine gate_store (t := 86) (p := 6) rfl ?_); have hc_ := cf3_ BKgb; refine st3_ ?_; intro w11 hp_; clear hc_; clear Oga_0 Oga_1 Oga_2 Ogc_0 Ogc_1 Ogc_2; replace BKga := pf3_ NEga_gb BKga hp_; replace BKgb := pp3_ BKgb hp_; replace BKgc := pf3r_ NEgb_gc BKgc hp_; replace HB := pb3_ GEgb HB hp_; clear hp_; obtain ⟨Oga_0, Oga_1, Oga_2⟩ := c3_ BKga; obtain ⟨Ogc_0, Ogc_1, Ogc_2⟩ := c3_ BKgc))
    try go_wp2
    refine bodyPost_ret (results_cell_row rfl _ _ gb 86 #[.int .i64 ((afterF hs ds lv m).r : Int), .int .i64 (afterF hs ds lv m).n, .int .i64 (afterF hs ds lv m).d] (0, 0) _ rfl BKgb.out Tryz.underlying86 rfl (by kernel_rfl)) rfl ?_
    exact ⟨by first | rfl | (simp <;> rfl), HB.out⟩
  · have HC : Aside0 (clipF (plusF (timeF hs ds lv) (-m)) = plusF (timeF hs ds lv) (-m)) := ⟨by unfold clipF; rw [if_neg hc]⟩
    have C3 : Aside0 (∀ W, Calls Tryz.prog 78 #[.agg #[.int .i64 (plusF (timeF hs ds lv) (-m)).w, .int .i64 (plusF (timeF hs ds lv) (-m)).n, .int .i64 (plusF (timeF hs ds lv) (-m)).d], .int .i64 0] W fun e w' => e = .returned (.bool false) ∧ Below W.heap.size W w') := ⟨fun W => by have := below_good (plusF (timeF hs ds lv) (-m)) 0 W; rwa [decide_eq_false hc] at this⟩
    clear hc
    have C5 := C4.out
    rw [HC.out] at C5
    have C5 := Aside0.mk C5
    clear C4 HC
    go_enter Tryz.func43, Tryz.ntmps43
    have tok1 : True := trivial
    go_wp2_with (first | ((with_reducible refine gate_dst (N := 3) rfl ?_); refine bx_ 3 #[.pointer (some ⟨g1, 0, none⟩), .pointer (some ⟨g2, 0, none⟩), .pointer (some ⟨g3, 0, none⟩)] 73 ?_; intro ga hg w1 hbox hb; have GEga := ge_ hg HB; replace hb := nb_ HB hb; replace HB := bs_ HB hb; have BKga := Aside0.mk hbox; obtain ⟨Oga_0, Oga_1, Oga_2⟩ := c3_ BKga; clear hb hbox hg) | ((with_reducible refine gate_dst (N := 6) rfl ?_); refine bx_ 6 #[.int .i64 0, .int .i64 0, .int .i64 0] 86 ?_; intro gb hg w2 hbox hb; have GEgb := ge_ hg HB; have NEga_gb := ne_ hg BKga; replace hb := nb_ HB hb; replace BKga := kb_ BKga hb; replace HB := bs_ HB hb; clear Oga_0 Oga_1 Oga_2; obtain ⟨Oga_0, Oga_1, Oga_2⟩ := c3_ BKga; have BKgb := Aside0.mk hbox; clear Oga_0 Oga_1 Oga_2; obtain ⟨Oga_0, Oga_1, Oga_2⟩ := c3_ BKga; clear hb hbox hg) | ((with_reducible refine gate_callee (f := 38) rfl ?_); refine gL_ (some 10) Tryz.func38 (C1.out _ HB.out) ?_; rintro e w3 ⟨rfl, hb⟩; refine ⟨.agg #[.int .i64 (timeF hs ds lv).w, .int .i64 (timeF hs ds lv).n, .int .i64 (timeF hs ds lv).d], rfl, ?_⟩; replace hb := nb_ HB hb; replace BKga := kb_ BKga hb; replace BKgb := kb_ BKgb hb; replace HB := bs_ HB hb; clear Oga_0 Oga_1 Oga_2; obtain ⟨Oga_0, Oga_1, Oga_2⟩ := c3_ BKga; clear hb) | ((with_reducible refine gate_callee (f := 44) rfl ?_); refine gL_ (some 13) Tryz.func44 (C2.out _) ?_; rintro e w4 ⟨rfl, hb⟩; refine ⟨.agg #[.int .i64 (plusF (timeF hs ds lv) (-m)).w, .int .i64 (plusF (timeF hs ds lv) (-m)).n, .int .i64 (plusF (timeF hs ds lv) (-m)).d], rfl, ?_⟩; replace hb := nb_ HB hb; replace BKga := kb_ BKga hb; replace BKgb := kb_ BKgb hb; replace HB := bs_ HB hb; clear Oga_0 Oga_1 Oga_2; obtain ⟨Oga_0, Oga_1, Oga_2⟩ := c3_ BKga; clear hb) | ((with_reducible refine gate_dst (N := 7) rfl ?_); refine bx_ 7 #[.int .i64 0, .int .i64 0, .int .i64 0] 77 ?_; intro gc hg w5 hbox hb; have GEgc := ge_ hg HB; have NEga_gc := ne_ hg BKga; have NEgb_gc := ne_ hg BKgb; replace hb := nb_ HB hb; replace BKga := kb_ BKga hb; replace BKgb := kb_ BKgb hb; replace HB := bs_ HB hb; clear Oga_0 Oga_1 Oga_2; obtain ⟨Oga_0, Oga_1, Oga_2⟩ := c3_ BKga; have BKgc := Aside0.mk hbox; clear Oga_0 Oga_1 Oga_2; obtain ⟨Oga_0, Oga_1, Oga_2⟩ := c3_ BKga; obtain ⟨Ogc_0, Ogc_1, Ogc_2⟩ := c3_ BKgc; clear hb hbox hg) | ((with_reducible refine gate_store (t := 77) (p := 7) rfl ?_); have hc_ := cf3_ BKgc; refine st3_ ?_; intro w6 hp_; clear hc_; clear Oga_0 Oga_1 Oga_2 Ogc_0 Ogc_1 Ogc_2; replace BKga := pf3_ NEga_gc BKga hp_; replace BKgb := pf3_ NEgb_gc BKgb hp_; replace BKgc := pp3_ BKgc hp_; replace HB := pb3_ GEgc HB hp_; clear hp_; obtain ⟨Oga_0, Oga_1, Oga_2⟩ := c3_ BKga; obtain ⟨Ogc_0, Ogc_1, Ogc_2⟩ := c3_ BKgc) | ((with_reducible refine gate_callee (f := 78) rfl ?_); refine gL_ (some 15) Tryz.func78 (C3.out _) ?_; rintro e w7 ⟨rfl, hb⟩; refine ⟨.bool false, rfl, ?_⟩; replace hb := nb_ HB hb; replace BKga := kb_ BKga hb; replace BKgb := kb_ BKgb hb; replace BKgc := kb_ BKgc hb; replace HB := bs_ HB hb; clear Oga_0 Oga_1 Oga_2 Ogc_0 Ogc_1 Ogc_2; obtain ⟨Oga_0, Oga_1, Oga_2⟩ := c3_ BKga; obtain ⟨Ogc_0, Ogc_1, Ogc_2⟩ := c3_ BKgc; clear hb) | ((with_reducible refine gate_callee (f := 47) rfl ?_); refine gL_ (some 20) Tryz.func47 (C5.out _ HB.out) ?_; rintro e w10 ⟨rfl, hb⟩; refine ⟨.agg #[.int .i64 ((afterF hs ds lv m).r : Int), .int .i64 (afterF hs ds lv m).n, .int .i64 (afterF hs ds lv m).d], rfl, ?_⟩; replace hb := nb_ HB hb; replace BKga := kb_ BKga hb; replace BKgb := kb_ BKgb hb; replace BKgc := kb_ BKgc hb; replace HB := bs_ HB hb; clear Oga_0 Oga_1 Oga_2 Ogc_0 Ogc_1 Ogc_2; obtain ⟨Oga_0, Oga_1, Oga_2⟩ := c3_ BKga; obtain ⟨Ogc_0, Ogc_1, Ogc_2⟩ := c3_ BKgc; clear hb) | ((with_reducible refine gate_store (t := 86) (p := 6) rfl ?_); have hc_ := cf3_ BKgb; refine st3_ ?_; intro w11 hp_; clear hc_; clear Oga_0 Oga_1 Oga_2 Ogc_0 Ogc_1 Ogc_2; replace BKga := pf3_ NEga_gb BKga hp_; replace BKgb := pp3_ BKgb hp_; replace BKgc := pf3r_ NEgb_gc BKgc hp_; replace HB := pb3_ GEgb HB hp_; clear hp_; obtain ⟨Oga_0, Oga_1, Oga_2⟩ := c3_ BKga; obtain ⟨Ogc_0, Ogc_1, Ogc_2⟩ := c3_ BKgc))
    try go_wp2
    refine bodyPost_ret (results_cell_row rfl _ _ gb 86 #[.int .i64 ((afterF hs ds lv m).r : Int), .int .i64 (afterF hs ds lv m).n, .int .i64 (afterF hs ds lv m).d] (0, 0) _ rfl BKgb.out Tryz.underlying86 rfl (by kernel_rfl)) rfl ?_
    exact ⟨by first | rfl | (simp <;> rfl), HB.out⟩
end Go.Proofs.YtlhfclpbodfmcaaGreatDoor.Pr
