/- A part of the proof: ScI. -/
import Derived.Test.YtlhfclpbodfmcaaGreatDoorYBScH
import Derived.Outline
namespace Go.Proofs.YtlhfclpbodfmcaaGreatDoor.Pr
open Go.RowKit Go.Proofs.YtlhfclpbodfmcaaGreatDoorW.PrintWords Go.Proofs.YtlhfclpbodfmcaaGreatDoorW.PrintLast Go.Proofs.YtlhfclpbodfmcaaGreatDoorW.PrintMore
open Go.Proofs.YtlhfclpbodfmcaaGreatDoor.Vm
set_option linter.unusedVariables false
set_option linter.unusedSimpArgs false
def vessel_run.T1 : Bool × List (List Nat × List Nat) := (true, [([], []), ([], []), ([0, 1], [0, 1]), ([], []), ([3], [3]), ([], []), ([], []), ([], []), ([5, 6, 7, 2], [5, 6, 7]), ([4, 8, 8], [4, 8]), ([2, 9, 9], [2, 9]), ([10, 10, 0, 1, 2, 3, 4, 5, 6, 7, 8, 9, 10], [10])])
def vessel_run.B1 : List Nat := [0, 0, 3, 0, 8, 0, 0, 0, 231, 511, 1023, 2047]
theorem vessel_run.tab1 : rtab .any (opsOf Tryz.f48 1) = vessel_run.T1 := by kernel_rfl
theorem vessel_run.bits1 : waitsOk vessel_run.T1.2 vessel_run.B1 = true := by kernel_rfl
set_option maxHeartbeats 1600000 in
set_option maxRecDepth 100000 in
theorem vessel_run.calls (hs vs ds : List Int) (g1 g2 g3 : Nat) (lv m : Int) (w : World) (hV : VeAt w hs vs ds g1 g2 g3) (hG : GV hs vs ds) (h0 : 0 ≤ lv) (h1 : lv ≤ sm hs) (hm : 0 ≤ m) (hm2 : m ≤ 16777216) :
    Calls Tryz.prog 48 #[.agg #[.pointer (some ⟨g1, 0, none⟩), .pointer (some ⟨g2, 0, none⟩), .pointer (some ⟨g3, 0, none⟩)], .int .i64 lv, .int .i64 m] w fun e w' => e = .returned (.agg #[.int .i64 (runF hs vs ds lv m).w, .int .i64 (runF hs vs ds lv m).n, .int .i64 (runF hs vs ds lv m).d]) ∧ Below w.heap.size w w' := by
  have hu86 := Tryz.underlying73
  have hu90 := Tryz.underlying77
  have hdv : ds.length = vs.length := hG.hd.symm.trans hG.hv
  obtain ⟨z1, z2, z3, t2, t3, t4, t5⟩ := timeF_spec hG.h hG.v hG.hv h0 h1
  obtain ⟨p1, p2, z4, p3, p4, p5, p6⟩ := placeF_spec hG.h hG.d hG.hd hG.v hdv h0 h1 hm
  have hS := hG.sums
  have tw := w_le_v' t2 t5
  have pw := w_le_v' p3 p6
  have hdd : (timeF hs vs lv).d * (atF vs (afterF hs ds lv m)).d ≤ 1000 * 20000000 := Int.mul_le_mul t3 p4 (by have := p3.1; have := p3.2; omega) (by omega)
  have C1 : Aside0 (∀ W, Below w.heap.size w W → Calls Tryz.prog 51 #[.agg #[.pointer (some ⟨g1, 0, none⟩), .pointer (some ⟨g2, 0, none⟩), .pointer (some ⟨g3, 0, none⟩)], .int .i64 lv] W fun e w' => e = .returned (.agg #[.int .i64 (timeF hs vs lv).w, .int .i64 (timeF hs vs lv).n, .int .i64 (timeF hs vs lv).d]) ∧ Below W.heap.size W w') := ⟨fun W hB => vessel_content.calls hs vs ds g1 g2 g3 lv W (hV.below hB) hG h0 h1⟩
  have C2 : Aside0 (∀ W, Below w.heap.size w W → Calls Tryz.prog 43 #[.agg #[.pointer (some ⟨g1, 0, none⟩), .pointer (some ⟨g2, 0, none⟩), .pointer (some ⟨g3, 0, none⟩)], .int .i64 lv, .int .i64 m] W fun e w' => e = .returned (.agg #[.int .i64 ((afterF hs ds lv m).r : Int), .int .i64 (afterF hs ds lv m).n, .int .i64 (afterF hs ds lv m).d]) ∧ Below W.heap.size W w') := ⟨fun W hB => vessel_after.calls hs vs ds g1 g2 g3 lv m W (hV.below hB) hG h0 h1 hm hm2⟩
  have C3 : Aside0 (∀ W, Below w.heap.size w W → Calls Tryz.prog 80 #[.pointer (some ⟨g2, 0, none⟩), .agg #[.int .i64 ((afterF hs ds lv m).r : Int), .int .i64 (afterF hs ds lv m).n, .int .i64 (afterF hs ds lv m).d]] W fun e w' => e = .returned (.agg #[.int .i64 (atF vs (afterF hs ds lv m)).w, .int .i64 (atF vs (afterF hs ds lv m)).n, .int .i64 (atF vs (afterF hs ds lv m)).d]) ∧ Below W.heap.size W w') := ⟨fun W hB => volume_at.good g2 vs 100000 (afterF hs ds lv m) W (hV.s2.below hB) hG.v (by decide) (hdv ▸ p1) (by omega) (by omega)⟩
  have C4 : Aside0 (∀ W, Calls Tryz.prog 39 #[.agg #[.int .i64 (timeF hs vs lv).w, .int .i64 (timeF hs vs lv).n, .int .i64 (timeF hs vs lv).d], .agg #[.int .i64 (atF vs (afterF hs ds lv m)).w, .int .i64 (atF vs (afterF hs ds lv m)).n, .int .i64 (atF vs (afterF hs ds lv m)).d]] W fun e w' => e = .returned (.agg #[.int .i64 (runF hs vs ds lv m).w, .int .i64 (runF hs vs ds lv m).n, .int .i64 (runF hs vs ds lv m).d]) ∧ Below W.heap.size W w') := ⟨fun W => less_good (timeF hs vs lv) (atF vs (afterF hs ds lv m)) W t2 p3 (by omega) (by omega) (by omega)⟩
  have HB := Aside0.mk (Below.refl w.heap.size w)
  clear z1 z2 z3 z4 t2 t3 t4 t5 p1 p2 p3 p4 p5 p6 tw pw hdd hS hdv hV hG h0 h1 hm hm2
  go_enter Tryz.func48, Tryz.ntmps48
  go_wp2_with (first | ((with_reducible refine gate_dst (N := 3) rfl ?_); refine bx_ 3 #[.pointer (some ⟨g1, 0, none⟩), .pointer (some ⟨g2, 0, none⟩), .pointer (some ⟨g3, 0, none⟩)] 73 ?_; intro ga hg w1 hbox hb; have GEga := ge_ hg HB; replace hb := nb_ HB hb; replace HB := bs_ HB hb; have BKga := Aside0.mk hbox; clear hb hbox hg) | ((with_reducible refine gate_dst (N := 6) rfl ?_); refine bx_ 6 #[.int .i64 0, .int .i64 0, .int .i64 0] 77 ?_; intro gb hg w2 hbox hb; have GEgb := ge_ hg HB; have NEga_gb := ne_ hg BKga; replace hb := nb_ HB hb; replace BKga := kb_ BKga hb; replace HB := bs_ HB hb; have BKgb := Aside0.mk hbox; clear hb hbox hg))
  replace BKga := kd_ BKga
  replace BKgb := kd_ BKgb
  replace HB := bd_ HB
  refine sM_ [11] (fun w' => (w'.cell? ⟨ga, 0, none⟩ = some (.pointer (some ⟨g1, 0, none⟩)) ∧ w'.cell? ⟨ga, 1, none⟩ = some (.pointer (some ⟨g2, 0, none⟩)) ∧ w'.cell? ⟨ga, 2, none⟩ = some (.pointer (some ⟨g3, 0, none⟩)))) vessel_run.tab1 vessel_run.bits1 (c3_ BKga) (fun hHeld HT_ HW_ => ?_)
  generalize w2.drew = w3 at BKga BKgb HB hHeld ⊢
  refine pM_ HT_ 1 8 2 ?_
  refine pM_ HT_ 3 10 10 ?_
  refine pM_ HT_ 6 13 74 ?_
  refine pM_ HT_ 7 14 202 ?_
  refine tM_ HT_ HW_ hHeld 0 7 203 ?_
  refine tM_ HT_ HW_ hHeld 4 11 219 ?_
  refine tM_ HT_ HW_ hHeld 5 12 251 ?_
  refine oM_ HT_ 2 (some 9) 255 (fun K hK => ?_)
  refine gM_ Tryz.func51 (C1.out _ HB.out) ?_
  rintro e w4 ⟨rfl, hb⟩
  refine ⟨.agg #[.int .i64 (timeF hs vs lv).w, .int .i64 (timeF hs vs lv).n, .int .i64 (timeF hs vs lv).d], rfl, ?_⟩
  replace hb := nb_ HB hb
  replace BKga := kb_ BKga hb
  replace BKgb := kb_ BKgb hb
  replace HB := bs_ HB hb
  (try clear hb)
  refine hK.out _ _ (c3_ BKga) (fun hHeld => ?_)
  clear hK K
  refine nM_ ?_
  refine oM_ HT_ 8 (some 15) 511 (fun K hK => ?_)
  refine gM_ Tryz.func43 (C2.out _ HB.out) ?_
  rintro e w5 ⟨rfl, hb⟩
  refine ⟨.agg #[.int .i64 ((afterF hs ds lv m).r : Int), .int .i64 (afterF hs ds lv m).n, .int .i64 (afterF hs ds lv m).d], rfl, ?_⟩
  replace hb := nb_ HB hb
  replace BKga := kb_ BKga hb
  replace BKgb := kb_ BKgb hb
  replace HB := bs_ HB hb
  (try clear hb)
  refine hK.out _ _ (c3_ BKga) (fun hHeld => ?_)
  clear hK K
  refine nM_ ?_
  refine oM_ HT_ 9 (some 16) 1023 (fun K hK => ?_)
  refine gM_ Tryz.func80 (C3.out _ HB.out) ?_
  rintro e w6 ⟨rfl, hb⟩
  refine ⟨.agg #[.int .i64 (atF vs (afterF hs ds lv m)).w, .int .i64 (atF vs (afterF hs ds lv m)).n, .int .i64 (atF vs (afterF hs ds lv m)).d], rfl, ?_⟩
  replace hb := nb_ HB hb
  replace BKga := kb_ BKga hb
  replace BKgb := kb_ BKgb hb
  replace HB := bs_ HB hb
  (try clear hb)
  refine hK.out _ _ (c3_ BKga) (fun hHeld => ?_)
  clear hK K
  refine nM_ ?_
  refine oM_ HT_ 10 (some 17) 2047 (fun K hK => ?_)
  refine gM_ Tryz.func39 (C4.out _) ?_
  rintro e w7 ⟨rfl, hb⟩
  refine ⟨.agg #[.int .i64 (runF hs vs ds lv m).w, .int .i64 (runF hs vs ds lv m).n, .int .i64 (runF hs vs ds lv m).d], rfl, ?_⟩
  replace hb := nb_ HB hb
  replace BKga := kb_ BKga hb
  replace BKgb := kb_ BKgb hb
  replace HB := bs_ HB hb
  (try clear hb)
  refine hK.out _ _ (c3_ BKga) (fun hHeld => ?_)
  clear hK K
  refine nM_ ?_
  refine lM_ HT_ 11 none 4095 (fun K hK => ?_)
  have hc_ := cf3_ BKgb
  refine sk3_ ?_
  intro ws_ hp_
  clear hc_
  refine hK.out _ _ ?_
  clear hK K
  refine dM_ HT_ ?_
  try go_wp2
  refine bodyPost_ret (results_cell_row rfl _ _ gb 77 #[.int .i64 (runF hs vs ds lv m).w, .int .i64 (runF hs vs ds lv m).n, .int .i64 (runF hs vs ds lv m).d] (0, 0) _ rfl (pp3_ BKgb hp_).out Tryz.underlying77 rfl (by kernel_rfl)) rfl ?_
  exact ⟨by first | rfl | (simp <;> rfl), (pb3_ GEgb HB hp_).out⟩
def vessel_until.T1 : Bool × List (List Nat × List Nat) := (true, [([], []), ([], []), ([0, 1], [0, 1]), ([], []), ([2, 3, 2], [2, 3]), ([], []), ([5, 4, 4, 0, 1, 2, 3, 4, 5], [4, 5])])
def vessel_until.B1 : List Nat := [0, 0, 3, 0, 15, 0, 63]
theorem vessel_until.tab1 : rtab .any (opsOf Tryz.f49 1) = vessel_until.T1 := by kernel_rfl
theorem vessel_until.bits1 : waitsOk vessel_until.T1.2 vessel_until.B1 = true := by kernel_rfl
def vessel_until.T4 : Bool × List (List Nat × List Nat) := (true, [([], []), ([], []), ([0, 1], [0, 1]), ([], []), ([3], [3]), ([], []), ([5], [5]), ([], []), ([6, 7, 2], [6, 7]), ([4, 8, 8], [4, 8]), ([2, 9, 9], [2, 9]), ([10, 10, 0, 1, 2, 3, 4, 5, 6, 7, 8, 9, 10], [10]), ([11, 0, 1, 2, 3, 4, 5, 6, 7, 8, 9, 10, 11], [])])
def vessel_until.B4 : List Nat := [0, 0, 3, 0, 8, 0, 32, 0, 231, 511, 1023, 2047, 4095]
theorem vessel_until.tab4 : rtab .any (opsOf Tryz.f49 4) = vessel_until.T4 := by kernel_rfl
theorem vessel_until.bits4 : waitsOk vessel_until.T4.2 vessel_until.B4 = true := by kernel_rfl
/-- What until hands back. -/
def untilR (hs vs ds : List Int) (lv : Int) (c : Ex) : Ex × Bool := if (restF hs vs lv c).w < 0 then (⟨0, 0, 0⟩, false) else (untilF hs vs ds lv c, true)
set_option maxHeartbeats 1600000 in
set_option maxRecDepth 100000 in
theorem vessel_until.calls (hs vs ds : List Int) (g1 g2 g3 : Nat) (lv : Int) (c : Ex) (w : World) (hV : VeAt w hs vs ds g1 g2 g3) (hG : GV hs vs ds) (h0 : 0 ≤ lv) (h1 : lv ≤ sm hs) (hc : c.ok) (hd : c.d ≤ 1000) (hw : 0 ≤ c.w) (hw2 : c.w ≤ 1000000000) :
    Calls Tryz.prog 49 #[.agg #[.pointer (some ⟨g1, 0, none⟩), .pointer (some ⟨g2, 0, none⟩), .pointer (some ⟨g3, 0, none⟩)], .int .i64 lv, .agg #[.int .i64 (c).w, .int .i64 (c).n, .int .i64 (c).d]] w fun e w' => e = .returned (.tuple #[.agg #[.int .i64 ((untilR hs vs ds lv c).1).w, .int .i64 ((untilR hs vs ds lv c).1).n, .int .i64 ((untilR hs vs ds lv c).1).d], .bool (untilR hs vs ds lv c).2]) ∧ Below w.heap.size w w' := by
  have hu86 := Tryz.underlying73
  have hu90 := Tryz.underlying77
  obtain ⟨z1, z2, z3, t2, t3, t4, t5⟩ := timeF_spec hG.h hG.v hG.hv h0 h1
  obtain ⟨z4, z5, z6, s2, s3, s4, s5⟩ := timeF_spec hG.h hG.d hG.hd h0 h1
  obtain ⟨z7, r2, r3, r4⟩ := restF_spec hG.h hG.v hG.hv h0 h1 hc hd hw
  have hS := hG.sums
  have tw := w_le_v' t2 t5
  have sw := w_le_v' s2 s5
  have rw_ := w_le_v' r2 r4
  have hdd : (timeF hs vs lv).d * c.d ≤ 1000 * 1000 := Int.mul_le_mul t3 hd (by have := hc.1; have := hc.2; omega) (by omega)
  have C1 : Aside0 (∀ W, Below w.heap.size w W → Calls Tryz.prog 51 #[.agg #[.pointer (some ⟨g1, 0, none⟩), .pointer (some ⟨g2, 0, none⟩), .pointer (some ⟨g3, 0, none⟩)], .int .i64 lv] W fun e w' => e = .returned (.agg #[.int .i64 (timeF hs vs lv).w, .int .i64 (timeF hs vs lv).n, .int .i64 (timeF hs vs lv).d]) ∧ Below W.heap.size W w') := ⟨fun W hB => vessel_content.calls hs vs ds g1 g2 g3 lv W (hV.below hB) hG h0 h1⟩
  have C2 : Aside0 (∀ W, Calls Tryz.prog 39 #[.agg #[.int .i64 (timeF hs vs lv).w, .int .i64 (timeF hs vs lv).n, .int .i64 (timeF hs vs lv).d], .agg #[.int .i64 (c).w, .int .i64 (c).n, .int .i64 (c).d]] W fun e w' => e = .returned (.agg #[.int .i64 (restF hs vs lv c).w, .int .i64 (restF hs vs lv c).n, .int .i64 (restF hs vs lv c).d]) ∧ Below W.heap.size W w') := ⟨fun W => less_good (timeF hs vs lv) c W t2 hc (by omega) (by omega) (by omega)⟩
  have C4 : Aside0 (∀ W, Below w.heap.size w W → Calls Tryz.prog 38 #[.agg #[.pointer (some ⟨g1, 0, none⟩), .pointer (some ⟨g2, 0, none⟩), .pointer (some ⟨g3, 0, none⟩)], .int .i64 lv] W fun e w' => e = .returned (.agg #[.int .i64 (timeF hs ds lv).w, .int .i64 (timeF hs ds lv).n, .int .i64 (timeF hs ds lv).d]) ∧ Below W.heap.size W w') := ⟨fun W hB => vessel_time.calls hs vs ds g1 g2 g3 lv W (hV.below hB) hG h0 h1⟩
  have HB := Aside0.mk (Below.refl w.heap.size w)
  clear z1 z2 z3 z4 z5 z6 z7 t2 t3 t4 t5 tw hdd
  by_cases hn : (restF hs vs lv c).w < 0
  · have hU : untilR hs vs ds lv c = (⟨0, 0, 0⟩, false) := by unfold untilR; rw [if_pos hn]
    rw [hU]
    clear hU
    have C3 : Aside0 (∀ W, Calls Tryz.prog 78 #[.agg #[.int .i64 (restF hs vs lv c).w, .int .i64 (restF hs vs lv c).n, .int .i64 (restF hs vs lv c).d], .int .i64 0] W fun e w' => e = .returned (.bool true) ∧ Below W.heap.size W w') := ⟨fun W => by have := below_good (restF hs vs lv c) 0 W; rwa [decide_eq_true hn] at this⟩
    clear hn hV hG h0 h1 hc hd hw hw2 s2 s3 s4 s5 r2 r3 r4 hS sw rw_
    go_enter Tryz.func49, Tryz.ntmps49
    go_wp2_with (first | ((with_reducible refine gate_dst (N := 3) rfl ?_); refine bx_ 3 #[.pointer (some ⟨g1, 0, none⟩), .pointer (some ⟨g2, 0, none⟩), .pointer (some ⟨g3, 0, none⟩)] 73 ?_; intro ga hg w1 hbox hb; have GEga := ge_ hg HB; replace hb := nb_ HB hb; replace HB := bs_ HB hb; have BKga := Aside0.mk hbox; clear hb hbox hg) | ((with_reducible refine gate_dst (N := 5) rfl ?_); refine bx_ 5 #[.int .i64 (c).w, .int .i64 (c).n, .int .i64 (c).d] 77 ?_; intro gd hg w2 hbox hb; have GEgd := ge_ hg HB; have NEga_gd := ne_ hg BKga; replace hb := nb_ HB hb; replace BKga := kb_ BKga hb; replace HB := bs_ HB hb; have BKgd := Aside0.mk hbox; clear hb hbox hg) | ((with_reducible refine gate_dst (N := 6) rfl ?_); refine bx_ 6 #[.int .i64 0, .int .i64 0, .int .i64 0] 77 ?_; intro gb hg w3 hbox hb; have GEgb := ge_ hg HB; have NEga_gb := ne_ hg BKga; have NEgd_gb := ne_ hg BKgd; replace hb := nb_ HB hb; replace BKga := kb_ BKga hb; replace BKgd := kb_ BKgd hb; replace HB := bs_ HB hb; have BKgb := Aside0.mk hbox; clear hb hbox hg))
    replace BKga := kd_ BKga
    replace BKgd := kd_ BKgd
    replace BKgb := kd_ BKgb
    replace HB := bd_ HB
    refine sM_ [6] (fun w' => (w'.cell? ⟨ga, 0, none⟩ = some (.pointer (some ⟨g1, 0, none⟩)) ∧ w'.cell? ⟨ga, 1, none⟩ = some (.pointer (some ⟨g2, 0, none⟩)) ∧ w'.cell? ⟨ga, 2, none⟩ = some (.pointer (some ⟨g3, 0, none⟩))) ∧ (w'.cell? ⟨gd, 0, none⟩ = some (.int .i64 (c).w) ∧ w'.cell? ⟨gd, 1, none⟩ = some (.int .i64 (c).n) ∧ w'.cell? ⟨gd, 2, none⟩ = some (.int .i64 (c).d))) vessel_until.tab1 vessel_until.bits1 ⟨c3_ BKga, c3_ BKgd⟩ (fun hHeld HT_ HW_ => ?_)
    generalize w3.drew = w4 at BKga BKgd BKgb HB hHeld ⊢
    refine pM_ HT_ 1 10 2 ?_
    refine tM_ HT_ HW_ hHeld 0 9 3 ?_
    refine tM_ HT_ HW_ hHeld 3 12 11 ?_
    refine twM_ HT_ 2 (some 11) 15 5 (some 8) 43 (fun K hK => ?_) (fun K hK => ?_)
    · refine gM_ Tryz.func51 (C1.out _ HB.out) ?_
      rintro e w5 ⟨rfl, hb⟩
      refine ⟨.agg #[.int .i64 (timeF hs vs lv).w, .int .i64 (timeF hs vs lv).n, .int .i64 (timeF hs vs lv).d], rfl, ?_⟩
      replace hb := nb_ HB hb
      replace BKga := kb_ BKga hb
      replace BKgd := kb_ BKgd hb
      replace BKgb := kb_ BKgb hb
      replace HB := bs_ HB hb
      (try clear hb)
      refine hK.out _ _ ⟨c3_ BKga, c3_ BKgd⟩ (fun hHeld => ?_)
      clear hK K
      refine nM_ ?_
      refine twM_ HT_ 4 (some 13) 31 5 (some 8) 47 (fun K hK => ?_) (fun K hK => ?_)
      · refine gM_ Tryz.func39 (C2.out _) ?_
        rintro e w6 ⟨rfl, hb⟩
        refine ⟨.agg #[.int .i64 (restF hs vs lv c).w, .int .i64 (restF hs vs lv c).n, .int .i64 (restF hs vs lv c).d], rfl, ?_⟩
        replace hb := nb_ HB hb
        replace BKga := kb_ BKga hb
        replace BKgd := kb_ BKgd hb
        replace BKgb := kb_ BKgb hb
        replace HB := bs_ HB hb
        (try clear hb)
        refine hK.out _ _ ⟨c3_ BKga, c3_ BKgd⟩ (fun hHeld => ?_)
        clear hK K
        refine nM_ ?_
        refine oM_ HT_ 5 (some 8) 63 (fun K hK => ?_)
        refine bs2_ 8 #[.int .i64 0, .int .i64 0, .int .i64 0] 77 ?_
        intro gc hg w7 hbox hb
        have GEgc := ge_ hg HB
        have NEga_gc := ne_ hg BKga
        have NEgd_gc := ne_ hg BKgd
        have NEgb_gc := ne_ hg BKgb
        replace hb := nb_ HB hb
        replace BKga := kb_ BKga hb
        replace BKgd := kb_ BKgd hb
        replace BKgb := kb_ BKgb hb
        replace HB := bs_ HB hb
        have BKgc := Aside0.mk hbox
        clear hb hbox hg
        refine hK.out _ _ ⟨c3_ BKga, c3_ BKgd⟩ (fun hHeld => ?_)
        clear hK K
        refine nM_ ?_
        refine lM_ HT_ 6 none 127 (fun K hK => ?_)
        have hc_ := cf3_ BKgc
        refine sk3_ ?_
        intro ws_ hp_
        clear hc_
        refine hK.out _ _ ?_
        clear hK K
        refine dM_ HT_ ?_
        replace BKga := pf3_ NEga_gc BKga hp_
        replace BKgd := pf3_ NEgd_gc BKgd hp_
        replace BKgb := pf3_ NEgb_gc BKgb hp_
        replace BKgc := pp3_ BKgc hp_
        replace HB := pb3_ GEgc HB hp_
        clear hp_
        generalize ws_ = w8 at BKga BKgd BKgb BKgc HB ⊢
        clear ws_
        obtain ⟨Ogc_0, Ogc_1, Ogc_2⟩ := c3_ BKgc
        go_wp2_with (first | ((with_reducible refine gate_callee (f := 78) rfl ?_); refine gL_ (some 15) Tryz.func78 (C3.out _) ?_; rintro e w9 ⟨rfl, hb⟩; refine ⟨.bool true, rfl, ?_⟩; replace hb := nb_ HB hb; replace BKga := kb_ BKga hb; replace BKgd := kb_ BKgd hb; replace BKgb := kb_ BKgb hb; replace BKgc := kb_ BKgc hb; replace HB := bs_ HB hb; clear Ogc_0 Ogc_1 Ogc_2; obtain ⟨Ogc_0, Ogc_1, Ogc_2⟩ := c3_ BKgc; clear hb) | ((with_reducible refine gate_store (t := 77) (p := 6) rfl ?_); have hc_ := cf3_ BKgb; refine st3_ ?_; intro w10 hp_; clear hc_; clear Ogc_0 Ogc_1 Ogc_2; replace BKga := pf3_ NEga_gb BKga hp_; replace BKgd := pf3_ NEgd_gb BKgd hp_; replace BKgb := pp3_ BKgb hp_; replace BKgc := pf3r_ NEgb_gc BKgc hp_; replace HB := pb3_ GEgb HB hp_; clear hp_; obtain ⟨Ogc_0, Ogc_1, Ogc_2⟩ := c3_ BKgc))
        try go_wp2
        refine bodyPost_ret (results_ct rfl _ _ gb 77 #[.int .i64 0, .int .i64 0, .int .i64 0] (0, 0) _ rfl BKgb.out Tryz.underlying77 rfl (by kernel_rfl)) rfl ?_
        exact ⟨rfl, HB.out⟩
      · refine bs2_ 8 #[.int .i64 0, .int .i64 0, .int .i64 0] 77 ?_
        intro gc hg w7 hbox hb
        have GEgc := ge_ hg HB
        have NEga_gc := ne_ hg BKga
        have NEgd_gc := ne_ hg BKgd
        have NEgb_gc := ne_ hg BKgb
        replace hb := nb_ HB hb
        replace BKga := kb_ BKga hb
        replace BKgd := kb_ BKgd hb
        replace BKgb := kb_ BKgb hb
        replace HB := bs_ HB hb
        have BKgc := Aside0.mk hbox
        clear hb hbox hg
        refine hK.out _ _ ⟨c3_ BKga, c3_ BKgd⟩ (fun hHeld => ?_)
        clear hK K
        refine nM_ ?_
        refine oM_ HT_ 4 (some 13) 63 (fun K hK => ?_)
        refine gM_ Tryz.func39 (C2.out _) ?_
        rintro e w6 ⟨rfl, hb⟩
        refine ⟨.agg #[.int .i64 (restF hs vs lv c).w, .int .i64 (restF hs vs lv c).n, .int .i64 (restF hs vs lv c).d], rfl, ?_⟩
        replace hb := nb_ HB hb
        replace BKga := kb_ BKga hb
        replace BKgd := kb_ BKgd hb
        replace BKgb := kb_ BKgb hb
        replace BKgc := kb_ BKgc hb
        replace HB := bs_ HB hb
        (try clear hb)
        refine hK.out _ _ ⟨c3_ BKga, c3_ BKgd⟩ (fun hHeld => ?_)
        clear hK K
        refine nM_ ?_
        refine lM_ HT_ 6 none 127 (fun K hK => ?_)
        have hc_ := cf3_ BKgc
        refine sk3_ ?_
        intro ws_ hp_
        clear hc_
        refine hK.out _ _ ?_
        clear hK K
        refine dM_ HT_ ?_
        replace BKga := pf3_ NEga_gc BKga hp_
        replace BKgd := pf3_ NEgd_gc BKgd hp_
        replace BKgb := pf3_ NEgb_gc BKgb hp_
        replace BKgc := pp3_ BKgc hp_
        replace HB := pb3_ GEgc HB hp_
        clear hp_
        generalize ws_ = w8 at BKga BKgd BKgb BKgc HB ⊢
        clear ws_
        obtain ⟨Ogc_0, Ogc_1, Ogc_2⟩ := c3_ BKgc
        go_wp2_with (first | ((with_reducible refine gate_callee (f := 78) rfl ?_); refine gL_ (some 15) Tryz.func78 (C3.out _) ?_; rintro e w9 ⟨rfl, hb⟩; refine ⟨.bool true, rfl, ?_⟩; replace hb := nb_ HB hb; replace BKga := kb_ BKga hb; replace BKgd := kb_ BKgd hb; replace BKgb := kb_ BKgb hb; replace BKgc := kb_ BKgc hb; replace HB := bs_ HB hb; clear Ogc_0 Ogc_1 Ogc_2; obtain ⟨Ogc_0, Ogc_1, Ogc_2⟩ := c3_ BKgc; clear hb) | ((with_reducible refine gate_store (t := 77) (p := 6) rfl ?_); have hc_ := cf3_ BKgb; refine st3_ ?_; intro w10 hp_; clear hc_; clear Ogc_0 Ogc_1 Ogc_2; replace BKga := pf3_ NEga_gb BKga hp_; replace BKgd := pf3_ NEgd_gb BKgd hp_; replace BKgb := pp3_ BKgb hp_; replace BKgc := pf3r_ NEgb_gc BKgc hp_; replace HB := pb3_ GEgb HB hp_; clear hp_; obtain ⟨Ogc_0, Ogc_1, Ogc_2⟩ := c3_ BKgc))
        try go_wp2
        refine bodyPost_ret (results_ct rfl _ _ gb 77 #[.int .i64 0, .int .i64 0, .int .i64 0] (0, 0) _ rfl BKgb.out Tryz.underlying77 rfl (by kernel_rfl)) rfl ?_
        exact ⟨rfl, HB.out⟩
    · refine bs2_ 8 #[.int .i64 0, .int .i64 0, .int .i64 0] 77 ?_
      intro gc hg w7 hbox hb
      have GEgc := ge_ hg HB
      have NEga_gc := ne_ hg BKga
      have NEgd_gc := ne_ hg BKgd
      have NEgb_gc := ne_ hg BKgb
      replace hb := nb_ HB hb
      replace BKga := kb_ BKga hb
      replace BKgd := kb_ BKgd hb
      replace BKgb := kb_ BKgb hb
      replace HB := bs_ HB hb
      have BKgc := Aside0.mk hbox
      clear hb hbox hg
      refine hK.out _ _ ⟨c3_ BKga, c3_ BKgd⟩ (fun hHeld => ?_)
      clear hK K
      refine nM_ ?_
      refine oM_ HT_ 2 (some 11) 47 (fun K hK => ?_)
      refine gM_ Tryz.func51 (C1.out _ HB.out) ?_
      rintro e w5 ⟨rfl, hb⟩
      refine ⟨.agg #[.int .i64 (timeF hs vs lv).w, .int .i64 (timeF hs vs lv).n, .int .i64 (timeF hs vs lv).d], rfl, ?_⟩
      replace hb := nb_ HB hb
      replace BKga := kb_ BKga hb
      replace BKgd := kb_ BKgd hb
      replace BKgb := kb_ BKgb hb
      replace BKgc := kb_ BKgc hb
      replace HB := bs_ HB hb
      (try clear hb)
      refine hK.out _ _ ⟨c3_ BKga, c3_ BKgd⟩ (fun hHeld => ?_)
      clear hK K
      refine nM_ ?_
      refine oM_ HT_ 4 (some 13) 63 (fun K hK => ?_)
      refine gM_ Tryz.func39 (C2.out _) ?_
      rintro e w6 ⟨rfl, hb⟩
      refine ⟨.agg #[.int .i64 (restF hs vs lv c).w, .int .i64 (restF hs vs lv c).n, .int .i64 (restF hs vs lv c).d], rfl, ?_⟩
      replace hb := nb_ HB hb
      replace BKga := kb_ BKga hb
      replace BKgd := kb_ BKgd hb
      replace BKgb := kb_ BKgb hb
      replace BKgc := kb_ BKgc hb
      replace HB := bs_ HB hb
      (try clear hb)
      refine hK.out _ _ ⟨c3_ BKga, c3_ BKgd⟩ (fun hHeld => ?_)
      clear hK K
      refine nM_ ?_
      refine lM_ HT_ 6 none 127 (fun K hK => ?_)
      have hc_ := cf3_ BKgc
      refine sk3_ ?_
      intro ws_ hp_
      clear hc_
      refine hK.out _ _ ?_
      clear hK K
      refine dM_ HT_ ?_
      replace BKga := pf3_ NEga_gc BKga hp_
      replace BKgd := pf3_ NEgd_gc BKgd hp_
      replace BKgb := pf3_ NEgb_gc BKgb hp_
      replace BKgc := pp3_ BKgc hp_
      replace HB := pb3_ GEgc HB hp_
      clear hp_
      generalize ws_ = w8 at BKga BKgd BKgb BKgc HB ⊢
      clear ws_
      obtain ⟨Ogc_0, Ogc_1, Ogc_2⟩ := c3_ BKgc
      go_wp2_with (first | ((with_reducible refine gate_callee (f := 78) rfl ?_); refine gL_ (some 15) Tryz.func78 (C3.out _) ?_; rintro e w9 ⟨rfl, hb⟩; refine ⟨.bool true, rfl, ?_⟩; replace hb := nb_ HB hb; replace BKga := kb_ BKga hb; replace BKgd := kb_ BKgd hb; replace BKgb := kb_ BKgb hb; replace BKgc := kb_ BKgc hb; replace HB := bs_ HB hb; clear Ogc_0 Ogc_1 Ogc_2; obtain ⟨Ogc_0, Ogc_1, Ogc_2⟩ := c3_ BKgc; clear hb) | ((with_reducible refine gate_store (t := 77) (p := 6) rfl ?_); have hc_ := cf3_ BKgb; refine st3_ ?_; intro w10 hp_; clear hc_; clear Ogc_0 Ogc_1 Ogc_2; replace BKga := pf3_ NEga_gb BKga hp_; replace BKgd := pf3_ NEgd_gb BKgd hp_; replace BKgb := pp3_ BKgb hp_; replace BKgc := pf3r_ NEgb_gc BKgc hp_; replace HB := pb3_ GEgb HB hp_; clear hp_; obtain ⟨Ogc_0, Ogc_1, Ogc_2⟩ := c3_ BKgc))
      try go_wp2
      refine bodyPost_ret (results_ct rfl _ _ gb 77 #[.int .i64 0, .int .i64 0, .int .i64 0] (0, 0) _ rfl BKgb.out Tryz.underlying77 rfl (by kernel_rfl)) rfl ?_
      exact ⟨rfl, HB.out⟩
  · have hU : untilR hs vs ds lv c = (untilF hs vs ds lv c, true) := by unfold untilR; rw [if_neg hn]
    obtain ⟨u1, u2, u3, u4, u5, u6, z8, z9⟩ := untilF_spec hG h0 h1 hc hd hw (by omega)
    have hvd : vs.length = ds.length := hG.hv.symm.trans hG.hd
    have hdd2 : (timeF hs ds lv).d * (atF ds (findF vs (restF hs vs lv c))).d ≤ 1000 * 100000000000 := Int.mul_le_mul s3 u4 (by have := u3.1; have := u3.2; omega) (by omega)
    have C5 : Aside0 (∀ W, Below w.heap.size w W → Calls Tryz.prog 53 #[.pointer (some ⟨g2, 0, none⟩), .agg #[.int .i64 (restF hs vs lv c).w, .int .i64 (restF hs vs lv c).n, .int .i64 (restF hs vs lv c).d]] W fun e w' => e = .returned (.agg #[.int .i64 ((findF vs (restF hs vs lv c)).r : Int), .int .i64 (findF vs (restF hs vs lv c)).n, .int .i64 (findF vs (restF hs vs lv c)).d]) ∧ Below W.heap.size W w') := ⟨fun W hB => volume_find.good g2 vs 100000 (restF hs vs lv c) W (hV.s2.below hB) hG.v (by decide) r2 (by omega) r4 (by omega)⟩
    have C6 : Aside0 (∀ W, Below w.heap.size w W → Calls Tryz.prog 75 #[.pointer (some ⟨g3, 0, none⟩), .agg #[.int .i64 ((findF vs (restF hs vs lv c)).r : Int), .int .i64 (findF vs (restF hs vs lv c)).n, .int .i64 (findF vs (restF hs vs lv c)).d]] W fun e w' => e = .returned (.agg #[.int .i64 (atF ds (findF vs (restF hs vs lv c))).w, .int .i64 (atF ds (findF vs (restF hs vs lv c))).n, .int .i64 (atF ds (findF vs (restF hs vs lv c))).d]) ∧ Below W.heap.size W w') := ⟨fun W hB => minute_at.good g3 ds 20000 (findF vs (restF hs vs lv c)) W (hV.s3.below hB) hG.d (by decide) (hvd ▸ u1) (by omega) (by omega)⟩
    have C7 : Aside0 (∀ W, Calls Tryz.prog 39 #[.agg #[.int .i64 (timeF hs ds lv).w, .int .i64 (timeF hs ds lv).n, .int .i64 (timeF hs ds lv).d], .agg #[.int .i64 (atF ds (findF vs (restF hs vs lv c))).w, .int .i64 (atF ds (findF vs (restF hs vs lv c))).n, .int .i64 (atF ds (findF vs (restF hs vs lv c))).d]] W fun e w' => e = .returned (.agg #[.int .i64 (untilF hs vs ds lv c).w, .int .i64 (untilF hs vs ds lv c).n, .int .i64 (untilF hs vs ds lv c).d]) ∧ Below W.heap.size W w') := ⟨fun W => less_good (timeF hs ds lv) (atF ds (findF vs (restF hs vs lv c))) W s2 u3 (by omega) (by omega) (by omega)⟩
    clear u1 u2 u3 u4 u5 u6 z8 z9 hdd2 hvd
    rw [hU]
    clear hU
    have C3 : Aside0 (∀ W, Calls Tryz.prog 78 #[.agg #[.int .i64 (restF hs vs lv c).w, .int .i64 (restF hs vs lv c).n, .int .i64 (restF hs vs lv c).d], .int .i64 0] W fun e w' => e = .returned (.bool false) ∧ Below W.heap.size W w') := ⟨fun W => by have := below_good (restF hs vs lv c) 0 W; rwa [decide_eq_false hn] at this⟩
    clear hn hV hG h0 h1 hc hd hw hw2 s2 s3 s4 s5 r2 r3 r4 hS sw rw_
    go_enter Tryz.func49, Tryz.ntmps49
    go_wp2_with (first | ((with_reducible refine gate_dst (N := 3) rfl ?_); refine bx_ 3 #[.pointer (some ⟨g1, 0, none⟩), .pointer (some ⟨g2, 0, none⟩), .pointer (some ⟨g3, 0, none⟩)] 73 ?_; intro ga hg w1 hbox hb; have GEga := ge_ hg HB; replace hb := nb_ HB hb; replace HB := bs_ HB hb; have BKga := Aside0.mk hbox; clear hb hbox hg) | ((with_reducible refine gate_dst (N := 5) rfl ?_); refine bx_ 5 #[.int .i64 (c).w, .int .i64 (c).n, .int .i64 (c).d] 77 ?_; intro gd hg w2 hbox hb; have GEgd := ge_ hg HB; have NEga_gd := ne_ hg BKga; replace hb := nb_ HB hb; replace BKga := kb_ BKga hb; replace HB := bs_ HB hb; have BKgd := Aside0.mk hbox; clear hb hbox hg) | ((with_reducible refine gate_dst (N := 6) rfl ?_); refine bx_ 6 #[.int .i64 0, .int .i64 0, .int .i64 0] 77 ?_; intro gb hg w3 hbox hb; have GEgb := ge_ hg HB; have NEga_gb := ne_ hg BKga; have NEgd_gb := ne_ hg BKgd; replace hb := nb_ HB hb; replace BKga := kb_ BKga hb; replace BKgd := kb_ BKgd hb; replace HB := bs_ HB hb; have BKgb := Aside0.mk hbox; clear hb hbox hg))
    replace BKga := kd_ BKga
    replace BKgd := kd_ BKgd
    replace BKgb := kd_ BKgb
    replace HB := bd_ HB
    refine sM_ [6] (fun w' => (w'.cell? ⟨ga, 0, none⟩ = some (.pointer (some ⟨g1, 0, none⟩)) ∧ w'.cell? ⟨ga, 1, none⟩ = some (.pointer (some ⟨g2, 0, none⟩)) ∧ w'.cell? ⟨ga, 2, none⟩ = some (.pointer (some ⟨g3, 0, none⟩))) ∧ (w'.cell? ⟨gd, 0, none⟩ = some (.int .i64 (c).w) ∧ w'.cell? ⟨gd, 1, none⟩ = some (.int .i64 (c).n) ∧ w'.cell? ⟨gd, 2, none⟩ = some (.int .i64 (c).d))) vessel_until.tab1 vessel_until.bits1 ⟨c3_ BKga, c3_ BKgd⟩ (fun hHeld HT_ HW_ => ?_)
    generalize w3.drew = w4 at BKga BKgd BKgb HB hHeld ⊢
    refine pM_ HT_ 1 10 2 ?_
    refine tM_ HT_ HW_ hHeld 0 9 3 ?_
    refine tM_ HT_ HW_ hHeld 3 12 11 ?_
    refine twM_ HT_ 2 (some 11) 15 5 (some 8) 43 (fun K hK => ?_) (fun K hK => ?_)
    · refine gM_ Tryz.func51 (C1.out _ HB.out) ?_
      rintro e w5 ⟨rfl, hb⟩
      refine ⟨.agg #[.int .i64 (timeF hs vs lv).w, .int .i64 (timeF hs vs lv).n, .int .i64 (timeF hs vs lv).d], rfl, ?_⟩
      replace hb := nb_ HB hb
      replace BKga := kb_ BKga hb
      replace BKgd := kb_ BKgd hb
      replace BKgb := kb_ BKgb hb
      replace HB := bs_ HB hb
      (try clear hb)
      refine hK.out _ _ ⟨c3_ BKga, c3_ BKgd⟩ (fun hHeld => ?_)
      clear hK K
      refine nM_ ?_
      refine twM_ HT_ 4 (some 13) 31 5 (some 8) 47 (fun K hK => ?_) (fun K hK => ?_)
      · refine gM_ Tryz.func39 (C2.out _) ?_
        rintro e w6 ⟨rfl, hb⟩
        refine ⟨.agg #[.int .i64 (restF hs vs lv c).w, .int .i64 (restF hs vs lv c).n, .int .i64 (restF hs vs lv c).d], rfl, ?_⟩
        replace hb := nb_ HB hb
        replace BKga := kb_ BKga hb
        replace BKgd := kb_ BKgd hb
        replace BKgb := kb_ BKgb hb
        replace HB := bs_ HB hb
        (try clear hb)
        refine hK.out _ _ ⟨c3_ BKga, c3_ BKgd⟩ (fun hHeld => ?_)
        clear hK K
        refine nM_ ?_
        refine oM_ HT_ 5 (some 8) 63 (fun K hK => ?_)
        refine bs2_ 8 #[.int .i64 0, .int .i64 0, .int .i64 0] 77 ?_
        intro gc hg w7 hbox hb
        have GEgc := ge_ hg HB
        have NEga_gc := ne_ hg BKga
        have NEgd_gc := ne_ hg BKgd
        have NEgb_gc := ne_ hg BKgb
        replace hb := nb_ HB hb
        replace BKga := kb_ BKga hb
        replace BKgd := kb_ BKgd hb
        replace BKgb := kb_ BKgb hb
        replace HB := bs_ HB hb
        have BKgc := Aside0.mk hbox
        clear hb hbox hg
        refine hK.out _ _ ⟨c3_ BKga, c3_ BKgd⟩ (fun hHeld => ?_)
        clear hK K
        refine nM_ ?_
        refine lM_ HT_ 6 none 127 (fun K hK => ?_)
        have hc_ := cf3_ BKgc
        refine sk3_ ?_
        intro ws_ hp_
        clear hc_
        refine hK.out _ _ ?_
        clear hK K
        refine dM_ HT_ ?_
        replace BKga := pf3_ NEga_gc BKga hp_
        replace BKgd := pf3_ NEgd_gc BKgd hp_
        replace BKgb := pf3_ NEgb_gc BKgb hp_
        replace BKgc := pp3_ BKgc hp_
        replace HB := pb3_ GEgc HB hp_
        clear hp_
        generalize ws_ = w8 at BKga BKgd BKgb BKgc HB ⊢
        clear ws_
        obtain ⟨Ogc_0, Ogc_1, Ogc_2⟩ := c3_ BKgc
        go_wp2_with (first | ((with_reducible refine gate_callee (f := 78) rfl ?_); refine gL_ (some 15) Tryz.func78 (C3.out _) ?_; rintro e w9 ⟨rfl, hb⟩; refine ⟨.bool false, rfl, ?_⟩; replace hb := nb_ HB hb; replace BKga := kb_ BKga hb; replace BKgd := kb_ BKgd hb; replace BKgb := kb_ BKgb hb; replace BKgc := kb_ BKgc hb; replace HB := bs_ HB hb; clear Ogc_0 Ogc_1 Ogc_2; obtain ⟨Ogc_0, Ogc_1, Ogc_2⟩ := c3_ BKgc; clear hb))
        clear Ogc_0 Ogc_1 Ogc_2
        replace BKga := kd_ BKga
        replace BKgd := kd_ BKgd
        replace BKgb := kd_ BKgb
        replace BKgc := kd_ BKgc
        replace HB := bd_ HB
        refine sM_ [11] (fun w' => (w'.cell? ⟨ga, 0, none⟩ = some (.pointer (some ⟨g1, 0, none⟩)) ∧ w'.cell? ⟨ga, 1, none⟩ = some (.pointer (some ⟨g2, 0, none⟩)) ∧ w'.cell? ⟨ga, 2, none⟩ = some (.pointer (some ⟨g3, 0, none⟩))) ∧ (w'.cell? ⟨gc, 0, none⟩ = some (.int .i64 (restF hs vs lv c).w) ∧ w'.cell? ⟨gc, 1, none⟩ = some (.int .i64 (restF hs vs lv c).n) ∧ w'.cell? ⟨gc, 2, none⟩ = some (.int .i64 (restF hs vs lv c).d))) vessel_until.tab4 vessel_until.bits4 ⟨c3_ BKga, c3_ BKgc⟩ (fun hHeld HT_ HW_ => ?_)
        generalize w9.drew = w10 at BKga BKgd BKgb BKgc HB hHeld ⊢
        refine pM_ HT_ 1 18 2 ?_
        refine pM_ HT_ 3 20 10 ?_
        refine pM_ HT_ 5 22 42 ?_
        refine tM_ HT_ HW_ hHeld 0 17 43 ?_
        refine tM_ HT_ HW_ hHeld 4 21 59 ?_
        refine tM_ HT_ HW_ hHeld 6 23 123 ?_
        refine tM_ HT_ HW_ hHeld 7 24 251 ?_
        refine oM_ HT_ 2 (some 19) 255 (fun K hK => ?_)
        refine gM_ Tryz.func38 (C4.out _ HB.out) ?_
        rintro e w11 ⟨rfl, hb⟩
        refine ⟨.agg #[.int .i64 (timeF hs ds lv).w, .int .i64 (timeF hs ds lv).n, .int .i64 (timeF hs ds lv).d], rfl, ?_⟩
        replace hb := nb_ HB hb
        replace BKga := kb_ BKga hb
        replace BKgd := kb_ BKgd hb
        replace BKgb := kb_ BKgb hb
        replace BKgc := kb_ BKgc hb
        replace HB := bs_ HB hb
        (try clear hb)
        refine hK.out _ _ ⟨c3_ BKga, c3_ BKgc⟩ (fun hHeld => ?_)
        clear hK K
        refine nM_ ?_
        refine oM_ HT_ 8 (some 25) 511 (fun K hK => ?_)
        refine gM_ Tryz.func53 (C5.out _ HB.out) ?_
        rintro e w12 ⟨rfl, hb⟩
        refine ⟨.agg #[.int .i64 ((findF vs (restF hs vs lv c)).r : Int), .int .i64 (findF vs (restF hs vs lv c)).n, .int .i64 (findF vs (restF hs vs lv c)).d], rfl, ?_⟩
        replace hb := nb_ HB hb
        replace BKga := kb_ BKga hb
        replace BKgd := kb_ BKgd hb
        replace BKgb := kb_ BKgb hb
        replace BKgc := kb_ BKgc hb
        replace HB := bs_ HB hb
        (try clear hb)
        refine hK.out _ _ ⟨c3_ BKga, c3_ BKgc⟩ (fun hHeld => ?_)
        clear hK K
        refine nM_ ?_
        refine oM_ HT_ 9 (some 26) 1023 (fun K hK => ?_)
        refine gM_ Tryz.func75 (C6.out _ HB.out) ?_
        rintro e w13 ⟨rfl, hb⟩
        refine ⟨.agg #[.int .i64 (atF ds (findF vs (restF hs vs lv c))).w, .int .i64 (atF ds (findF vs (restF hs vs lv c))).n, .int .i64 (atF ds (findF vs (restF hs vs lv c))).d], rfl, ?_⟩
        replace hb := nb_ HB hb
        replace BKga := kb_ BKga hb
        replace BKgd := kb_ BKgd hb
        replace BKgb := kb_ BKgb hb
        replace BKgc := kb_ BKgc hb
        replace HB := bs_ HB hb
        (try clear hb)
        refine hK.out _ _ ⟨c3_ BKga, c3_ BKgc⟩ (fun hHeld => ?_)
        clear hK K
        refine nM_ ?_
        refine oM_ HT_ 10 (some 27) 2047 (fun K hK => ?_)
        refine gM_ Tryz.func39 (C7.out _) ?_
        rintro e w14 ⟨rfl, hb⟩
        refine ⟨.agg #[.int .i64 (untilF hs vs ds lv c).w, .int .i64 (untilF hs vs ds lv c).n, .int .i64 (untilF hs vs ds lv c).d], rfl, ?_⟩
        replace hb := nb_ HB hb
        replace BKga := kb_ BKga hb
        replace BKgd := kb_ BKgd hb
        replace BKgb := kb_ BKgb hb
        replace BKgc := kb_ BKgc hb
        replace HB := bs_ HB hb
        (try clear hb)
        refine hK.out _ _ ⟨c3_ BKga, c3_ BKgc⟩ (fun hHeld => ?_)
        clear hK K
        refine nM_ ?_
        refine lM_ HT_ 11 none 4095 (fun K hK => ?_)
        have hc_ := cf3_ BKgb
        refine sk3_ ?_
        intro ws_ hp_
        clear hc_
        refine hK.out _ _ ?_
        clear hK K
        refine pM_ HT_ 12 7 8191 ?_
        refine dM_ HT_ ?_
        try go_wp2
        replace BKga := pf3_ NEga_gb BKga hp_
        replace BKgd := pf3_ NEgd_gb BKgd hp_
        replace BKgb := pp3_ BKgb hp_
        replace BKgc := pf3r_ NEgb_gc BKgc hp_
        replace HB := pb3_ GEgb HB hp_
        clear hp_
        generalize ws_ = w15 at BKga BKgd BKgb BKgc HB ⊢
        clear ws_
        refine bodyPost_ret (results_ct rfl _ _ gb 77 #[.int .i64 (untilF hs vs ds lv c).w, .int .i64 (untilF hs vs ds lv c).n, .int .i64 (untilF hs vs ds lv c).d] (0, 0) _ rfl BKgb.out Tryz.underlying77 rfl (by kernel_rfl)) rfl ?_
        exact ⟨rfl, HB.out⟩
      · refine bs2_ 8 #[.int .i64 0, .int .i64 0, .int .i64 0] 77 ?_
        intro gc hg w7 hbox hb
        have GEgc := ge_ hg HB
        have NEga_gc := ne_ hg BKga
        have NEgd_gc := ne_ hg BKgd
        have NEgb_gc := ne_ hg BKgb
        replace hb := nb_ HB hb
        replace BKga := kb_ BKga hb
        replace BKgd := kb_ BKgd hb
        replace BKgb := kb_ BKgb hb
        replace HB := bs_ HB hb
        have BKgc := Aside0.mk hbox
        clear hb hbox hg
        refine hK.out _ _ ⟨c3_ BKga, c3_ BKgd⟩ (fun hHeld => ?_)
        clear hK K
        refine nM_ ?_
        refine oM_ HT_ 4 (some 13) 63 (fun K hK => ?_)
        refine gM_ Tryz.func39 (C2.out _) ?_
        rintro e w6 ⟨rfl, hb⟩
        refine ⟨.agg #[.int .i64 (restF hs vs lv c).w, .int .i64 (restF hs vs lv c).n, .int .i64 (restF hs vs lv c).d], rfl, ?_⟩
        replace hb := nb_ HB hb
        replace BKga := kb_ BKga hb
        replace BKgd := kb_ BKgd hb
        replace BKgb := kb_ BKgb hb
        replace BKgc := kb_ BKgc hb
        replace HB := bs_ HB hb
        (try clear hb)
        refine hK.out _ _ ⟨c3_ BKga, c3_ BKgd⟩ (fun hHeld => ?_)
        clear hK K
        refine nM_ ?_
        refine lM_ HT_ 6 none 127 (fun K hK => ?_)
        have hc_ := cf3_ BKgc
        refine sk3_ ?_
        intro ws_ hp_
        clear hc_
        refine hK.out _ _ ?_
        clear hK K
        refine dM_ HT_ ?_
        replace BKga := pf3_ NEga_gc BKga hp_
        replace BKgd := pf3_ NEgd_gc BKgd hp_
        replace BKgb := pf3_ NEgb_gc BKgb hp_
        replace BKgc := pp3_ BKgc hp_
        replace HB := pb3_ GEgc HB hp_
        clear hp_
        generalize ws_ = w8 at BKga BKgd BKgb BKgc HB ⊢
        clear ws_
        obtain ⟨Ogc_0, Ogc_1, Ogc_2⟩ := c3_ BKgc
        go_wp2_with (first | ((with_reducible refine gate_callee (f := 78) rfl ?_); refine gL_ (some 15) Tryz.func78 (C3.out _) ?_; rintro e w9 ⟨rfl, hb⟩; refine ⟨.bool false, rfl, ?_⟩; replace hb := nb_ HB hb; replace BKga := kb_ BKga hb; replace BKgd := kb_ BKgd hb; replace BKgb := kb_ BKgb hb; replace BKgc := kb_ BKgc hb; replace HB := bs_ HB hb; clear Ogc_0 Ogc_1 Ogc_2; obtain ⟨Ogc_0, Ogc_1, Ogc_2⟩ := c3_ BKgc; clear hb))
        clear Ogc_0 Ogc_1 Ogc_2
        replace BKga := kd_ BKga
        replace BKgd := kd_ BKgd
        replace BKgb := kd_ BKgb
        replace BKgc := kd_ BKgc
        replace HB := bd_ HB
        refine sM_ [11] (fun w' => (w'.cell? ⟨ga, 0, none⟩ = some (.pointer (some ⟨g1, 0, none⟩)) ∧ w'.cell? ⟨ga, 1, none⟩ = some (.pointer (some ⟨g2, 0, none⟩)) ∧ w'.cell? ⟨ga, 2, none⟩ = some (.pointer (some ⟨g3, 0, none⟩))) ∧ (w'.cell? ⟨gc, 0, none⟩ = some (.int .i64 (restF hs vs lv c).w) ∧ w'.cell? ⟨gc, 1, none⟩ = some (.int .i64 (restF hs vs lv c).n) ∧ w'.cell? ⟨gc, 2, none⟩ = some (.int .i64 (restF hs vs lv c).d))) vessel_until.tab4 vessel_until.bits4 ⟨c3_ BKga, c3_ BKgc⟩ (fun hHeld HT_ HW_ => ?_)
        generalize w9.drew = w10 at BKga BKgd BKgb BKgc HB hHeld ⊢
        refine pM_ HT_ 1 18 2 ?_
        refine pM_ HT_ 3 20 10 ?_
        refine pM_ HT_ 5 22 42 ?_
        refine tM_ HT_ HW_ hHeld 0 17 43 ?_
        refine tM_ HT_ HW_ hHeld 4 21 59 ?_
        refine tM_ HT_ HW_ hHeld 6 23 123 ?_
        refine tM_ HT_ HW_ hHeld 7 24 251 ?_
        refine oM_ HT_ 2 (some 19) 255 (fun K hK => ?_)
        refine gM_ Tryz.func38 (C4.out _ HB.out) ?_
        rintro e w11 ⟨rfl, hb⟩
        refine ⟨.agg #[.int .i64 (timeF hs ds lv).w, .int .i64 (timeF hs ds lv).n, .int .i64 (timeF hs ds lv).d], rfl, ?_⟩
        replace hb := nb_ HB hb
        replace BKga := kb_ BKga hb
        replace BKgd := kb_ BKgd hb
        replace BKgb := kb_ BKgb hb
        replace BKgc := kb_ BKgc hb
        replace HB := bs_ HB hb
        (try clear hb)
        refine hK.out _ _ ⟨c3_ BKga, c3_ BKgc⟩ (fun hHeld => ?_)
        clear hK K
        refine nM_ ?_
        refine oM_ HT_ 8 (some 25) 511 (fun K hK => ?_)
        refine gM_ Tryz.func53 (C5.out _ HB.out) ?_
        rintro e w12 ⟨rfl, hb⟩
        refine ⟨.agg #[.int .i64 ((findF vs (restF hs vs lv c)).r : Int), .int .i64 (findF vs (restF hs vs lv c)).n, .int .i64 (findF vs (restF hs vs lv c)).d], rfl, ?_⟩
        replace hb := nb_ HB hb
        replace BKga := kb_ BKga hb
        replace BKgd := kb_ BKgd hb
        replace BKgb := kb_ BKgb hb
        replace BKgc := kb_ BKgc hb
        replace HB := bs_ HB hb
        (try clear hb)
        refine hK.out _ _ ⟨c3_ BKga, c3_ BKgc⟩ (fun hHeld => ?_)
        clear hK K
        refine nM_ ?_
        refine oM_ HT_ 9 (some 26) 1023 (fun K hK => ?_)
        refine gM_ Tryz.func75 (C6.out _ HB.out) ?_
        rintro e w13 ⟨rfl, hb⟩
        refine ⟨.agg #[.int .i64 (atF ds (findF vs (restF hs vs lv c))).w, .int .i64 (atF ds (findF vs (restF hs vs lv c))).n, .int .i64 (atF ds (findF vs (restF hs vs lv c))).d], rfl, ?_⟩
        replace hb := nb_ HB hb
        replace BKga := kb_ BKga hb
        replace BKgd := kb_ BKgd hb
        replace BKgb := kb_ BKgb hb
        replace BKgc := kb_ BKgc hb
        replace HB := bs_ HB hb
        (try clear hb)
        refine hK.out _ _ ⟨c3_ BKga, c3_ BKgc⟩ (fun hHeld => ?_)
        clear hK K
        refine nM_ ?_
        refine oM_ HT_ 10 (some 27) 2047 (fun K hK => ?_)
        refine gM_ Tryz.func39 (C7.out _) ?_
        rintro e w14 ⟨rfl, hb⟩
        refine ⟨.agg #[.int .i64 (untilF hs vs ds lv c).w, .int .i64 (untilF hs vs ds lv c).n, .int .i64 (untilF hs vs ds lv c).d], rfl, ?_⟩
        replace hb := nb_ HB hb
        replace BKga := kb_ BKga hb
        replace BKgd := kb_ BKgd hb
        replace BKgb := kb_ BKgb hb
        replace BKgc := kb_ BKgc hb
        replace HB := bs_ HB hb
        (try clear hb)
        refine hK.out _ _ ⟨c3_ BKga, c3_ BKgc⟩ (fun hHeld => ?_)
        clear hK K
        refine nM_ ?_
        refine lM_ HT_ 11 none 4095 (fun K hK => ?_)
        have hc_ := cf3_ BKgb
        refine sk3_ ?_
        intro ws_ hp_
        clear hc_
        refine hK.out _ _ ?_
        clear hK K
        refine pM_ HT_ 12 7 8191 ?_
        refine dM_ HT_ ?_
        try go_wp2
        replace BKga := pf3_ NEga_gb BKga hp_
        replace BKgd := pf3_ NEgd_gb BKgd hp_
        replace BKgb := pp3_ BKgb hp_
        replace BKgc := pf3r_ NEgb_gc BKgc hp_
        replace HB := pb3_ GEgb HB hp_
        clear hp_
        generalize ws_ = w15 at BKga BKgd BKgb BKgc HB ⊢
        clear ws_
        refine bodyPost_ret (results_ct rfl _ _ gb 77 #[.int .i64 (untilF hs vs ds lv c).w, .int .i64 (untilF hs vs ds lv c).n, .int .i64 (untilF hs vs ds lv c).d] (0, 0) _ rfl BKgb.out Tryz.underlying77 rfl (by kernel_rfl)) rfl ?_
        exact ⟨rfl, HB.out⟩
    · refine bs2_ 8 #[.int .i64 0, .int .i64 0, .int .i64 0] 77 ?_
      intro gc hg w7 hbox hb
      have GEgc := ge_ hg HB
      have NEga_gc := ne_ hg BKga
      have NEgd_gc := ne_ hg BKgd
      have NEgb_gc := ne_ hg BKgb
      replace hb := nb_ HB hb
      replace BKga := kb_ BKga hb
      replace BKgd := kb_ BKgd hb
      replace BKgb := kb_ BKgb hb
      replace HB := bs_ HB hb
      have BKgc := Aside0.mk hbox
      clear hb hbox hg
      refine hK.out _ _ ⟨c3_ BKga, c3_ BKgd⟩ (fun hHeld => ?_)
      clear hK K
      refine nM_ ?_
      refine oM_ HT_ 2 (some 11) 47 (fun K hK => ?_)
      refine gM_ Tryz.func51 (C1.out _ HB.out) ?_
      rintro e w5 ⟨rfl, hb⟩
      refine ⟨.agg #[.int .i64 (timeF hs vs lv).w, .int .i64 (timeF hs vs lv).n, .int .i64 (timeF hs vs lv).d], rfl, ?_⟩
      replace hb := nb_ HB hb
      replace BKga := kb_ BKga hb
      replace BKgd := kb_ BKgd hb
      replace BKgb := kb_ BKgb hb
      replace BKgc := kb_ BKgc hb
      replace HB := bs_ HB hb
      (try clear hb)
      refine hK.out _ _ ⟨c3_ BKga, c3_ BKgd⟩ (fun hHeld => ?_)
      clear hK K
      refine nM_ ?_
      refine oM_ HT_ 4 (some 13) 63 (fun K hK => ?_)
      refine gM_ Tryz.func39 (C2.out _) ?_
      rintro e w6 ⟨rfl, hb⟩
      refine ⟨.agg #[.int .i64 (restF hs vs lv c).w, .int .i64 (restF hs vs lv c).n, .int .i64 (restF hs vs lv c).d], rfl, ?_⟩
      replace hb := nb_ HB hb
      replace BKga := kb_ BKga hb
      replace BKgd := kb_ BKgd hb
      replace BKgb := kb_ BKgb hb
      replace BKgc := kb_ BKgc hb
      replace HB := bs_ HB hb
      (try clear hb)
      refine hK.out _ _ ⟨c3_ BKga, c3_ BKgd⟩ (fun hHeld => ?_)
      clear hK K
      refine nM_ ?_
      refine lM_ HT_ 6 none 127 (fun K hK => ?_)
      have hc_ := cf3_ BKgc
      refine sk3_ ?_
      intro ws_ hp_
      clear hc_
      refine hK.out _ _ ?_
      clear hK K
      refine dM_ HT_ ?_
      replace BKga := pf3_ NEga_gc BKga hp_
      replace BKgd := pf3_ NEgd_gc BKgd hp_
      replace BKgb := pf3_ NEgb_gc BKgb hp_
      replace BKgc := pp3_ BKgc hp_
      replace HB := pb3_ GEgc HB hp_
      clear hp_
      generalize ws_ = w8 at BKga BKgd BKgb BKgc HB ⊢
      clear ws_
      obtain ⟨Ogc_0, Ogc_1, Ogc_2⟩ := c3_ BKgc
      go_wp2_with (first | ((with_reducible refine gate_callee (f := 78) rfl ?_); refine gL_ (some 15) Tryz.func78 (C3.out _) ?_; rintro e w9 ⟨rfl, hb⟩; refine ⟨.bool false, rfl, ?_⟩; replace hb := nb_ HB hb; replace BKga := kb_ BKga hb; replace BKgd := kb_ BKgd hb; replace BKgb := kb_ BKgb hb; replace BKgc := kb_ BKgc hb; replace HB := bs_ HB hb; clear Ogc_0 Ogc_1 Ogc_2; obtain ⟨Ogc_0, Ogc_1, Ogc_2⟩ := c3_ BKgc; clear hb))
      clear Ogc_0 Ogc_1 Ogc_2
      replace BKga := kd_ BKga
      replace BKgd := kd_ BKgd
      replace BKgb := kd_ BKgb
      replace BKgc := kd_ BKgc
      replace HB := bd_ HB
      refine sM_ [11] (fun w' => (w'.cell? ⟨ga, 0, none⟩ = some (.pointer (some ⟨g1, 0, none⟩)) ∧ w'.cell? ⟨ga, 1, none⟩ = some (.pointer (some ⟨g2, 0, none⟩)) ∧ w'.cell? ⟨ga, 2, none⟩ = some (.pointer (some ⟨g3, 0, none⟩))) ∧ (w'.cell? ⟨gc, 0, none⟩ = some (.int .i64 (restF hs vs lv c).w) ∧ w'.cell? ⟨gc, 1, none⟩ = some (.int .i64 (restF hs vs lv c).n) ∧ w'.cell? ⟨gc, 2, none⟩ = some (.int .i64 (restF hs vs lv c).d))) vessel_until.tab4 vessel_until.bits4 ⟨c3_ BKga, c3_ BKgc⟩ (fun hHeld HT_ HW_ => ?_)
      generalize w9.drew = w10 at BKga BKgd BKgb BKgc HB hHeld ⊢
      refine pM_ HT_ 1 18 2 ?_
      refine pM_ HT_ 3 20 10 ?_
      refine pM_ HT_ 5 22 42 ?_
      refine tM_ HT_ HW_ hHeld 0 17 43 ?_
      refine tM_ HT_ HW_ hHeld 4 21 59 ?_
      refine tM_ HT_ HW_ hHeld 6 23 123 ?_
      refine tM_ HT_ HW_ hHeld 7 24 251 ?_
      refine oM_ HT_ 2 (some 19) 255 (fun K hK => ?_)
      refine gM_ Tryz.func38 (C4.out _ HB.out) ?_
      rintro e w11 ⟨rfl, hb⟩
      refine ⟨.agg #[.int .i64 (timeF hs ds lv).w, .int .i64 (timeF hs ds lv).n, .int .i64 (timeF hs ds lv).d], rfl, ?_⟩
      replace hb := nb_ HB hb
      replace BKga := kb_ BKga hb
      replace BKgd := kb_ BKgd hb
      replace BKgb := kb_ BKgb hb
      replace BKgc := kb_ BKgc hb
      replace HB := bs_ HB hb
      (try clear hb)
      refine hK.out _ _ ⟨c3_ BKga, c3_ BKgc⟩ (fun hHeld => ?_)
      clear hK K
      refine nM_ ?_
      refine oM_ HT_ 8 (some 25) 511 (fun K hK => ?_)
      refine gM_ Tryz.func53 (C5.out _ HB.out) ?_
      rintro e w12 ⟨rfl, hb⟩
      refine ⟨.agg #[.int .i64 ((findF vs (restF hs vs lv c)).r : Int), .int .i64 (findF vs (restF hs vs lv c)).n, .int .i64 (findF vs (restF hs vs lv c)).d], rfl, ?_⟩
      replace hb := nb_ HB hb
      replace BKga := kb_ BKga hb
      replace BKgd := kb_ BKgd hb
      replace BKgb := kb_ BKgb hb
      replace BKgc := kb_ BKgc hb
      replace HB := bs_ HB hb
      (try clear hb)
      refine hK.out _ _ ⟨c3_ BKga, c3_ BKgc⟩ (fun hHeld => ?_)
      clear hK K
      refine nM_ ?_
      refine oM_ HT_ 9 (some 26) 1023 (fun K hK => ?_)
      refine gM_ Tryz.func75 (C6.out _ HB.out) ?_
      rintro e w13 ⟨rfl, hb⟩
      refine ⟨.agg #[.int .i64 (atF ds (findF vs (restF hs vs lv c))).w, .int .i64 (atF ds (findF vs (restF hs vs lv c))).n, .int .i64 (atF ds (findF vs (restF hs vs lv c))).d], rfl, ?_⟩
      replace hb := nb_ HB hb
      replace BKga := kb_ BKga hb
      replace BKgd := kb_ BKgd hb
      replace BKgb := kb_ BKgb hb
      replace BKgc := kb_ BKgc hb
      replace HB := bs_ HB hb
      (try clear hb)
      refine hK.out _ _ ⟨c3_ BKga, c3_ BKgc⟩ (fun hHeld => ?_)
      clear hK K
      refine nM_ ?_
      refine oM_ HT_ 10 (some 27) 2047 (fun K hK => ?_)
      refine gM_ Tryz.func39 (C7.out _) ?_
      rintro e w14 ⟨rfl, hb⟩
      refine ⟨.agg #[.int .i64 (untilF hs vs ds lv c).w, .int .i64 (untilF hs vs ds lv c).n, .int .i64 (untilF hs vs ds lv c).d], rfl, ?_⟩
      replace hb := nb_ HB hb
      replace BKga := kb_ BKga hb
      replace BKgd := kb_ BKgd hb
      replace BKgb := kb_ BKgb hb
      replace BKgc := kb_ BKgc hb
      replace HB := bs_ HB hb
      (try clear hb)
      refine hK.out _ _ ⟨c3_ BKga, c3_ BKgc⟩ (fun hHeld => ?_)
      clear hK K
      refine nM_ ?_
      refine lM_ HT_ 11 none 4095 (fun K hK => ?_)
      have hc_ := cf3_ BKgb
      refine sk3_ ?_
      intro ws_ hp_
      clear hc_
      refine hK.out _ _ ?_
      clear hK K
      refine pM_ HT_ 12 7 8191 ?_
      refine dM_ HT_ ?_
      try go_wp2
      replace BKga := pf3_ NEga_gb BKga hp_
      replace BKgd := pf3_ NEgd_gb BKgd hp_
      replace BKgb := pp3_ BKgb hp_
      replace BKgc := pf3r_ NEgb_gc BKgc hp_
      replace HB := pb3_ GEgb HB hp_
      clear hp_
      generalize ws_ = w15 at BKga BKgd BKgb BKgc HB ⊢
      clear ws_
      refine bodyPost_ret (results_ct rfl _ _ gb 77 #[.int .i64 (untilF hs vs ds lv c).w, .int .i64 (untilF hs vs ds lv c).n, .int .i64 (untilF hs vs ds lv c).d] (0, 0) _ rfl BKgb.out Tryz.underlying77 rfl (by kernel_rfl)) rfl ?_
      exact ⟨rfl, HB.out⟩
end Go.Proofs.YtlhfclpbodfmcaaGreatDoor.Pr
