/- A part of the proof: CvC. -/
import Derived.Test.YtlhfclpbodfmcaaGreatDoorYBCvB
namespace Go.Proofs.YtlhfclpbodfmcaaGreatDoor.Pr
open Go.RowKit Go.Shelf Go.Proofs.YtlhfclpbodfmcaaGreatDoorW.PrintWords Go.Proofs.YtlhfclpbodfmcaaGreatDoorW.PrintLast Go.Proofs.YtlhfclpbodfmcaaGreatDoorW.PrintMore
open Go.Proofs.YtlhfclpbodfmcaaGreatDoor.Vm
set_option linter.unusedVariables false
set_option linter.unusedSimpArgs false
attribute [local go_sem] Oper.semAt_some
def okLine (x : S60 × S60) : Bool := decide (x.1.f0 < x.2.f0) && decide (x.1.f1 < x.2.f1)
def incB (l : List S60) : Bool := (upto (lineAt l) (l.length - 1)).all okLine
def checkC (l : List S60) : Int := if l.length < 2 ∨ 64 < l.length ∨ l.all ptB = false then 10 else if incB l then 0 else 10
theorem cell_lt {w : World} {a : Addr} {v : Value} (h : w.cell? a = some v) : a.block < w.heap.size := by
  by_cases hb : a.block < w.heap.size
  · exact hb
  · have : w.heap[a.block]? = none := Array.getElem?_eq_none (by omega)
    simp [World.cell?, this] at h
theorem heap_kept {A B : World} {row : Option Nat} {b : Nat} {o : Obj} (h : A.heap[b]? = some o) (ho : o.isCells = true) (hg : A.grownBy B row) (hr : ∀ r, row = some r → ∃ o : Obj, A.heap[r]? = some o ∧ o.isCells = false) : B.heap[b]? = some o :=
  (hg.block b (Array.getElem?_eq_some_iff.1 h).1 (fun e => by obtain ⟨o', h1, h2⟩ := hr b e.symm; rw [h] at h1; cases h1; rw [ho] at h2; cases h2)).trans h
theorem upto_all_false {α : Type} {f : Nat → α} {p : α → Bool} {k n : Nat} (hk : k ≤ n) (h : (upto f k).all p = false) : (upto f n).all p = false := by
  rw [List.all_eq_false] at h ⊢
  obtain ⟨x, hx, hp⟩ := h
  simp only [upto, List.mem_map, List.mem_range] at hx ⊢
  obtain ⟨a, ha, rfl⟩ := hx
  exact ⟨f a, ⟨a, by omega, rfl⟩, hp⟩
set_option maxRecDepth 100000 in
set_option maxHeartbeats 4000000 in
theorem curve_Check.run (A0 : Option Addr) (c0 : Nat) (l0 : List S60) (w : World) (hr0 : Kd.C k60 w A0 l0.length l0) (h2 : 2 ≤ l0.length) (h64 : l0.length ≤ 64) (hp : l0.all ptB = true) :
    Calls Tryz.prog 82 #[.slice A0 l0.length c0] w fun e w' => e = .returned (.int .i64 (if incB l0 then 0 else 10)) ∧ Below w.heap.size w w' := by
  have hu60 := Tryz.underlying53
  have hu129 := Tryz.underlying145
  obtain ⟨ad, rfl, hx, _⟩ := at_T60 hr0 0 (by omega) (by omega)
  have hblk : ad.block < w.heap.size := cell_lt hx
  clear hx
  have C1 : ∀ W, Below w.heap.size w W → Calls Tryz.prog 96 #[.slice (some ad) l0.length c0] W fun e w' => e = .returned (.bool true) ∧ Below W.heap.size W w' := fun W hW => by
    have := curve_right.calls (some ad) c0 l0 W (Kd.C_below hr0 hW) (by omega); rwa [hp] at this
  have hd1 : decide ((l0.length : Int) < 2) = false := decide_eq_false (by omega)
  have hd2 : decide ((64 : Int) < (l0.length : Int)) = false := decide_eq_false (by omega)
  have hd3 : decide (l0.length < 2) = false := decide_eq_false (by omega)
  have hd4 : decide (64 < l0.length) = false := decide_eq_false (by omega)
  have H0 : incB l0 = true → (if incB l0 = true then (0 : Int) else 10) = 0 := fun h => if_pos h
  have H10 : incB l0 = false → (if incB l0 = true then (0 : Int) else 10) = 10 := fun h => if_neg (by rw [h]; simp)
  generalize (if incB l0 = true then (0 : Int) else 10) = rr at H0 H10 ⊢
  rw [← callsIn_wide (n := 9)]
  refine callsIn_of_wp_marks Tryz.func82 rfl trivial ?_ rfl
  simp only [Tryz.ntmps82, List.size_toArray, List.length_cons, List.length_nil, Nat.reduceAdd, Nat.reduceSub, Array.replicate_succ, Array.replicate_zero, List.push_toArray, List.append_toArray, List.nil_append, List.cons_append]
  gi_wp2_with (first | (refine ⟨trivial, ?_⟩; gi_at_call 96; refine (callsIn_wide.2 (C1 _ ?_)).mono ?_; (case refine_1 => exact (Below.refl _ w).alloc (Nat.le_refl _) _); rintro e w1 ⟨rfl, hb1⟩) | (refine ⟨trivial, ?_⟩; gi_at_call 97; refine (curve_lines.calls _ _ _ _).mono ?_; rintro e w2 ⟨rfl, rfl⟩))
  have hB1 : Below w.heap.size w w1 := ((Below.refl _ w).alloc (Nat.le_refl _) _).trans (hb1.mono (by simp))
  have bR : Boxed w1 w.heap.size 26 (.int .i64 0) := (hb1.block w.heap.size (by simp)).trans (Boxed.new w 26 (.int .i64 0))
  have hsz : w.heap.size < w1.heap.size := bR.lt
  have bN := Boxed.new w1 47 (.slice (some ad) l0.length c0)
  have hB0 : Below w.heap.size w (w1.alloc (.cells #[.slice (some ad) l0.length c0] 47)) := hB1.alloc hB1.size _
  have bR2 := bR.alloc (.cells #[.slice (some ad) l0.length c0] 47)
  obtain ⟨W0, hW0⟩ : ∃ W0, w1.alloc (.cells #[.slice (some ad) l0.length c0] 47) = W0 := ⟨_, rfl⟩
  have hsz0 : W0.heap.size = w1.heap.size + 1 := by rw [← hW0]; simp
  rw [hW0] at bN hB0 bR2 ⊢
  clear hW0 hb1 hB1 C1
  refine wpIn_rangeFunc_ownH rfl (by omega) (gf := 114) (lb := #[.pointer (some ⟨w1.heap.size, 0, none⟩)]) rfl trivial (enters_of Tryz.func114 (by kernel_rfl) rfl)
    (curve_lines.stops w1.heap.size c0 ad l0 (by omega) w W0 hr0 hB0 hblk bN.cell (by omega)) belowK_t (belowK_b (by omega)) (Below.refl _ _) (fun _ => rfl)
    (fun pre W => (pre.all okLine = true ∧ Boxed W w.heap.size 26 (.int .i64 0)) ∧ (Below w.heap.size w W ∧ W0.heap.size ≤ W.heap.size))
    (fun c pre W => (c = .ret ∧ pre.all okLine = false ∧ Boxed W w.heap.size 26 (.int .i64 10)) ∧ Below w.heap.size w W)
    (OwnFrom.and (Own.from (fun s A B row hs hg hr => ⟨hs.1, heap_kept hs.2 rfl hg hr⟩) _) (OwnFrom.and (ownFrom_below (Nat.le_refl _) (by omega)) (fun s A B row hs hg hr => Nat.le_trans hs hg.size)))
    (fun c => OwnFrom.and (Own.from (fun s A B row hs hg hr => ⟨hs.1, hs.2.1, heap_kept hs.2.2 rfl hg hr⟩) _) (ownFrom_below (Nat.le_refl _) (by omega)))
    ⟨⟨rfl, bR2⟩, hB0, Nat.le_refl _⟩
    (fun x a' W => ∃ Bx, W0.heap.size ≤ Bx ∧ W.heap[Bx]? = some (.cells #[.int .i64 x.1.f0, .int .i64 x.1.f1, .int .i64 x.2.f0, .int .i64 x.2.f1] 145 (0, 0)) ∧ a' = { tmps := #[.slice (some ad) l0.length c0, undef, .pointer (some ⟨w.heap.size, 0, none⟩), .pointer (some ⟨Bx, 0, none⟩), .slice (some ad) l0.length c0, .int .i64 l0.length, .bool false, .bool false, .slice (some ad) l0.length c0, .int .i64 l0.length, .bool false, .bool false, .bool false, .slice (some ad) l0.length c0, .bool true, .bool false, .bool false, .slice (some ad) l0.length c0, .func (.func 114) #[] #[.pointer (some ⟨w1.heap.size, 0, none⟩)], .agg #[.int .i64 x.1.f0, .int .i64 x.1.f1, .int .i64 x.2.f0, .int .i64 x.2.f1], undef, undef, undef, undef, undef, undef, undef, undef, undef, undef, undef, undef, undef, undef, undef, undef], defers := [] })
    (fun x a' _ X Y row hs hg hr => by obtain ⟨Bx, h1, h2, h3⟩ := hs; exact ⟨Bx, h1, heap_kept h2 rfl hg (fun r e => (hr r e).2), h3⟩)
    ?assign ?body ?done ?stop
  case assign =>
    rintro l pre x W K ⟨⟨hp1, bR1⟩, hB1, hszW⟩ hK
    dsimp only [lineV]
    gi_wp2
    exact hK _ _ ((KeepsOthers.alloc _ _).from _) ((Below.refl _ W).alloc hszW _) ⟨⟨hp1, bR1.alloc _⟩, hB1.alloc hB1.size _, Nat.le_trans hszW (by simp)⟩ ⟨W.heap.size, hszW, World.alloc_heap_new W _, rfl⟩
  case body =>
    rintro l pre x a' W hl ⟨r, hr⟩ ⟨⟨hp1, bR1⟩, hB1, hszW⟩ ⟨Bx, hBx, bX, rfl⟩ hlt
    have c0_ := (blk_cell bX 0).trans rfl
    have c1_ := (blk_cell bX 1).trans rfl
    have c2_ := (blk_cell bX 2).trans rfl
    have c3_ := (blk_cell bX 3).trans rfl
    have cR := bR1.cell
    have fR := bR1.frozen
    cases ha : decide (x.2.f0 ≤ x.1.f0) with
    | true =>
      gi_wp2
      exact ⟨(KeepsOthers.setCell _ _ _).from _, ⟨rfl, by simp only [List.all_append, hp1, List.all_cons, okLine, List.all_nil, Bool.true_and, Bool.and_true]; rw [decide_eq_false (by have := of_decide_eq_true ha; omega)]; rfl, bR1.set _⟩, hB1.setCell (p := ⟨w.heap.size, 0, none⟩) (Nat.le_refl _) _⟩
    | false =>
      cases hb : decide (x.2.f1 ≤ x.1.f1) with
      | true =>
        gi_wp2
        exact ⟨(KeepsOthers.setCell _ _ _).from _, ⟨rfl, by simp only [List.all_append, hp1, List.all_cons, okLine, List.all_nil, Bool.true_and, Bool.and_true]; rw [decide_eq_false (show ¬ x.1.f1 < x.2.f1 by have := of_decide_eq_true hb; omega), Bool.and_false], bR1.set _⟩, hB1.setCell (p := ⟨w.heap.size, 0, none⟩) (Nat.le_refl _) _⟩
      | false =>
        gi_wp2
        exact ⟨KeepsFrom.refl _ _, Below.refl _ _, ⟨by simp only [List.all_append, hp1, List.all_cons, okLine, List.all_nil, Bool.true_and, Bool.and_true]; rw [decide_eq_true (show x.1.f1 < x.2.f1 by have := of_decide_eq_false hb; omega), decide_eq_true (show x.1.f0 < x.2.f0 by have := of_decide_eq_false ha; omega)]; rfl, bR1⟩, hB1, hszW⟩
  case done =>
    rintro D ys W hD rfl ⟨⟨hp1, bR1⟩, hB1, hszW⟩ hK
    have cR := bR1.cell
    have fR := bR1.frozen
    obtain rfl := H0 hp1
    gi_wp2
    have hK' := (KeepsOthers.setCell W ⟨w.heap.size, 0, none⟩ (.int .i64 0)).same D _ hK rfl
    refine ⟨by simp, .inl ⟨_, _, rfl, run_takeDeferred hK', ?_⟩⟩
    have hc5 := cell_kept (World.cell?_setCell_same' W ⟨w.heap.size, 0, none⟩ (.int .i64 0) (by rw [cR]; rfl)) (grownBy_putObj' _ D (.deferred none)) (fun r e => by cases e; exact ⟨_, hK', rfl⟩)
    refine ⟨.int .i64 0, ?_, rfl, (hB1.setCell (p := ⟨w.heap.size, 0, none⟩) (Nat.le_refl _) _).trans (belowK_b (w := w) (Nat.le_refl _) _ D _ _ (by omega) hK' rfl rfl)⟩
    simp [results, Tryz.f82, go_sem, hc5]
  case stop =>
    rintro D c pre W hD ⟨k, hk, rfl⟩ ⟨⟨rfl, hp1, bR1⟩, hB1⟩ hK
    obtain rfl := H10 (upto_all_false hk hp1)
    have cR := bR1.cell
    gi_wp2
    refine ⟨by simp, .inl ⟨_, _, rfl, run_takeDeferred hK, ?_⟩⟩
    have hc5 := cell_kept cR (grownBy_putObj' _ D (.deferred none)) (fun r e => by cases e; exact ⟨_, hK, rfl⟩)
    refine ⟨.int .i64 10, ?_, rfl, hB1.trans (belowK_b (w := w) (Nat.le_refl _) W D _ _ (by omega) hK rfl rfl)⟩
    simp [results, Tryz.f82, go_sem, hc5]
def curve_Check.f (l0 : List S60) : Option Int := some (checkC l0)
set_option maxHeartbeats 1600000 in
set_option maxRecDepth 100000 in
theorem curve_Check.calls (A0 : Option Addr) (c0 : Nat) (l0 : List S60) (r : Int) (w : World) (hr0 : Kd.C k60 w A0 l0.length l0) (hc0 : l0.length ≤ c0) (h : curve_Check.f l0 = some r) :
    Calls Tryz.prog 82 #[.slice A0 l0.length c0] w fun e w' => e = .returned (.int .i64 r) ∧ Below w.heap.size w w' := by
  obtain rfl : checkC l0 = r := Option.some.inj h
  clear h
  unfold checkC
  by_cases h2 : l0.length < 2
  · rw [if_pos (.inl h2)]
    have hd1 : decide ((l0.length : Int) < 2) = true := decide_eq_true (by omega)
    have hd3 : decide (l0.length < 2) = true := decide_eq_true (by omega)
    rw [← callsIn_wide (n := 9)]
    refine callsIn_of_wp Tryz.func82 rfl trivial ?_ rfl
    simp only [Tryz.ntmps82, List.size_toArray, List.length_cons, List.length_nil, Nat.reduceAdd, Nat.reduceSub, Array.replicate_succ, Array.replicate_zero, List.push_toArray, List.append_toArray, List.nil_append, List.cons_append]
    gi_wp2
    refine ⟨trivial, ?_⟩
    gi_wp2
    refine bodyPost_ret (v := .int .i64 10) ?_ rfl ?_
    · simp [results, Tryz.f82, go_sem]
    · exact ⟨rfl, (Below.refl _ w).alloc (Nat.le_refl _) _⟩
  · by_cases h64 : 64 < l0.length
    · rw [if_pos (.inr (.inl h64))]
      have hd1 : decide ((l0.length : Int) < 2) = false := decide_eq_false (by omega)
      have hd2 : decide ((64 : Int) < (l0.length : Int)) = true := decide_eq_true (by omega)
      have hd3 : decide (l0.length < 2) = false := decide_eq_false (by omega)
      have hd4 : decide (64 < l0.length) = true := decide_eq_true (by omega)
      rw [← callsIn_wide (n := 9)]
      refine callsIn_of_wp Tryz.func82 rfl trivial ?_ rfl
      simp only [Tryz.ntmps82, List.size_toArray, List.length_cons, List.length_nil, Nat.reduceAdd, Nat.reduceSub, Array.replicate_succ, Array.replicate_zero, List.push_toArray, List.append_toArray, List.nil_append, List.cons_append]
      gi_wp2
      refine ⟨trivial, ?_⟩
      gi_wp2
      refine bodyPost_ret (v := .int .i64 10) ?_ rfl ?_
      · simp [results, Tryz.f82, go_sem]
      · exact ⟨rfl, (Below.refl _ w).alloc (Nat.le_refl _) _⟩
    · cases hp : l0.all ptB with
      | true =>
        rw [if_neg (by simp; omega)]
        exact curve_Check.run A0 c0 l0 w hr0 (by omega) (by omega) hp
      | false =>
        rw [if_pos (.inr (.inr rfl))]
        have C1 : ∀ W, Below w.heap.size w W → Calls Tryz.prog 96 #[.slice A0 l0.length c0] W fun e w' => e = .returned (.bool false) ∧ Below W.heap.size W w' := fun W hW => by
          have := curve_right.calls A0 c0 l0 W (Kd.C_below hr0 hW) (by omega); rwa [hp] at this
        have hd1 : decide ((l0.length : Int) < 2) = false := decide_eq_false (by omega)
        have hd2 : decide ((64 : Int) < (l0.length : Int)) = false := decide_eq_false (by omega)
        have hd3 : decide (l0.length < 2) = false := decide_eq_false (by omega)
        have hd4 : decide (64 < l0.length) = false := decide_eq_false (by omega)
        rw [← callsIn_wide (n := 9)]
        refine callsIn_of_wp Tryz.func82 rfl trivial ?_ rfl
        simp only [Tryz.ntmps82, List.size_toArray, List.length_cons, List.length_nil, Nat.reduceAdd, Nat.reduceSub, Array.replicate_succ, Array.replicate_zero, List.push_toArray, List.append_toArray, List.nil_append, List.cons_append]
        gi_wp2_with (first | (refine ⟨trivial, ?_⟩; gi_at_call 96; refine (callsIn_wide.2 (C1 _ ?_)).mono ?_; (case refine_1 => exact (Below.refl _ w).alloc (Nat.le_refl _) _); rintro e w1 ⟨rfl, hb1⟩; have bR : Boxed w1 w.heap.size 26 (.int .i64 0) := (hb1.block w.heap.size (by simp)).trans (Boxed.new w 26 (.int .i64 0)); have hB1 : Below w.heap.size w w1 := ((Below.refl _ w).alloc (Nat.le_refl _) _).trans (hb1.mono (by simp)); have cR := bR.cell; have fR := bR.frozen))
        refine bodyPost_ret (v := .int .i64 10) ?_ rfl ?_
        · have := (bR.set (.int .i64 10)).cell
          simp [results, Tryz.f82, go_sem, this]
        · exact ⟨rfl, hB1.setCell (p := ⟨w.heap.size, 0, none⟩) (Nat.le_refl _) _⟩
end Go.Proofs.YtlhfclpbodfmcaaGreatDoor.Pr
