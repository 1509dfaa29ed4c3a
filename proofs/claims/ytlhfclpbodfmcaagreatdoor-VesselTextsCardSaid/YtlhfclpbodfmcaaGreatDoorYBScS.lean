/- A part of the proof: ScS. -/
import Derived.Test.YtlhfclpbodfmcaaGreatDoorYBSc
import Derived.Test.YtlhfclpbodfmcaaGreatDoorYBKq
namespace Go.Proofs.YtlhfclpbodfmcaaGreatDoor.Pr
open Go.RowKit Go.Proofs.YtlhfclpbodfmcaaGreatDoorW.PrintWords Go.Proofs.YtlhfclpbodfmcaaGreatDoorW.PrintLast Go.Proofs.YtlhfclpbodfmcaaGreatDoorW.PrintMore
set_option linter.unusedVariables false
/-- A row of whole numbers of the call's own. -/
abbrev Ro (w W : World) (E : Nat) (r : Value) (xs : List Int) : Prop := (Kd.int .i64).R E W w.heap.size (fun k => w.heap.size ≤ k) r xs
theorem litRow {W : World} {g E : Nat} {y : Int} (h : W.heap[g]? = some (.cells #[.int .i64 y] E (0, 0))) : ReadsRow (fun (x : Int) (cs : List Value) => cs = [.int .i64 x]) 1 W (some ⟨g, 0, none⟩) 1 [y] := by
  refine ⟨rfl, by omega, fun _ => ⟨⟨g, 0, none⟩, rfl, fun j p hj => ?_⟩⟩
  rcases j with _ | j
  · simp at hj
    subst hj
    refine ⟨[.int .i64 y], rfl, rfl, fun i u hu => ?_⟩
    rcases i with _ | i
    · simp at hu
      subst hu
      simpa [add_plain] using (blk_cell h 0)
    · simp at hu
  · simp at hj
theorem app_step {P : Program} {ops : Array Oper} {o : Oper} {a : Act} {Q : Exit → Act → World → Prop} {Kc : Act → World → Prop} {w W : World} (hw : Region.wanted o (yielded ops a.tmps) = true) (s x : Operand) (t e : TypeId)
    (ho : o.op = .call { callee := .builtin .append, args := #[s, x], argTypes := #[t, t] }) (ht : P.underlying t = some (.slice e)) (hi : (P.info? e).map (fun i => (i.zero, i.size, i.bytes)) = some (some (.int .i64 0), 1, 8))
    (v : Value) (xs : List Int) (y : Int) (ga : Nat) (hs : a.eval s = v) (hx : a.eval x = .slice (some ⟨ga, 0, none⟩) 1 1) (HO : Ro w W e v xs) (HL : W.heap[ga]? = some (.cells #[.int .i64 y] e (0, 0))) (HB : Below w.heap.size w W) (hl : xs.length ≤ 1000)
    (h : ∀ v1 w1, Ro w w1 e v1 (xs ++ [y]) → Below w.heap.size w w1 → W.grownBy w1 v.ownBlock → (v1.ownBlock = v.ownBlock ∨ ∃ b, v1.ownBlock = some b ∧ W.heap.size ≤ b) → Kc (a.put o.dst v1) w1) :
    if Region.wanted o (yielded ops a.tmps) = true then Oper.wp P o a W Kc Q else Kc (a.put o.dst undef) W := by
  refine Kd.R_append_rows_step (Kd.int .i64) (w0 := w) w.heap.size hw s x t e (.int .i64 0) 8 ho ht hi (by rfl) (by decide) (by decide) v xs [y] (some ⟨ga, 0, none⟩) 1 1 (fun k => w.heap.size ≤ k) (fun _ => False) hs hx HO (litRow HL) (fun x cs h => h) (fun k hk => hk.elim) (fun k hk => Nat.le_trans HB.size hk) HB HB.size (by omega) h
theorem app_list {P : Program} {ops : Array Oper} {o : Oper} {rest : List Oper} {a : Act} {Q : Exit → Act → World → Prop} {w W : World} (hgd : o.guard = none) (s x : Operand) (t e : TypeId)
    (ho : o.op = .call { callee := .builtin .append, args := #[s, x], argTypes := #[t, t] }) (ht : P.underlying t = some (.slice e)) (hi : (P.info? e).map (fun i => (i.zero, i.size, i.bytes)) = some (some (.int .i64 0), 1, 8))
    (v : Value) (xs : List Int) (y : Int) (ga : Nat) (hs : a.eval s = v) (hx : a.eval x = .slice (some ⟨ga, 0, none⟩) 1 1) (HO : Ro w W e v xs) (HL : W.heap[ga]? = some (.cells #[.int .i64 y] e (0, 0))) (HB : Below w.heap.size w W) (hl : xs.length ≤ 1000)
    (h : ∀ v1 w1, Ro w w1 e v1 (xs ++ [y]) → Below w.heap.size w w1 → W.grownBy w1 v.ownBlock → (v1.ownBlock = v.ownBlock ∨ ∃ b, v1.ownBlock = some b ∧ W.heap.size ≤ b) → wpList P ops Q rest (a.put o.dst v1) w1) :
    wpList P ops Q (o :: rest) a W := by
  refine Kd.R_append_rows (Kd.int .i64) (w0 := w) w.heap.size hgd s x t e (.int .i64 0) 8 ho ht hi (by rfl) (by decide) (by decide) v xs [y] (some ⟨ga, 0, none⟩) 1 1 (fun k => w.heap.size ≤ k) (fun _ => False) hs hx HO (litRow HL) (fun x cs h => h) (fun k hk => hk.elim) (fun k hk => Nat.le_trans HB.size hk) HB HB.size (by omega) h
/-- The struct at gs holds v1, v2; the rows r1, r2 stand, apart from each other. -/
structure Rg (w W : World) (T E gs : Nat) (v1 v2 r1 r2 : Value) (xs ys : List Int) : Prop where
  hb : Below w.heap.size w W
  ge : w.heap.size ≤ gs
  hs : W.heap[gs]? = some (.cells #[v1, v2] T (0, 0))
  o1 : Ro w W E r1 xs
  o2 : Ro w W E r2 ys
  ap : ∀ k, r1.ownBlock = some k → r2.ownBlock ≠ some k
/-- A literal of one number. -/
structure Li (W : World) (E g : Nat) (y : Int) (r1 r2 : Value) : Prop where
  hl : W.heap[g]? = some (.cells #[.int .i64 y] E (0, 0))
  n1 : r1.ownBlock ≠ some g
  n2 : r2.ownBlock ≠ some g
section
variable {w W W1 : World} {T E gs g : Nat} {v1 v2 r1 r2 u : Value} {xs ys : List Int} {y : Int}
theorem Rg.below (h : Rg w W T E gs v1 v2 r1 r2 xs ys) (hb : Below W.heap.size W W1) : Rg w W1 T E gs v1 v2 r1 r2 xs ys :=
  ⟨below_step h.hb hb, h.ge, blk_below h.hs hb, Kd.R_below h.o1 hb, Kd.R_below h.o2 hb, h.ap⟩
theorem Rg.drew (h : Rg w W T E gs v1 v2 r1 r2 xs ys) : Rg w W.drew T E gs v1 v2 r1 r2 xs ys :=
  ⟨below_drew1 h.hb, h.ge, blk_drew h.hs, Kd.R_drew h.o1, Kd.R_drew h.o2, h.ap⟩
theorem Rg.cell0 (h : Rg w W T E gs v1 v2 r1 r2 xs ys) : W.cell? ⟨gs, 0, none⟩ = some v1 := (blk_cell h.hs 0).trans rfl
theorem Rg.cell1 (h : Rg w W T E gs v1 v2 r1 r2 xs ys) : W.cell? ⟨gs, 1, none⟩ = some v2 := (blk_cell h.hs 1).trans rfl
theorem Li.below (h : Li W E g y r1 r2) (hb : Below W.heap.size W W1) : Li W1 E g y r1 r2 := ⟨blk_below h.hl hb, h.n1, h.n2⟩
/-- A literal that has just been made. -/
theorem Rg.lit (h : Rg w W T E gs v1 v2 r1 r2 xs ys) (hg : g = W.heap.size) (hl : W1.heap[g]? = some (.cells #[.int .i64 y] E (0, 0))) : Li W1 E g y r1 r2 :=
  ⟨hl, fun e => by have := Kd.R_lt h.o1 _ e; omega, fun e => by have := Kd.R_lt h.o2 _ e; omega⟩
/-- The first row has been appended to. -/
theorem Rg.app1 (hT : E ≠ T) (h : Rg w W T E gs v1 v2 r1 r2 xs ys) (ho : Ro w W1 E u (xs ++ [y])) (hb : Below w.heap.size w W1) (hg : W.grownBy W1 r1.ownBlock) (hat : u.ownBlock = r1.ownBlock ∨ ∃ b, u.ownBlock = some b ∧ W.heap.size ≤ b) : Rg w W1 T E gs v1 v2 u r2 (xs ++ [y]) ys :=
  ⟨hb, h.ge, blk_grown h.hs hg (Kd.R_ne h.o1 h.hs hT), ho, Kd.R_grown2 h.o2 rfl hg (fun k hk e => h.ap k hk e.symm), fun k hk e => by
    rcases hat with hat | ⟨b, hb1, hb2⟩
    · exact h.ap k (hat ▸ hk) e
    · rw [hb1] at hk
      have h1 := Option.some.inj hk
      have := Kd.R_lt h.o2 _ e
      omega⟩
theorem Rg.app2 (hT : E ≠ T) (h : Rg w W T E gs v1 v2 r1 r2 xs ys) (ho : Ro w W1 E u (ys ++ [y])) (hb : Below w.heap.size w W1) (hg : W.grownBy W1 r2.ownBlock) (hat : u.ownBlock = r2.ownBlock ∨ ∃ b, u.ownBlock = some b ∧ W.heap.size ≤ b) : Rg w W1 T E gs v1 v2 r1 u xs (ys ++ [y]) :=
  ⟨hb, h.ge, blk_grown h.hs hg (Kd.R_ne h.o2 h.hs hT), Kd.R_grown2 h.o1 rfl hg (fun k hk e => h.ap k e.symm hk), ho, fun k hk e => by
    rcases hat with hat | ⟨b, hb1, hb2⟩
    · exact h.ap k hk (hat ▸ e)
    · rw [hb1] at e
      have h1 := Option.some.inj e
      have := Kd.R_lt h.o1 _ hk
      omega⟩
/-- A literal beside a row that has been appended to. -/
theorem Li.app1 (hl : Li W E g y r1 r2) (hg : W.grownBy W1 r1.ownBlock) (hat : u.ownBlock = r1.ownBlock ∨ ∃ b, u.ownBlock = some b ∧ W.heap.size ≤ b) : Li W1 E g y u r2 :=
  ⟨blk_grown hl.hl hg (fun e => hl.n1 e.symm), fun e => by
    rcases hat with hat | ⟨b, hb1, hb2⟩
    · exact hl.n1 (hat ▸ e)
    · rw [hb1] at e
      have h1 := Option.some.inj e
      have := blk_lt hl.hl
      omega, hl.n2⟩
/-- A block of another type beside a row that has been appended to. -/
theorem Rg.other1 {c : Nat} {cs : Array Value} {t : Nat} (ht : E ≠ t) (h : Rg w W T E gs v1 v2 r1 r2 xs ys) (hk : W.heap[c]? = some (.cells cs t (0, 0))) (hg : W.grownBy W1 r1.ownBlock) : W1.heap[c]? = some (.cells cs t (0, 0)) :=
  blk_grown hk hg (Kd.R_ne h.o1 hk ht)
theorem Rg.other2 {c : Nat} {cs : Array Value} {t : Nat} (ht : E ≠ t) (h : Rg w W T E gs v1 v2 r1 r2 xs ys) (hk : W.heap[c]? = some (.cells cs t (0, 0))) (hg : W.grownBy W1 r2.ownBlock) : W1.heap[c]? = some (.cells cs t (0, 0)) :=
  blk_grown hk hg (Kd.R_ne h.o2 hk ht)
/-- A field is stored. -/
theorem Rg.set0 (hT : ∀ q, q ∈ E :: (Kd.int .i64).E → q ≠ T) (h : Rg w W T E gs v1 v2 r1 r2 xs ys) : Rg w (W.setCell ⟨gs, 0, none⟩ u) T E gs u v2 r1 r2 xs ys :=
  ⟨below_set h.hb h.ge, h.ge, blk_put h.hs 0 u rfl, Kd.R_set h.o1 h.hs hT 0 u, Kd.R_set h.o2 h.hs hT 0 u, h.ap⟩
theorem Rg.set1 (hT : ∀ q, q ∈ E :: (Kd.int .i64).E → q ≠ T) (h : Rg w W T E gs v1 v2 r1 r2 xs ys) : Rg w (W.setCell ⟨gs, 1, none⟩ u) T E gs v1 u r1 r2 xs ys :=
  ⟨below_set h.hb h.ge, h.ge, blk_put h.hs 1 u rfl, Kd.R_set h.o1 h.hs hT 1 u, Kd.R_set h.o2 h.hs hT 1 u, h.ap⟩
theorem Rg.other_set {c j t : Nat} {cs : Array Value} (ht : t ≠ T) (h : Rg w W T E gs v1 v2 r1 r2 xs ys) (hk : W.heap[c]? = some (.cells cs t (0, 0))) : (W.setCell ⟨gs, j, none⟩ u).heap[c]? = some (.cells cs t (0, 0)) :=
  blk_far hk (blk_ne hk h.hs ht) u
end
theorem rd_sums : ∀ (l : List Int) (s : Int) (i : Nat), i < l.length → rd (sums s l) ((i : Int) + 1) = wrap64 (rd (sums s l) (i : Int) + rd l (i : Int))
  | a :: l, s, 0, _ => by cases l <;> simp [rd, sums]
  | a :: l, s, i + 1, h => by
    have ih := rd_sums l (wrap64 (s + a)) i (by simpa using h)
    have e1 : (((i + 1 : Nat) : Int) + 1).toNat = i + 2 := by omega
    have e2 : ((i : Int) + 1).toNat = i + 1 := by omega
    simp only [rd, sums, e1, e2, Int.toNat_natCast, List.getD_cons_succ] at ih ⊢
    exact ih
theorem take_rd (l : List Int) (i : Nat) (h : i < l.length) : l.take i ++ [rd l (i : Int)] = l.take (i + 1) := by
  rw [List.take_succ_eq_append_getElem h]
  simp [rd, List.getD_eq_getElem?_getD, List.getElem?_eq_getElem h]
/-- Three cells of another block are set. -/
theorem Rg.set3 {w W : World} {T E gs c t : Nat} {v1 v2 r1 r2 a b d x y z : Value} {xs ys : List Int} (hE : ∀ q, q ∈ E :: (Kd.int .i64).E → q ≠ t) (hT : T ≠ t) (hc : w.heap.size ≤ c) (h : Rg w W T E gs v1 v2 r1 r2 xs ys) (hk : W.heap[c]? = some (.cells #[a, b, d] t (0, 0))) :
    Rg w (((W.setCell ⟨c, 0, none⟩ x).setCell ⟨c, 1, none⟩ y).setCell ⟨c, 2, none⟩ z) T E gs v1 v2 r1 r2 xs ys := by
  have k1 : (W.setCell ⟨c, 0, none⟩ x).heap[c]? = some (.cells #[x, b, d] t (0, 0)) := blk_put hk 0 x rfl
  have k2 : ((W.setCell ⟨c, 0, none⟩ x).setCell ⟨c, 1, none⟩ y).heap[c]? = some (.cells #[x, y, d] t (0, 0)) := blk_put k1 1 y rfl
  have n0 : gs ≠ c := blk_ne h.hs hk hT
  exact ⟨below_set (below_set (below_set h.hb hc) hc) hc, h.ge, blk_far (p := ⟨c, 2, none⟩) (blk_far (p := ⟨c, 1, none⟩) (blk_far (p := ⟨c, 0, none⟩) h.hs n0 x) n0 y) n0 z,
    Kd.R_set (Kd.R_set (Kd.R_set h.o1 hk hE 0 x) k1 hE 1 y) k2 hE 2 z, Kd.R_set (Kd.R_set (Kd.R_set h.o2 hk hE 0 x) k1 hE 1 y) k2 hE 2 z, h.ap⟩
section
variable {P : Program} {ops : Array Oper} {o : Oper} {a : Act} {Q : Exit → Act → World → Prop} {Kc : Act → World → Prop}
theorem lit_step {W : World} (hw : Region.wanted o (yielded ops a.tmps) = true) {N : Tmp} (_hd : o.dst = some N) {y : Int} {E : TypeId}
    (hrun : (execOp a.eval o).run P W = .ok (.value (.slice (some ⟨W.heap.size, 0, none⟩) 1 1)) (W.alloc (.cells #[.int .i64 y] E (0, 0))))
    (h : ∀ g, g = W.heap.size → ∀ w1, w1.heap[g]? = some (.cells #[.int .i64 y] E (0, 0)) → Below W.heap.size W w1 → Kc (a.put o.dst (.slice (some ⟨g, 0, none⟩) 1 1)) w1) : if Region.wanted o (yielded ops a.tmps) = true then Oper.wp P o a W Kc Q else Kc (a.put o.dst undef) W :=
  event_step hw hrun (h _ rfl _ (blk_new W _) (below_alloc (Below.refl _ _) _))
theorem lit_list {rest : List Oper} {W : World} (hgd : o.guard = none) {N : Tmp} (_hd : o.dst = some N) {y : Int} {E : TypeId}
    (hrun : (execOp a.eval o).run P W = .ok (.value (.slice (some ⟨W.heap.size, 0, none⟩) 1 1)) (W.alloc (.cells #[.int .i64 y] E (0, 0))))
    (h : ∀ g, g = W.heap.size → ∀ w1, w1.heap[g]? = some (.cells #[.int .i64 y] E (0, 0)) → Below W.heap.size W w1 → wpList P ops Q rest (a.put o.dst (.slice (some ⟨g, 0, none⟩) 1 1)) w1) : wpList P ops Q (o :: rest) a W :=
  Kd.event_run hgd hrun (h _ rfl _ (blk_new W _) (below_alloc (Below.refl _ _) _))
end
/-- A scale that stands whatever becomes of the blocks P. -/
def ScX (W : World) (P : Nat → Prop) (g : Nat) (xs bs : List Int) : Prop := ∀ W' : World, (∀ a v, ¬ P a.block → W.cell? a = some v → (∀ p, v ≠ .pointer p) → W'.cell? a = some v) → Sc W' g xs bs
theorem ScX.sc {W : World} {P : Nat → Prop} {g : Nat} {xs bs : List Int} (h : ScX W P g xs bs) : Sc W g xs bs := h W (fun _ _ _ hc _ => hc)
theorem ScX.below {W W1 : World} {P : Nat → Prop} {g : Nat} {xs bs : List Int} (h : ScX W P g xs bs) (hb : Below W.heap.size W W1) : ScX W1 P g xs bs :=
  fun W' hW => h W' (fun a v hP hc hp => hW a v hP (pw_cell_below hb hc) hp)
theorem ScX.mono {W : World} {P P' : Nat → Prop} {g : Nat} {xs bs : List Int} (h : ScX W P g xs bs) (hp : ∀ k, P' k → P k) : ScX W P' g xs bs :=
  fun W' hW => h W' (fun a v hP hc hq => hW a v (fun hk => hP (hp _ hk)) hc hq)
/-- A row of the call's own stands by its own block. -/
theorem row_stands {w W W' : World} {E : Nat} {A : Option Addr} {c : Nat} {xs : List Int} (h : Ro w W E (.slice A xs.length c) xs) (hW : ∀ a v, ¬ (a.block < w.heap.size) → W.cell? a = some v → (∀ p, v ≠ .pointer p) → W'.cell? a = some v) : Kd.C (Kd.int .i64) W' A xs.length xs := by
  have hr := (Kd.R_reads' h).2.2
  have r := Kd.reads_of_C (enc := Value.int .i64) (d := (0 : Int)) (h1 := fun _ => rfl) hr
  refine Kd.C_of_reads (enc := Value.int .i64) (d := (0 : Int)) (h1 := fun _ => rfl) ⟨r.1, r.2.1, fun hn => ?_⟩
  obtain ⟨ad, e, hcell⟩ := r.2.2 hn
  obtain ⟨g, cap, e2, hg, _, _⟩ := Kd.R_form h hn
  have e3 : ad = ⟨g, 0, none⟩ := by
    rw [e] at e2
    simp at e2
    exact e2.1
  refine ⟨ad, e, fun j hj => hW _ _ ?_ (hcell j hj) (fun p => by simp)⟩
  rw [e3, add_plain]
  simp only
  omega
theorem Rg.scx {w W : World} {T E gs : Nat} {r1 r2 : Value} {xs ys : List Int} (h : Rg w W T E gs r1 r2 r1 r2 xs ys) : ScX W (fun k => k < w.heap.size) gs xs ys := by
  intro W' hW
  obtain ⟨A1, c1, rfl, l1, _⟩ := Kd.R_reads h.o1
  obtain ⟨A2, c2, rfl, l2, _⟩ := Kd.R_reads h.o2
  have hge := h.ge
  exact ⟨A1, A2, c1, c2, hW _ _ (by simp only; omega) h.cell0 (fun p => by simp), hW _ _ (by simp only; omega) h.cell1 (fun p => by simp), row_stands h.o1 hW, row_stands h.o2 hW, l1, l2⟩
/-- What a call that makes a scale comes to. -/
def ScRet (w : World) (xs bs : List Int) (e : Ending) (w' : World) : Prop := ∃ g, e = .returned (.pointer (some ⟨g, 0, none⟩)) ∧ ScX w' (fun k => k < w.heap.size) g xs bs ∧ Below w.heap.size w w'
end Go.Proofs.YtlhfclpbodfmcaaGreatDoor.Pr
namespace Go.Proofs.YtlhfclpbodfmcaaGreatDoor.Pr
open Go.RowKit Go.Proofs.YtlhfclpbodfmcaaGreatDoorW.PrintWords Go.Proofs.YtlhfclpbodfmcaaGreatDoorW.PrintLast Go.Proofs.YtlhfclpbodfmcaaGreatDoorW.PrintMore
set_option linter.unusedVariables false
structure SetJ (W W' : World) (g j : Nat) (u : Value) : Prop where
  e : W.setCell ⟨g, j, none⟩ u = W'
section
variable {P : Program} {ops : Array Oper} {Q : Exit → Act → World → Prop}
theorem lS_ {o : Oper} {a : Act} {W : World} {Kc : Act → World → Prop} (N : Tmp) (y : Int) (E : TypeId)
    (h : ∀ g, g = W.heap.size → ∀ w1, w1.heap[g]? = some (.cells #[.int .i64 y] E (0, 0)) → Below W.heap.size W w1 → Kc (a.put o.dst (.slice (some ⟨g, 0, none⟩) 1 1)) w1)
    (hw : Region.wanted o (yielded ops a.tmps) = true := by rfl) (hd : o.dst = some N := by rfl) (hrun : (execOp a.eval o).run P W = .ok (.value (.slice (some ⟨W.heap.size, 0, none⟩) 1 1)) (W.alloc (.cells #[.int .i64 y] E (0, 0))) := by first | (go_simp; done) | (go_simp; rfl)) : if Region.wanted o (yielded ops a.tmps) = true then Oper.wp P o a W Kc Q else Kc (a.put o.dst undef) W := lit_step hw hd hrun h
theorem sk1_0_ {oi : Oper} {a : Act} {K : Act → World → Prop} {W : World} {g : Nat} {u : Value} (h : ∀ W', SetJ W W' g 0 u → K a W') (hw : Region.wanted oi (yielded ops a.tmps) = true := by rfl) (hN : oi.dst = none := by rfl) (hrun : (execOp a.eval oi).run P W = .ok .skip (W.setCell ⟨g, 0, none⟩ u) := by first | (go_simp; done) | (go_simp; rfl)) : if Region.wanted oi (yielded ops a.tmps) = true then Oper.wp P oi a W K Q else K (a.put none undef) W :=
  skip_ hw hN hrun (h _ ⟨rfl⟩)
theorem rgo0_ {w W W' : World} {T E gs c t : Nat} {cs : Array Value} {v1 v2 r1 r2 u : Value} {xs ys : List Int} (h : Aside0 (Rg w W T E gs v1 v2 r1 r2 xs ys)) (hk : Aside0 (W.heap[c]? = some (.cells cs t (0, 0)))) (p : SetJ W W' gs 0 u) (ht : t ≠ T := by decide) : Aside0 (W'.heap[c]? = some (.cells cs t (0, 0))) := ⟨by rw [← p.e]; exact Rg.other_set (j := 0) ht h.out hk.out⟩
theorem rgs0_ {w W W' : World} {T E gs : Nat} {v1 v2 r1 r2 u : Value} {xs ys : List Int} (h : Aside0 (Rg w W T E gs v1 v2 r1 r2 xs ys)) (p : SetJ W W' gs 0 u) (hT : ∀ q, q ∈ E :: (Kd.int .i64).E → q ≠ T := by decide) : Aside0 (Rg w W' T E gs u v2 r1 r2 xs ys) := ⟨by rw [← p.e]; exact Rg.set0 hT h.out⟩
theorem sk1_1_ {oi : Oper} {a : Act} {K : Act → World → Prop} {W : World} {g : Nat} {u : Value} (h : ∀ W', SetJ W W' g 1 u → K a W') (hw : Region.wanted oi (yielded ops a.tmps) = true := by rfl) (hN : oi.dst = none := by rfl) (hrun : (execOp a.eval oi).run P W = .ok .skip (W.setCell ⟨g, 1, none⟩ u) := by first | (go_simp; done) | (go_simp; rfl)) : if Region.wanted oi (yielded ops a.tmps) = true then Oper.wp P oi a W K Q else K (a.put none undef) W :=
  skip_ hw hN hrun (h _ ⟨rfl⟩)
theorem rgo1_ {w W W' : World} {T E gs c t : Nat} {cs : Array Value} {v1 v2 r1 r2 u : Value} {xs ys : List Int} (h : Aside0 (Rg w W T E gs v1 v2 r1 r2 xs ys)) (hk : Aside0 (W.heap[c]? = some (.cells cs t (0, 0)))) (p : SetJ W W' gs 1 u) (ht : t ≠ T := by decide) : Aside0 (W'.heap[c]? = some (.cells cs t (0, 0))) := ⟨by rw [← p.e]; exact Rg.other_set (j := 1) ht h.out hk.out⟩
theorem rgs1_ {w W W' : World} {T E gs : Nat} {v1 v2 r1 r2 u : Value} {xs ys : List Int} (h : Aside0 (Rg w W T E gs v1 v2 r1 r2 xs ys)) (p : SetJ W W' gs 1 u) (hT : ∀ q, q ∈ E :: (Kd.int .i64).E → q ≠ T := by decide) : Aside0 (Rg w W' T E gs v1 u r1 r2 xs ys) := ⟨by rw [← p.e]; exact Rg.set1 hT h.out⟩
end
end Go.Proofs.YtlhfclpbodfmcaaGreatDoor.Pr
