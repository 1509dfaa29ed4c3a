/- A part of the proof: Tp. -/
import Derived.Test.YtlhfclpbodfmcaaGreatDoorYBScJ
import Derived.Test.YtlhfclpbodfmcaaGreatDoorYBPr1
import Derived.Test.YtlhfclpbodfmcaaGreatDoorYBPr8
import Derived.Test.YtlhfclpbodfmcaaGreatDoorYBPp
namespace Go.Proofs.YtlhfclpbodfmcaaGreatDoor.Pr
open Go.RowKit Go.Proofs.YtlhfclpbodfmcaaGreatDoorW.PrintWords Go.Proofs.YtlhfclpbodfmcaaGreatDoorW.PrintLast Go.Proofs.YtlhfclpbodfmcaaGreatDoorW.PrintMore
open Go.Proofs.YtlhfclpbodfmcaaGreatDoor.Vm
/-- The three numbers of the rings. -/
abbrev hsO (l : List S79) : List Int := l.map (·.f0)
abbrev vsO (l : List S79) : List Int := l.map (·.f1)
abbrev dsO (l : List S79) : List Int := l.map (·.f2)
/-- Levels and numbers that can be asked about. -/
def lvB (l : List S79) (lv : Int) : Bool := decide (0 ≤ lv ∧ lv ≤ sm (hsO l))
def manyB (n : Int) : Bool := decide (0 ≤ n ∧ n ≤ 16777216)
def okS (p : Int × Int) : Int × Int × Int := (p.1, p.2, 0)
def erS (e : Int) : Int × Int × Int := (0, 0, e)
/-- Ahead of a function over one vessel, a level and a number. -/
def asks (l : List S79) (lv n : Int) (r : Int × Int × Int) : Int × Int × Int := if validB l then (if lvB l lv && manyB n then r else erS 1) else erS 20
def AfterF (l : List S79) (lv m : Int) : Int × Int × Int := asks l lv m (okS (spanF (atF (hsO l) (afterF (hsO l) (dsO l) lv m))))
def beforeE (l : List S79) (lv m : Int) : Ex := plusF (timeF (hsO l) (dsO l) lv) m
def BeforeF (l : List S79) (lv m : Int) : Int × Int × Int := asks l lv m (if aboveF (beforeE l lv m) (sm (dsO l)) then erS 4 else okS (spanF (atF (hsO l) (findF (dsO l) (beforeE l lv m)))))
def RunF (l : List S79) (lv m : Int) : Int × Int × Int := asks l lv m (okS (spanF (runF (hsO l) (vsO l) (dsO l) lv m)))
def UntilF (l : List S79) (lv n : Int) : Int × Int × Int := asks l lv n (if (untilR (hsO l) (vsO l) (dsO l) lv (wholeF n)).2 then okS (spanF (untilR (hsO l) (vsO l) (dsO l) lv (wholeF n)).1) else erS 4)
def pouredE (l : List S79) (lv n : Int) : Ex := plusF (timeF (hsO l) (vsO l) lv) n
def PouredF (l : List S79) (lv n : Int) : Int × Int × Int := asks l lv n (if aboveF (pouredE l lv n) (sm (vsO l)) then erS 4 else okS (spanF (atF (hsO l) (findF (vsO l) (pouredE l lv n)))))
def SinkingF (l : List S79) (a b : Int) : Int × Int × Int := if validB l then (if lvB l a && lvB l b then (if b > a then erS 4 else okS (spanF (lessF (timeF (hsO l) (dsO l) a) (timeF (hsO l) (dsO l) b)))) else erS 1) else erS 20
def CascadeF (v u : List S79) (lv m : Int) : Int × Int × Int := if validB v then (if validB u then (if lvB v lv && manyB m then
  (if aboveF (runF (hsO v) (vsO v) (dsO v) lv m) (sm (vsO u)) then erS 4 else okS (spanF (atF (hsO u) (findF (vsO u) (runF (hsO v) (vsO v) (dsO v) lv m))))) else erS 1) else erS 20) else erS 20
def ReceivedF (v u : List S79) (lv x : Int) : Int × Int × Int := if validB v then (if validB u then (if lvB v lv && lvB u x then
  (if (untilR (hsO v) (vsO v) (dsO v) lv (timeF (hsO u) (vsO u) x)).2 then okS (spanF (untilR (hsO v) (vsO v) (dsO v) lv (timeF (hsO u) (vsO u) x)).1) else erS 4) else erS 1) else erS 20) else erS 20
def markF (l : List S79) (parts i : Int) : Ex := atF (hsO l) (findF (dsO l) (ofF 0 (sm (dsO l) * (parts - i)) parts))
theorem lvB_iff {l : List S79} {lv : Int} : lvB l lv = true ↔ 0 ≤ lv ∧ lv ≤ sm (hsO l) := by unfold lvB; exact decide_eq_true_iff
theorem manyB_iff {n : Int} : manyB n = true ↔ 0 ≤ n ∧ n ≤ 16777216 := by unfold manyB; exact decide_eq_true_iff
/-- A number that is not above a whole one. -/
theorem not_above {a : Ex} (ha : a.ok) {n : Int} (h : aboveF a n = false) : a.v ≤ (n : Rat) := by
  unfold aboveF at h
  rw [decide_eq_false_iff_not] at h
  have h1 : a.w ≤ n := by omega
  by_cases h2 : a.w = n
  · have h3 : a.n = 0 := by have := ha.1; omega
    unfold Ex.v
    rw [h2, h3]; grind
  · have h3 := castLe (show a.w + 1 ≤ n by omega)
    rw [Rat.intCast_add] at h3
    have := w_le_v ha
    grind
/-- The minutes until a volume has run out are few. -/
theorem until_w {hs vs ds : List Int} (h : GV hs vs ds) {lv : Int} (h0 : 0 ≤ lv) (h1 : lv ≤ sm hs) {c : Ex} (hc : c.ok) (hd : c.d ≤ 1000) (h2 : 0 ≤ c.w) (h3 : 0 ≤ (restF hs vs lv c).w) : -1000000 ≤ (untilF hs vs ds lv c).w ∧ (untilF hs vs ds lv c).w ≤ 1000000 := by
  obtain ⟨q1, q2, q3, q4, q5, q6, q7, q8⟩ := untilF_spec h h0 h1 hc hd h2 h3
  obtain ⟨_, _, t1, t2, t3, t4, t5⟩ := timeF_spec h.h h.d h.hd h0 h1
  have hS := h.sums
  have hw := w_le_v' t2 t5
  have e : (untilF hs vs ds lv c).v = (timeF hs ds lv).v - (atF ds (findF vs (restF hs vs lv c))).v := (lessF_spec t2 q3 t3 q4).1
  have a1 := w_le_v t2
  have a2 := w_le_v q3
  have a3 := w_le_v q8
  have b1 := castLe hw
  have b0 := castLe t4
  have c1 := castLe q6
  have c0 := castLe q5
  have s1 := castLe hS.2.2
  have z : ((0 : Int) : Rat) = 0 := by simp
  have z1 : ((480000 : Int) : Rat) = 480000 := by simp
  constructor
  · refine w_ge q8 ?_
    have : ((-1000000 : Int) : Rat) = -1000000 := by simp
    grind
  · have : (untilF hs vs ds lv c).v ≤ ((1000000 : Int) : Rat) := by
      have : ((1000000 : Int) : Rat) = 1000000 := by simp
      grind
    exact w_le_v' q8 this
theorem less_w {a b : Ex} (ha : a.ok) (hb : b.ok) (a0 : 0 ≤ a.w) (b0 : 0 ≤ b.w) {A B : Int} (a1 : a.w ≤ A) (b1 : b.w ≤ B) : -B - 2 ≤ (lessF a b).w ∧ (lessF a b).w ≤ A + 2 := by
  obtain ⟨h1, h2, _⟩ := lessF_spec ha hb (Int.le_refl _) (Int.le_refl _)
  have x := w_le_v ha
  have y := w_le_v hb
  have z := w_le_v h2
  have p1 := castLe a0
  have p2 := castLe b0
  have p3 := castLe a1
  have p4 := castLe b1
  have z0 : ((0 : Int) : Rat) = 0 := by simp
  have z2 : ((2 : Int) : Rat) = 2 := by simp
  constructor
  · refine w_ge h2 ?_
    rw [Rat.intCast_sub, Rat.intCast_neg]
    grind
  · have : (lessF a b).v ≤ ((A + 2 : Int) : Rat) := by rw [Rat.intCast_add]; grind
    exact w_le_v' h2 this
/-- A literal of two vessels, read. -/
theorem pair_row {W : World} {A0 A1 : Option Addr} {c0 c1 g : Nat} {l0 l1 : List S79} (h0 : Kd.C k79 W A0 l0.length l0) (k0 : l0.length ≤ c0) (h1 : Kd.C k79 W A1 l1.length l1) (k1 : l1.length ≤ c1)
    (hg : W.heap[g]? = some (.cells #[.slice A0 l0.length c0, .slice A1 l1.length c1] 23 (0, 0))) : Kd.C (Kd.slice 35 k79) W (some ⟨g, 0, none⟩) [l0, l1].length [l0, l1] := by
  refine ⟨rfl, by simp, fun _ => ⟨⟨g, 0, none⟩, rfl, fun j p hj => ?_⟩⟩
  rcases j with _ | _ | j
  · simp at hj; subst hj
    refine ⟨[.slice A0 l0.length c0], rfl, ⟨A0, c0, rfl, k0, h0⟩, fun i u hu => ?_⟩
    rcases i with _ | i
    · simp at hu; subst hu
      simpa [add_plain] using (blk_cell hg 0)
    · simp at hu
  · simp at hj; subst hj
    refine ⟨[.slice A1 l1.length c1], rfl, ⟨A1, c1, rfl, k1, h1⟩, fun i u hu => ?_⟩
    rcases i with _ | i
    · simp at hu; subst hu
      have := blk_cell hg 1
      simpa [add_plain, show (Kd.slice 35 k79).sz = 1 from rfl] using this
    · simp at hu
  · simp at hj
theorem lit2_list {P : Program} {ops : Array Oper} {o : Oper} {a : Act} {Q : Exit → Act → World → Prop} {rest : List Oper} {W : World} (hgd : o.guard = none) {N : Tmp} (_hd : o.dst = some N) {x y : Value} {E : TypeId}
    (hrun : (execOp a.eval o).run P W = .ok (.value (.slice (some ⟨W.heap.size, 0, none⟩) 2 2)) (W.alloc (.cells #[x, y] E (0, 0))))
    (h : ∀ g, g = W.heap.size → ∀ w1, w1.heap[g]? = some (.cells #[x, y] E (0, 0)) → Below W.heap.size W w1 → wpList P ops Q rest (a.put o.dst (.slice (some ⟨g, 0, none⟩) 2 2)) w1) : wpList P ops Q (o :: rest) a W :=
  Kd.event_run hgd hrun (h _ rfl _ (blk_new W _) (below_alloc (Below.refl _ _) _))
theorem vCheck_k (l : List S79) : ∀ k, 30 ≤ k → vessel_Check.f k l = some (checkF l) := by
  intro k hk
  induction k with
  | zero => omega
  | succ k ih =>
    by_cases h : k + 1 = 30
    · rw [h]; exact vCheck l
    · exact vessel_Check.mono l k _ (ih (by omega))
theorem wrap_0_1 : wrap64 ((0 : Int) + 1) = 1 := by rw [wr (by omega) (by omega)]; rfl
theorem wrap_1_2 : wrap64 ((1 : Int) + 1) = 2 := by rw [wr (by omega) (by omega)]; rfl
theorem checked_eq (l0 l1 : List S79) : vessel_checked.f 40 [l0, l1] = some (if validB l0 then checkF l1 else 20) := by
  have e0 : rd_L2 [l0, l1] 0 = l0 := rfl
  have e1 : rd_L2 [l0, l1] 1 = l1 := rfl
  have step : ∀ (k : Nat) (i : Int), vessel_checked.l0 (k + 1) [l0, l1] 2 i = if i < 2 then (if 0 ≤ i then (if i < (([l0, l1] : List (List S79)).length : Int) then ((vessel_Check.f k (rd_L2 [l0, l1] i)).bind fun t162 => (if t162 = 0 then (vessel_checked.l0 k [l0, l1] 2 (wrap64 (i + 1))) else (some t162))) else (none)) else (none)) else (some 0) := fun k i => by simp only [vessel_checked.l0]
  show vessel_checked.l0 (39 + 1) [l0, l1] 2 0 = _
  rw [step 39 0, if_pos (by decide), if_pos (by decide), if_pos (by simp), e0, vCheck_k l0 39 (by omega), Option.bind_some]
  unfold checkF
  by_cases h : validB l0 = true
  · rw [if_pos h, if_pos rfl, if_pos h, wrap_0_1]
    show vessel_checked.l0 (38 + 1) [l0, l1] 2 1 = _
    rw [step 38 1, if_pos (by decide), if_pos (by decide), if_pos (by simp), e1, vCheck_k l1 38 (by omega), Option.bind_some]
    unfold checkF
    by_cases h1 : validB l1 = true
    · rw [if_pos h1, if_pos rfl, wrap_1_2]
      show vessel_checked.l0 (37 + 1) [l0, l1] 2 2 = _
      rw [step 37 2, if_neg (by decide)]
    · rw [if_neg h1, if_neg (by decide)]
  · rw [if_neg h, if_neg (by decide), if_neg h]
theorem checked_good {l0 l1 : List S79} (h0 : validB l0 = true) (h1 : validB l1 = true) : vessel_checked.f 40 [l0, l1] = some 0 := by rw [checked_eq, if_pos h0]; unfold checkF; rw [if_pos h1]
theorem checked_bad1 {l0 l1 : List S79} (h0 : ¬ validB l0 = true) : vessel_checked.f 40 [l0, l1] = some 20 := by rw [checked_eq, if_neg h0]
theorem checked_bad2 {l0 l1 : List S79} (h0 : validB l0 = true) (h1 : ¬ validB l1 = true) : vessel_checked.f 40 [l0, l1] = some 20 := by rw [checked_eq, if_pos h0]; unfold checkF; rw [if_neg h1]
def markS (l : List S79) (parts i : Int) : S27 := ⟨(spanF (markF l parts i)).1, (spanF (markF l parts i)).2⟩
/-- The marks from i on, n of them. -/
def marksL (l : List S79) (parts : Int) : Nat → List S27
  | 0 => []
  | n + 1 => marksL l parts n ++ [markS l parts (n + 1)]
theorem marksL_length (l : List S79) (parts : Int) : ∀ n, (marksL l parts n).length = n
  | 0 => rfl
  | n + 1 => by simp [marksL, marksL_length l parts n]
def MarksF (l : List S79) (parts : Int) : List S27 × Int := if validB l then (if 1 ≤ parts ∧ parts ≤ 60 then (marksL l parts (parts - 1).toNat, 0) else ([], 1)) else ([], 20)
theorem mark_spec {hs vs ds : List Int} (h : GV hs vs ds) {parts i : Int} (hp : 1 ≤ parts ∧ parts ≤ 60) (hi : 0 ≤ i ∧ i ≤ parts) :
    0 ≤ sm ds * (parts - i) ∧ sm ds * (parts - i) ≤ 28800000 ∧ (ofF 0 (sm ds * (parts - i)) parts).v = (sm ds : Rat) * ((parts : Rat) - (i : Rat)) / (parts : Rat) ∧ (ofF 0 (sm ds * (parts - i)) parts).ok ∧ (ofF 0 (sm ds * (parts - i)) parts).d ≤ 60 ∧ 0 ≤ (ofF 0 (sm ds * (parts - i)) parts).w ∧ (ofF 0 (sm ds * (parts - i)) parts).v ≤ (sm ds : Rat) := by
  have hS := h.sums
  have d0 := h.d.pos.sum
  have m1 : sm ds * (parts - i) ≤ 480000 * 60 := Int.mul_le_mul hS.2.2 (by omega) (by omega) (by omega)
  have m0 : 0 ≤ sm ds * (parts - i) := Int.mul_nonneg d0 (by omega)
  obtain ⟨o1, o2, o3, o4⟩ := ofF_spec 0 (sm ds * (parts - i)) parts hp.1
  have pp := one_le hp.1
  have e : (ofF 0 (sm ds * (parts - i)) parts).v = (sm ds : Rat) * ((parts : Rat) - (i : Rat)) / (parts : Rat) := by
    rw [o1, Rat.intCast_mul, Rat.intCast_sub]; simp; grind
  have i0 := castLe hi.1
  have i1 := castLe hi.2
  have s0 := castLe d0
  refine ⟨m0, by omega, e, o2, by omega, ?_, ?_⟩
  · rw [o4]; have := Int.ediv_nonneg m0 (show 0 ≤ parts by omega); omega
  · rw [e]
    refine div_le pp ?_
    have := Rat.mul_le_mul_of_nonneg_left (c := (sm ds : Rat)) (a := (parts : Rat) - (i : Rat)) (b := (parts : Rat)) (by simp at i0; grind) (by simpa using s0)
    exact this
/-- One record appended to a row of the call's own, the literal lying somewhere. -/
theorem recRow27 {W : World} {g E : Nat} {x : S27} (h : W.heap[g]? = some (.cells #[.int .i64 x.f0, .int .i64 x.f1] E (0, 0))) : ReadsRow (fun (x : S27) (cs : List Value) => cs = [.int .i64 x.f0, .int .i64 x.f1]) 2 W (some ⟨g, 0, none⟩) 1 [x] := by
  refine ⟨rfl, by omega, fun _ => ⟨⟨g, 0, none⟩, rfl, fun j p hj => ?_⟩⟩
  rcases j with _ | j
  · simp at hj
    subst hj
    refine ⟨[.int .i64 x.f0, .int .i64 x.f1], rfl, rfl, fun i u hu => ?_⟩
    rcases i with _ | _ | i
    · simp at hu; subst hu; simpa [add_plain] using (blk_cell h 0)
    · simp at hu; subst hu; simpa [add_plain] using (blk_cell h 1)
    · simp at hu
  · simp at hj
theorem app27_step {P : Program} {ops : Array Oper} {o : Oper} {a : Act} {Q : Exit → Act → World → Prop} {Kc : Act → World → Prop} {w W : World} (hw : Region.wanted o (yielded ops a.tmps) = true) (s x : Operand) (t e : TypeId)
    (ho : o.op = .call { callee := .builtin .append, args := #[s, x], argTypes := #[t, t] }) (ht : P.underlying t = some (.slice e)) (hi : (P.info? e).map (fun i => (i.zero, i.size, i.bytes)) = some (some (.agg #[.int .i64 0, .int .i64 0]), 2, 16))
    (v : Value) (xs : List S27) (y : S27) (ga : Nat) (hs : a.eval s = v) (hx : a.eval x = .slice (some ⟨ga, 0, none⟩) 1 1) (HO : Kd.R k27 e W w.heap.size (fun _ => True) v xs) (HL : W.heap[ga]? = some (.cells #[.int .i64 y.f0, .int .i64 y.f1] e (0, 0))) (HB : Below w.heap.size w W) (hl : xs.length ≤ 1000)
    (h : ∀ v1 w1, Kd.R k27 e w1 w.heap.size (fun _ => True) v1 (xs ++ [y]) → Below w.heap.size w w1 → W.grownBy w1 v.ownBlock → (v1.ownBlock = v.ownBlock ∨ ∃ b, v1.ownBlock = some b ∧ W.heap.size ≤ b) → Kc (a.put o.dst v1) w1) :
    if Region.wanted o (yielded ops a.tmps) = true then Oper.wp P o a W Kc Q else Kc (a.put o.dst undef) W := by
  refine Kd.R_append_rows_step k27 (w0 := w) w.heap.size hw s x t e (.agg #[.int .i64 0, .int .i64 0]) 16 ho ht hi (by rfl) (by decide) (by decide) v xs [y] (some ⟨ga, 0, none⟩) 1 1 (fun _ => True) (fun _ => False) hs hx HO (recRow27 HL) ?_ (fun k hk => hk.elim) (fun k hk => trivial) HB HB.size (by omega) h
  intro x cs hc
  subst hc
  exact k27_mkM _ _ _ x
theorem lit27_step {P : Program} {ops : Array Oper} {o : Oper} {a : Act} {Q : Exit → Act → World → Prop} {Kc : Act → World → Prop} {W : World} (hw : Region.wanted o (yielded ops a.tmps) = true) {N : Tmp} (_hd : o.dst = some N) {cs : Array Value} {E : TypeId}
    (hrun : (execOp a.eval o).run P W = .ok (.value (.slice (some ⟨W.heap.size, 0, none⟩) 1 1)) (W.alloc (.cells cs E (0, 0))))
    (h : ∀ g, g = W.heap.size → ∀ w1, w1.heap[g]? = some (.cells cs E (0, 0)) → Below W.heap.size W w1 → Kc (a.put o.dst (.slice (some ⟨g, 0, none⟩) 1 1)) w1) : if Region.wanted o (yielded ops a.tmps) = true then Oper.wp P o a W Kc Q else Kc (a.put o.dst undef) W :=
  event_step hw hrun (h _ rfl _ (blk_new W _) (below_alloc (Below.refl _ _) _))
/-- A row of the call's own beside a block of another type that is set. -/
theorem row_set3 {α : Type} {d : Kd α} {W : World} {c t e base : Nat} {ok : Nat → Prop} {v a b z x y q : Value} {xs : List α} (hE : ∀ p, p ∈ e :: d.E → p ≠ t) (h : d.R e W base ok v xs) (hk : W.heap[c]? = some (.cells #[a, b, z] t (0, 0))) :
    d.R e (((W.setCell ⟨c, 0, none⟩ x).setCell ⟨c, 1, none⟩ y).setCell ⟨c, 2, none⟩ q) base ok v xs := by
  have k1 : (W.setCell ⟨c, 0, none⟩ x).heap[c]? = some (.cells #[x, b, z] t (0, 0)) := blk_put hk 0 x rfl
  have k2 : ((W.setCell ⟨c, 0, none⟩ x).setCell ⟨c, 1, none⟩ y).heap[c]? = some (.cells #[x, y, z] t (0, 0)) := blk_put k1 1 y rfl
  exact Kd.R_set (Kd.R_set (Kd.R_set h hk hE 0 x) k1 hE 1 y) k2 hE 2 q
/-- The rings below a level. -/
def cutGo : List S79 → Int → Option (List S79)
  | [], _ => some []
  | r :: t, lv => if (partF r (min lv r.f0)).2 then (if lv - r.f0 ≤ 0 then some [(partF r (min lv r.f0)).1] else (cutGo t (lv - r.f0)).map ((partF r (min lv r.f0)).1 :: ·)) else none
def CutF (l : List S79) (lv : Int) : List S79 × Int := if validB l then (if lv ≠ 0 ∧ lvB l lv = true then (match cutGo l lv with
  | some x => (x, 0)
  | none => ([], 11)) else ([], 1)) else ([], 20)
/-- One ring appended to a row of the call's own, the literal lying somewhere. -/
theorem recRow79 {W : World} {g E : Nat} {x : S79} (h : W.heap[g]? = some (.cells #[.int .i64 x.f0, .int .i64 x.f1, .int .i64 x.f2] E (0, 0))) : ReadsRow (fun (x : S79) (cs : List Value) => cs = [.int .i64 x.f0, .int .i64 x.f1, .int .i64 x.f2]) 3 W (some ⟨g, 0, none⟩) 1 [x] := by
  refine ⟨rfl, by omega, fun _ => ⟨⟨g, 0, none⟩, rfl, fun j p hj => ?_⟩⟩
  rcases j with _ | j
  · simp at hj
    subst hj
    refine ⟨[.int .i64 x.f0, .int .i64 x.f1, .int .i64 x.f2], rfl, rfl, fun i u hu => ?_⟩
    rcases i with _ | _ | _ | i
    · simp at hu; subst hu; simpa [add_plain] using (blk_cell h 0)
    · simp at hu; subst hu; simpa [add_plain] using (blk_cell h 1)
    · simp at hu; subst hu; simpa [add_plain] using (blk_cell h 2)
    · simp at hu
  · simp at hj
theorem app79_list {P : Program} {ops : Array Oper} {o : Oper} {rest : List Oper} {a : Act} {Q : Exit → Act → World → Prop} {w W : World} (hgd : o.guard = none) (s x : Operand) (t e : TypeId)
    (ho : o.op = .call { callee := .builtin .append, args := #[s, x], argTypes := #[t, t] }) (ht : P.underlying t = some (.slice e)) (hi : (P.info? e).map (fun i => (i.zero, i.size, i.bytes)) = some (some (.agg #[.int .i64 0, .int .i64 0, .int .i64 0]), 3, 24))
    (v : Value) (xs : List S79) (y : S79) (ga : Nat) (hs : a.eval s = v) (hx : a.eval x = .slice (some ⟨ga, 0, none⟩) 1 1) (HO : Kd.R k79 e W w.heap.size (fun _ => True) v xs) (HL : W.heap[ga]? = some (.cells #[.int .i64 y.f0, .int .i64 y.f1, .int .i64 y.f2] e (0, 0))) (HB : Below w.heap.size w W) (hl : xs.length ≤ 1000)
    (h : ∀ v1 w1, Kd.R k79 e w1 w.heap.size (fun _ => True) v1 (xs ++ [y]) → Below w.heap.size w w1 → W.grownBy w1 v.ownBlock → (v1.ownBlock = v.ownBlock ∨ ∃ b, v1.ownBlock = some b ∧ W.heap.size ≤ b) → wpList P ops Q rest (a.put o.dst v1) w1) :
    wpList P ops Q (o :: rest) a W := by
  refine Kd.R_append_rows k79 (w0 := w) w.heap.size hgd s x t e (.agg #[.int .i64 0, .int .i64 0, .int .i64 0]) 24 ho ht hi (by rfl) (by decide) (by decide) v xs [y] (some ⟨ga, 0, none⟩) 1 1 (fun _ => True) (fun _ => False) hs hx HO (recRow79 HL) ?_ (fun k hk => hk.elim) (fun k hk => trivial) HB HB.size (by omega) h
  intro x cs hc
  subst hc
  exact k79_mkM _ _ _ x
theorem litv_list {P : Program} {ops : Array Oper} {o : Oper} {rest : List Oper} {a : Act} {Q : Exit → Act → World → Prop} {W : World} (hgd : o.guard = none) {N : Tmp} (_hd : o.dst = some N) {cs : Array Value} {E : TypeId}
    (hrun : (execOp a.eval o).run P W = .ok (.value (.slice (some ⟨W.heap.size, 0, none⟩) 1 1)) (W.alloc (.cells cs E (0, 0))))
    (h : ∀ g, g = W.heap.size → ∀ w1, w1.heap[g]? = some (.cells cs E (0, 0)) → Below W.heap.size W w1 → wpList P ops Q rest (a.put o.dst (.slice (some ⟨g, 0, none⟩) 1 1)) w1) : wpList P ops Q (o :: rest) a W :=
  Kd.event_run hgd hrun (h _ rfl _ (blk_new W _) (below_alloc (Below.refl _ _) _))
/-- A row of records of the call's own beside another block that is set. -/
theorem row_other3 {W : World} {c base : Nat} {v x y q : Value} {xs : List S79} (hno : ∀ k, v.ownBlock = some k → k ≠ c) (h : Kd.R k79 35 W base (fun _ => True) v xs) :
    Kd.R k79 35 (((W.setCell ⟨c, 0, none⟩ x).setCell ⟨c, 1, none⟩ y).setCell ⟨c, 2, none⟩ q) base (fun _ => True) v xs := by
  have t := Kd.R_tight (d := k79) rfl h
  have f : ∀ {W0 : World} (j : Nat) (u : Value), Kd.R k79 35 W0 base (fun k => some k = v.ownBlock) v xs → Kd.R k79 35 (W0.setCell ⟨c, j, none⟩ u) base (fun k => some k = v.ownBlock) v xs :=
    fun j u h0 => Kd.R_far (p := ⟨c, j, none⟩) h0 (fun k hk => hno k hk.symm) u
  exact Kd.R_mono (f 2 q (f 1 y (f 0 x t))) (fun _ _ => trivial)
end Go.Proofs.YtlhfclpbodfmcaaGreatDoor.Pr
