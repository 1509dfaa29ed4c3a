/- A part of the proof: Vx. -/
import Derived.Test.YtlhfclpbodfmcaaXVm
namespace Go.Proofs.Ytlhfclpbodfmcaa.Vm
/-- Sizes of rings: their number and each size are small. -/
structure GoodR (xs : List Int) (B : Int) : Prop where
  pos : Pos xs
  le : ∀ a, a ∈ xs → a ≤ B
  ne : 1 ≤ xs.length
  ln : xs.length ≤ 24
theorem GoodR.gt {xs : List Int} {B : Int} (h : GoodR xs B) {r : Nat} (hr : r < xs.length) : 1 ≤ gt xs r ∧ gt xs r ≤ B := by
  refine ⟨h.pos.gt hr, ?_⟩
  have : Vm.gt xs r = xs[r] := by simp [Vm.gt, List.getD_eq_getElem?_getD, List.getElem?_eq_getElem hr]
  rw [this]; exact h.le _ (List.getElem_mem hr)
theorem wholeF_ok (n : Int) : (wholeF n).ok ∧ (wholeF n).v = (n : Rat) := by
  refine ⟨⟨by simp [wholeF], by simp [wholeF]⟩, ?_⟩
  simp only [wholeF, Ex.v]; grind
theorem w_le_v {e : Ex} (he : e.ok) : (e.w : Rat) ≤ e.v ∧ e.v < (e.w : Rat) + 1 := by
  have := ok_bounds he; unfold Ex.v; grind
theorem w_ge {e : Ex} (he : e.ok) {n : Int} (hv : (n : Rat) ≤ e.v) : n ≤ e.w := by
  have := floor_v he
  have h : n ≤ e.v.floor := Rat.le_floor_iff.2 hv
  omega
/-- From one scale to another one. -/
theorem tell {as bs : List Int} {A B : Int} (ha : GoodR as A) (hb : GoodR bs B) (hl : as.length = bs.length) {e : Ex} (he : e.ok) (hw : 0 ≤ e.w) (hv : e.v ≤ (sm as : Rat)) {M : Int} (hM : e.d ≤ M) :
    (findF as e).ok as.length ∧ (findF as e).d ≤ M * A ∧ (atF bs (findF as e)).v = conv as bs e.v ∧ (atF bs (findF as e)).ok ∧ (atF bs (findF as e)).d ≤ M * A ∧ 0 ≤ (atF bs (findF as e)).w ∧ (atF bs (findF as e)).v ≤ (sm bs : Rat) := by
  obtain ⟨h1, h2, h3⟩ := findF_spec ha.pos ha.ne he hw hv
  obtain ⟨k1, k2, k3⟩ := atF_spec bs (findF as e) h1.2.2.2
  have hd : (findF as e).d ≤ M * A := by
    rw [h3]
    have := ha.gt h1.1
    have d1 : (1 : Int) ≤ e.d := by have := he.1; have := he.2; omega
    exact Int.mul_le_mul hM this.2 (by omega) (by omega)
  have hc : (atF bs (findF as e)).v = conv as bs e.v := by rw [k1, ← conv_pv hl ha.pos hb.pos h1, h2]
  have hp := pv_bounds hb.pos (hl ▸ h1 : (findF as e).ok bs.length)
  refine ⟨h1, hd, hc, k2, Int.le_trans k3 hd, w_ge k2 ?_, ?_⟩
  · rw [k1]; have := hp.2.2.1; grind
  · rw [k1]; exact hp.2.2.2
theorem lessF_spec {a b : Ex} (ha : a.ok) (hb : b.ok) {M N : Int} (hM : a.d ≤ M) (hN : b.d ≤ N) : (lessF a b).v = a.v - b.v ∧ (lessF a b).ok ∧ (lessF a b).d ≤ M * N := by
  have a1 : (1 : Int) ≤ a.d := by have := ha.1; have := ha.2; omega
  have b1 : (1 : Int) ≤ b.d := by have := hb.1; have := hb.2; omega
  have ab : 1 ≤ a.d * b.d := by have := Int.mul_le_mul a1 b1 (by omega) (by omega); omega
  obtain ⟨h1, h2, h3, _⟩ := ofF_spec (a.w - b.w) (a.n * b.d - b.n * a.d) (a.d * b.d) ab
  refine ⟨?_, h2, ?_⟩
  · unfold lessF; rw [h1]
    have x := one_le a1; have y := one_le b1
    simp only [Ex.v, Rat.intCast_sub, Rat.intCast_mul]
    have : (a.d : Rat) * (b.d : Rat) ≠ 0 := by
      have := Rat.mul_pos (a := (a.d : Rat)) (b := (b.d : Rat)) (by grind) (by grind)
      grind
    grind
  · have := Int.mul_le_mul hM hN (by omega) (by omega)
    exact Int.le_trans h3 this
theorem plusF_spec {a : Ex} (ha : a.ok) (n : Int) : (plusF a n).ok ∧ (plusF a n).v = a.v + (n : Rat) ∧ (plusF a n).d = a.d := by
  refine ⟨ha, ?_, rfl⟩
  simp only [plusF, Ex.v, Rat.intCast_add]; grind
/-- The three scales of a vessel. -/
structure GV (hs vs ds : List Int) : Prop where
  h : GoodR hs 1000
  v : GoodR vs 100000
  d : GoodR ds 20000
  hv : hs.length = vs.length
  hd : hs.length = ds.length
/-- 0 for what is less. -/
def clipF (e : Ex) : Ex := if e.w < 0 then wholeF 0 else e
def timeF (hs ds : List Int) (lv : Int) : Ex := atF ds (findF hs (wholeF lv))
def afterF (hs ds : List Int) (lv m : Int) : Pl := findF ds (clipF (plusF (timeF hs ds lv) (-m)))
def runF (hs vs ds : List Int) (lv m : Int) : Ex := lessF (timeF hs vs lv) (atF vs (afterF hs ds lv m))
def restF (hs vs : List Int) (lv : Int) (c : Ex) : Ex := lessF (timeF hs vs lv) c
def untilF (hs vs ds : List Int) (lv : Int) (c : Ex) : Ex := lessF (timeF hs ds lv) (atF ds (findF vs (restF hs vs lv c)))
theorem clipF_spec {e : Ex} (he : e.ok) {M : Int} (hM : e.d ≤ M) (h1 : 1 ≤ M) : (clipF e).ok ∧ 0 ≤ (clipF e).w ∧ (clipF e).v = (if e.v ≤ 0 then 0 else e.v) ∧ (clipF e).d ≤ M := by
  have hw := w_le_v he
  unfold clipF
  by_cases h : e.w < 0
  · rw [if_pos h]
    have h2 : (e.w : Rat) + 1 ≤ 0 := by have := castLe (show e.w + 1 ≤ 0 by omega); rwa [Rat.intCast_add] at this
    refine ⟨(wholeF_ok 0).1, by simp [wholeF], ?_, by simpa [wholeF] using h1⟩
    rw [(wholeF_ok 0).2, if_pos (by grind)]; simp
  · rw [if_neg h]
    refine ⟨he, by omega, ?_, hM⟩
    have h2 : (0 : Rat) ≤ (e.w : Rat) := by have := castLe (show 0 ≤ e.w by omega); simpa using this
    by_cases h3 : e.v ≤ 0
    · rw [if_pos h3]; grind
    · rw [if_neg h3]
/-- The emptying time (or the content) of a level. -/
theorem timeF_spec {hs bs : List Int} {B : Int} (ha : GoodR hs 1000) (hb : GoodR bs B) (hl : hs.length = bs.length) {lv : Int} (h0 : 0 ≤ lv) (h1 : lv ≤ sm hs) :
    (findF hs (wholeF lv)).ok hs.length ∧ (findF hs (wholeF lv)).d ≤ 1000 ∧ (timeF hs bs lv).v = conv hs bs (lv : Rat) ∧ (timeF hs bs lv).ok ∧ (timeF hs bs lv).d ≤ 1000 ∧ 0 ≤ (timeF hs bs lv).w ∧ (timeF hs bs lv).v ≤ (sm bs : Rat) := by
  have hw := wholeF_ok lv
  have := tell ha hb hl hw.1 (by simpa [wholeF] using h0) (by rw [hw.2]; exact castLe h1) (M := 1) (by simp [wholeF])
  rw [hw.2] at this
  simpa [timeF] using this
theorem afterF_spec {hs ds : List Int} (ha : GoodR hs 1000) (hb : GoodR ds 20000) (hl : hs.length = ds.length) {lv : Int} (h0 : 0 ≤ lv) (h1 : lv ≤ sm hs) {m : Int} (hm : 0 ≤ m) :
    (clipF (plusF (timeF hs ds lv) (-m))).ok ∧ 0 ≤ (clipF (plusF (timeF hs ds lv) (-m))).w ∧ (clipF (plusF (timeF hs ds lv) (-m))).v = (if conv hs ds (lv : Rat) ≤ (m : Rat) then 0 else conv hs ds (lv : Rat) - (m : Rat)) ∧ (clipF (plusF (timeF hs ds lv) (-m))).d ≤ 1000 ∧ (clipF (plusF (timeF hs ds lv) (-m))).v ≤ (sm ds : Rat) := by
  obtain ⟨_, _, t1, t2, t3, t4, t5⟩ := timeF_spec ha hb hl h0 h1
  obtain ⟨p1, p2, p3⟩ := plusF_spec t2 (-m)
  obtain ⟨c1, c2, c3, c4⟩ := clipF_spec p1 (by rw [p3]; exact t3) (by decide)
  have e : (plusF (timeF hs ds lv) (-m)).v = conv hs ds (lv : Rat) - (m : Rat) := by rw [p2, t1, Rat.intCast_neg]; grind
  have m0 : (0 : Rat) ≤ (m : Rat) := by have := castLe hm; simpa using this
  have s0 : (0 : Rat) ≤ (sm ds : Rat) := by have := castLe hb.pos.sum; simpa using this
  rw [e] at c3
  have c5 : (clipF (plusF (timeF hs ds lv) (-m))).v = (if conv hs ds (lv : Rat) ≤ (m : Rat) then 0 else conv hs ds (lv : Rat) - (m : Rat)) := by
    rw [c3]
    by_cases h : conv hs ds (lv : Rat) ≤ (m : Rat)
    · rw [if_pos h, if_pos (by grind)]
    · rw [if_neg h, if_neg (by grind)]
  refine ⟨c1, c2, c5, c4, ?_⟩
  rw [c5]
  rw [t1] at t5
  split <;> grind
/-- The minutes of the surface some minutes after a level. -/
def leftF (hs ds : List Int) (lv m : Int) : Rat := if conv hs ds (lv : Rat) ≤ (m : Rat) then 0 else conv hs ds (lv : Rat) - (m : Rat)
theorem leftF_bd {hs ds : List Int} (ha : GoodR hs 1000) (hb : GoodR ds 20000) (hl : hs.length = ds.length) {lv : Int} (h0 : 0 ≤ lv) (h1 : lv ≤ sm hs) {m : Int} (hm : 0 ≤ m) :
    0 ≤ leftF hs ds lv m ∧ leftF hs ds lv m ≤ conv hs ds (lv : Rat) ∧ leftF hs ds lv m ≤ (sm ds : Rat) := by
  have hbd := conv_bounds hl ha.pos hb.pos (x := (lv : Rat)) (by have := castLe h0; simpa using this) (castLe h1)
  have m0 : (0 : Rat) ≤ (m : Rat) := by have := castLe hm; simpa using this
  unfold leftF
  split <;> grind
theorem placeF_spec {hs ds bs : List Int} {B : Int} (ha : GoodR hs 1000) (hb : GoodR ds 20000) (hl : hs.length = ds.length) (hc : GoodR bs B) (hl2 : ds.length = bs.length) {lv : Int} (h0 : 0 ≤ lv) (h1 : lv ≤ sm hs) {m : Int} (hm : 0 ≤ m) :
    (afterF hs ds lv m).ok ds.length ∧ (afterF hs ds lv m).d ≤ 20000000 ∧ (atF bs (afterF hs ds lv m)).v = conv ds bs (leftF hs ds lv m) ∧ (atF bs (afterF hs ds lv m)).ok ∧ (atF bs (afterF hs ds lv m)).d ≤ 20000000 ∧ 0 ≤ (atF bs (afterF hs ds lv m)).w ∧ (atF bs (afterF hs ds lv m)).v ≤ (sm bs : Rat) := by
  obtain ⟨c1, c2, c3, c4, c5⟩ := afterF_spec ha hb hl h0 h1 hm
  have h := tell hb hc hl2 c1 c2 c5 c4
  rw [c3] at h
  exact h
theorem GV.sums {hs vs ds : List Int} (h : GV hs vs ds) : sm hs ≤ 24000 ∧ sm vs ≤ 2400000 ∧ sm ds ≤ 480000 := by
  have key : ∀ (l : List Int) (B : Int), 0 ≤ B → (∀ a, a ∈ l → a ≤ B) → sm l ≤ l.length * B := by
    intro l B hB
    induction l with
    | nil => intro _; simp [sm]
    | cons a l ih =>
      intro hl
      have h1 := ih (fun b hb => hl b (by simp [hb]))
      have h2 := hl a (by simp)
      simp only [sm, List.length_cons, Int.natCast_add, Int.add_mul]
      simp; omega
  have a1 := key hs 1000 (by decide) h.h.le
  have a2 := key vs 100000 (by decide) h.v.le
  have a3 := key ds 20000 (by decide) h.d.le
  have := h.h.ln; have := h.v.ln; have := h.d.ln
  exact ⟨by omega, by omega, by omega⟩
theorem w_le_v' {e : Ex} (he : e.ok) {n : Int} (hv : e.v ≤ (n : Rat)) : e.w ≤ n := by
  have := w_le_v he
  exact Rat.intCast_le_intCast.1 (Rat.le_trans this.1 hv)
/-- What runs out. -/
theorem runF_spec {hs vs ds : List Int} (h : GV hs vs ds) {lv : Int} (h0 : 0 ≤ lv) (h1 : lv ≤ sm hs) {m : Int} (hm : 0 ≤ m) :
    (runF hs vs ds lv m).v = conv hs vs (lv : Rat) - conv ds vs (leftF hs ds lv m) ∧ (runF hs vs ds lv m).ok ∧ (runF hs vs ds lv m).d ≤ 20000000000 ∧ 0 ≤ (runF hs vs ds lv m).w ∧ (runF hs vs ds lv m).w ≤ 2400000 := by
  have hdv : ds.length = vs.length := h.hd.symm.trans h.hv
  obtain ⟨_, _, t1, t2, t3, t4, t5⟩ := timeF_spec h.h h.v h.hv h0 h1
  obtain ⟨_, _, p1, p2, p3, p4, p5⟩ := placeF_spec h.h h.d h.hd h.v hdv h0 h1 hm
  obtain ⟨l1, l2, l3⟩ := lessF_spec t2 p2 t3 p3
  have hS := h.sums
  have hbd := conv_bounds h.hd h.h.pos h.d.pos (x := (lv : Rat)) (by have := castLe h0; simpa using this) (castLe h1)
  have hL := leftF_bd h.h h.d h.hd h0 h1 hm
  have hcc := conv_conv h.hd hdv h.h.pos h.d.pos h.v.pos (x := (lv : Rat)) (by have := castLe h0; simpa using this) (castLe h1)
  have hmono := (conv_le_iff hdv h.d.pos h.v.pos hL.1 hL.2.2 hbd.1 hbd.2).2 hL.2.1
  have hnn := conv_bounds hdv h.d.pos h.v.pos hL.1 hL.2.2
  rw [hcc] at hmono
  have e : (runF hs vs ds lv m).v = conv hs vs (lv : Rat) - conv ds vs (leftF hs ds lv m) := by unfold runF; rw [l1, t1, p1]
  refine ⟨e, l2, l3, w_ge l2 (by show ((0 : Int) : Rat) ≤ (runF hs vs ds lv m).v; rw [e]; grind), ?_⟩
  have : (runF hs vs ds lv m).v ≤ ((sm vs : Int) : Rat) := by rw [e, ← t1]; grind
  have := w_le_v' l2 this
  exact Int.le_trans this hS.2.1
/-- What is left when a volume has run out. -/
theorem restF_spec {hs vs : List Int} (ha : GoodR hs 1000) (hb : GoodR vs 100000) (hl : hs.length = vs.length) {lv : Int} (h0 : 0 ≤ lv) (h1 : lv ≤ sm hs) {c : Ex} (hc : c.ok) (hd : c.d ≤ 1000) (h2 : 0 ≤ c.w) :
    (restF hs vs lv c).v = conv hs vs (lv : Rat) - c.v ∧ (restF hs vs lv c).ok ∧ (restF hs vs lv c).d ≤ 1000000 ∧ (restF hs vs lv c).v ≤ (sm vs : Rat) := by
  obtain ⟨_, _, t1, t2, t3, t4, t5⟩ := timeF_spec ha hb hl h0 h1
  obtain ⟨l1, l2, l3⟩ := lessF_spec t2 hc t3 hd
  have e : (restF hs vs lv c).v = conv hs vs (lv : Rat) - c.v := by unfold restF; rw [l1, t1]
  have cw := w_le_v hc
  have c0 : (0 : Rat) ≤ (c.w : Rat) := by have := castLe h2; simpa using this
  refine ⟨e, l2, l3, ?_⟩
  rw [e, ← t1]; grind
theorem untilF_spec {hs vs ds : List Int} (h : GV hs vs ds) {lv : Int} (h0 : 0 ≤ lv) (h1 : lv ≤ sm hs) {c : Ex} (hc : c.ok) (hd : c.d ≤ 1000) (h2 : 0 ≤ c.w) (h3 : 0 ≤ (restF hs vs lv c).w) :
    (findF vs (restF hs vs lv c)).ok vs.length ∧ (findF vs (restF hs vs lv c)).d ≤ 100000000000 ∧ (atF ds (findF vs (restF hs vs lv c))).ok ∧ (atF ds (findF vs (restF hs vs lv c))).d ≤ 100000000000 ∧ 0 ≤ (atF ds (findF vs (restF hs vs lv c))).w ∧ (atF ds (findF vs (restF hs vs lv c))).w ≤ 480000 ∧
      (untilF hs vs ds lv c).v = conv hs ds (lv : Rat) - conv vs ds (conv hs vs (lv : Rat) - c.v) ∧ (untilF hs vs ds lv c).ok := by
  have hvd : vs.length = ds.length := h.hv.symm.trans h.hd
  obtain ⟨r1, r2, r3, r4⟩ := restF_spec h.h h.v h.hv h0 h1 hc hd h2
  obtain ⟨q1, q2, q3, q4, q5, q6, q7⟩ := tell h.v h.d hvd r2 h3 r4 r3
  obtain ⟨_, _, t1, t2, t3, t4, t5⟩ := timeF_spec h.h h.d h.hd h0 h1
  obtain ⟨l1, l2, l3⟩ := lessF_spec t2 q4 t3 q5
  have hS := h.sums
  have := w_le_v' q4 q7
  refine ⟨q1, q2, q4, q5, q6, by omega, ?_, l2⟩
  unfold untilF; rw [l1, t1, q3, r1]
end Go.Proofs.Ytlhfclpbodfmcaa.Vm
