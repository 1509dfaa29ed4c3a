/- A part of the proof: Vm. -/
namespace Go.Proofs.YtlhfclpbodfmcaaGreatDoor.Vm
/-- The sum of a list of whole numbers. -/
def sm : List Int → Int
  | [] => 0
  | a :: l => a + sm l
/-- All sizes are at least 1. -/
def Pos (l : List Int) : Prop := ∀ a, a ∈ l → 1 ≤ a
theorem Pos.head {a : Int} {l : List Int} (h : Pos (a :: l)) : 1 ≤ a := h a (by simp)
theorem Pos.tail {a : Int} {l : List Int} (h : Pos (a :: l)) : Pos l := fun b hb => h b (by simp [hb])
theorem Pos.sum {l : List Int} (h : Pos l) : 0 ≤ sm l := by
  induction l with
  | nil => simp [sm]
  | cons a l ih => have := ih h.tail; have := h.head; simp only [sm]; omega
theorem castLe {a b : Int} (h : a ≤ b) : (a : Rat) ≤ (b : Rat) := Rat.intCast_le_intCast.2 h
theorem castLt {a b : Int} (h : a < b) : (a : Rat) < (b : Rat) := Rat.intCast_lt_intCast.2 h
theorem one_le {a : Int} (h : 1 ≤ a) : (1 : Rat) ≤ (a : Rat) := by have := castLe h; simpa using this
/-- The number on the scale bs that belongs to the number x on the scale as. -/
def conv : List Int → List Int → Rat → Rat
  | a :: as, b :: bs, x => if x ≤ (a : Rat) then x * (b : Rat) / (a : Rat) else (b : Rat) + conv as bs (x - (a : Rat))
  | _, _, _ => 0
theorem sm_cast (a : Int) (l : List Int) : ((sm (a :: l) : Int) : Rat) = (a : Rat) + (sm l : Rat) := by
  simp only [sm]; exact Rat.intCast_add a (sm l)
theorem mul_nn {x y : Rat} (hx : 0 ≤ x) (hy : 0 ≤ y) : 0 ≤ x * y := Rat.mul_nonneg hx hy
theorem inv_nn {y : Rat} (hy : 1 ≤ y) : 0 < y⁻¹ := Rat.inv_pos.2 (by grind)
theorem div_nn {x y : Rat} (hx : 0 ≤ x) (hy : 1 ≤ y) : 0 ≤ x / y := by
  rw [Rat.div_def]; exact mul_nn hx (by have := inv_nn hy; grind)
theorem div_le {x y z : Rat} (hy : 1 ≤ y) (h : x ≤ z * y) : x / y ≤ z := by
  rw [Rat.div_def]
  have h1 := Rat.mul_le_mul_of_nonneg_right h (Rat.le_of_lt (inv_nn hy))
  have h2 : z * y * y⁻¹ = z := by grind
  grind
/-- Bounds. -/
theorem conv_bounds : ∀ {as bs : List Int} {x : Rat}, as.length = bs.length → Pos as → Pos bs → 0 ≤ x → x ≤ (sm as : Rat) →
    0 ≤ conv as bs x ∧ conv as bs x ≤ (sm bs : Rat)
  | [], [], x, _, _, _, h0, h1 => by simp [conv, sm]
  | a :: as, b :: bs, x, hl, ha, hb, h0, h1 => by
    have pa := one_le ha.head
    have pb := one_le hb.head
    have sb := castLe hb.tail.sum
    rw [sm_cast] at h1 ⊢
    simp only [conv]
    by_cases hx : x ≤ (a : Rat)
    · rw [if_pos hx]
      refine ⟨div_nn (mul_nn h0 (by grind)) pa, ?_⟩
      have := Rat.mul_le_mul_of_nonneg_right hx (c := (b : Rat)) (by grind)
      have := div_le pa (x := x * b) (z := b) (by grind)
      grind
    · rw [if_neg hx]
      have := conv_bounds (as := as) (bs := bs) (x := x - a) (by simpa using hl) ha.tail hb.tail (by grind) (by grind)
      grind
/-- Within one ring the function is straight: the ring behind the rings p. -/
theorem conv_at : ∀ {p q : List Int} {a b : Int} {as bs : List Int} {x : Rat}, p.length = q.length → Pos (p ++ a :: as) → Pos (q ++ b :: bs) →
    (sm p : Rat) ≤ x → x ≤ (sm p : Rat) + (a : Rat) →
    conv (p ++ a :: as) (q ++ b :: bs) x = (sm q : Rat) + (x - (sm p : Rat)) * (b : Rat) / (a : Rat)
  | [], [], a, b, as, bs, x, _, ha, hb, h0, h1 => by
    simp only [List.nil_append, conv, sm] at *
    rw [if_pos (by grind)]; grind
  | c :: p, d :: q, a, b, as, bs, x, hl, ha, hb, h0, h1 => by
    rw [sm_cast] at h0 h1
    have ha' : Pos (c :: (p ++ a :: as)) := ha
    have hb' : Pos (d :: (q ++ b :: bs)) := hb
    have pa := one_le ha'.head
    have pb := one_le hb'.head
    have p0 : (0 : Rat) ≤ (sm p : Rat) := by
      have := castLe (Pos.sum (l := p) (fun z hz => ha'.tail z (by simp [hz])))
      simpa using this
    have qa : (1 : Rat) ≤ (a : Rat) := one_le (ha'.tail a (by simp))
    have ih := conv_at (p := p) (q := q) (a := a) (b := b) (as := as) (bs := bs) (x := x - c) (by simpa using hl) ha'.tail hb'.tail
    simp only [List.cons_append, conv]
    rw [sm_cast, sm_cast]
    by_cases hx : x ≤ (c : Rat)
    · rw [if_pos hx]
      have e : x = (c : Rat) := by grind
      have e2 : (sm p : Rat) = 0 := by grind
      -- the point between both rings
      cases p with
      | nil =>
        cases q with
        | nil => simp [sm]; subst e; grind
        | cons _ _ => simp at hl
      | cons c2 p2 =>
        exfalso
        rw [sm_cast] at e2
        have := one_le (ha'.tail.head)
        have : (0 : Rat) ≤ (sm p2 : Rat) := by
          have := castLe (Pos.sum (l := p2) (fun z hz => ha'.tail z (by simp [hz])))
          simpa using this
        grind
    · rw [if_neg hx, ih (by grind) (by grind)]
      grind
theorem conv_low {a b : Int} {as bs : List Int} {x : Rat} (h : x ≤ (a : Rat)) : conv (a :: as) (b :: bs) x = x * (b : Rat) / (a : Rat) := by
  simp only [conv]; rw [if_pos h]
theorem conv_high {a b : Int} {as bs : List Int} {x : Rat} (h : ¬ x ≤ (a : Rat)) : conv (a :: as) (b :: bs) x = (b : Rat) + conv as bs (x - (a : Rat)) := by
  simp only [conv]; rw [if_neg h]
theorem conv_zero : ∀ {as bs : List Int}, Pos as → conv as bs 0 = 0
  | a :: as, b :: bs, ha => by have := one_le ha.head; rw [conv_low (by grind)]; grind
  | [], _, _ => by simp [conv]
  | _ :: _, [], _ => by simp [conv]
/-- Strictly rising. -/
theorem conv_lt : ∀ {as bs : List Int} {x y : Rat}, as.length = bs.length → Pos as → Pos bs → 0 ≤ x → x < y → y ≤ (sm as : Rat) →
    conv as bs x < conv as bs y
  | [], [], x, y, _, _, _, h0, h1, h2 => by simp [sm] at h2; grind
  | a :: as, b :: bs, x, y, hl, ha, hb, h0, h1, h2 => by
    have pa := one_le ha.head
    have pb := one_le hb.head
    rw [sm_cast] at h2
    have hl' : as.length = bs.length := by simpa using hl
    have key : ∀ {u v : Rat}, u < v → u * (b : Rat) / (a : Rat) < v * (b : Rat) / (a : Rat) := by
      intro u v h
      have e : v * (b : Rat) / (a : Rat) = u * (b : Rat) / (a : Rat) + (v - u) * (b : Rat) / (a : Rat) := by grind
      have : 0 < (v - u) * (b : Rat) * (a : Rat)⁻¹ := Rat.mul_pos (Rat.mul_pos (by grind) (by grind)) (inv_nn pa)
      grind
    simp only [conv]
    by_cases hx : x ≤ (a : Rat)
    · by_cases hy : y ≤ (a : Rat)
      · rw [if_pos hx, if_pos hy]; exact key h1
      · rw [if_pos hx, if_neg hy]
        have hv := Rat.mul_le_mul_of_nonneg_right hx (c := (b : Rat)) (by grind)
        have h := div_le pa (x := x * b) (z := b) (by grind)
        have bd := conv_bounds hl' ha.tail hb.tail (x := y - a) (by grind) (by grind)
        have l := conv_lt (x := 0) (y := y - a) hl' ha.tail hb.tail (by grind) (by grind) (by grind)
        have bd0 := conv_bounds hl' ha.tail hb.tail (x := 0) (by grind) (by have := castLe ha.tail.sum; grind)
        grind
    · have hy : ¬ y ≤ (a : Rat) := by grind
      rw [if_neg hx, if_neg hy]
      have l := conv_lt (x := x - a) (y := y - a) hl' ha.tail hb.tail (by grind) (by grind) (by grind)
      grind
/-- One scale behind the other. -/
theorem conv_conv : ∀ {as bs cs : List Int} {x : Rat}, as.length = bs.length → bs.length = cs.length → Pos as → Pos bs → Pos cs → 0 ≤ x → x ≤ (sm as : Rat) →
    conv bs cs (conv as bs x) = conv as cs x
  | [], [], [], x, _, _, _, _, _, h0, h1 => by simp [conv]
  | a :: as, b :: bs, c :: cs, x, hl, hm, ha, hb, hc, h0, h1 => by
    have pa := one_le ha.head
    have pb := one_le hb.head
    rw [sm_cast] at h1
    by_cases hx : x ≤ (a : Rat)
    · rw [conv_low hx, conv_low hx]
      have := Rat.mul_le_mul_of_nonneg_right hx (c := (b : Rat)) (by grind)
      have h := div_le pa (x := x * b) (z := b) (by grind)
      rw [conv_low h]; grind
    · rw [conv_high hx, conv_high hx]
      have hl' : as.length = bs.length := by simpa using hl
      have hm' : bs.length = cs.length := by simpa using hm
      have bd := conv_bounds hl' ha.tail hb.tail (x := x - a) (by grind) (by grind)
      have e := conv_conv hl' hm' ha.tail hb.tail hc.tail (x := x - a) (by grind) (by grind)
      have lt := conv_lt hl' ha.tail hb.tail (x := 0) (y := x - a) (by grind) (by grind) (by grind)
      rw [conv_zero ha.tail] at lt
      rw [conv_high (by grind)]
      have : (b : Rat) + conv as bs (x - a) - b = conv as bs (x - a) := by grind
      rw [this, e]
theorem conv_le_iff {as bs : List Int} {x y : Rat} (hl : as.length = bs.length) (ha : Pos as) (hb : Pos bs) (hx0 : 0 ≤ x) (hx1 : x ≤ (sm as : Rat)) (hy0 : 0 ≤ y) (hy1 : y ≤ (sm as : Rat)) :
    conv as bs x ≤ conv as bs y ↔ x ≤ y := by
  constructor
  · intro h
    apply Classical.byContradiction; intro hn
    have := conv_lt hl ha hb (x := y) (y := x) hy0 (by grind) hx1
    grind
  · intro h
    by_cases e : x = y
    · rw [e]; exact Rat.le_refl
    · have := conv_lt hl ha hb (x := x) (y := y) hx0 (by grind) hy1
      grind
theorem floor_uniq {x : Rat} {n : Int} (h0 : (n : Rat) ≤ x) (h1 : x < (n : Rat) + 1) : x.floor = n := by
  have a : n ≤ x.floor := Rat.le_floor_iff.2 h0
  have b : x.floor < n + 1 := Rat.floor_lt_iff.2 (by rw [Rat.intCast_add]; exact h1)
  omega
/-- A number: a whole one, and n of d parts. -/
structure Ex where
  w : Int
  n : Int
  d : Int
/-- A place: in a ring, of which n of d parts are below. -/
structure Pl where
  r : Nat
  n : Int
  d : Int
/-- m and n divided by d, in lowest terms. -/
def ofF (m n d : Int) : Ex := ⟨m + n / d, (n % d) / (Int.gcd (n % d) d : Int), d / (Int.gcd (n % d) d : Int)⟩
def lessF (a b : Ex) : Ex := ofF (a.w - b.w) (a.n * b.d - b.n * a.d) (a.d * b.d)
def plusF (a : Ex) (n : Int) : Ex := ⟨a.w + n, a.n, a.d⟩
def wholeF (n : Int) : Ex := ⟨n, 0, 1⟩
/-- How many at the begin of a list are not above x. -/
def rk (x : Int) : List Int → Nat
  | [] => 0
  | b :: l => if b ≤ x then rk x l + 1 else 0
/-- The sums below each size but the first one. -/
def mids (s : Int) : List Int → List Int
  | [] => []
  | [_] => []
  | a :: b :: l => (s + a) :: mids (s + a) (b :: l)
def gt (l : List Int) (i : Nat) : Int := l.getD i 0
def findF (xs : List Int) (e : Ex) : Pl := ⟨rk e.w (mids 0 xs), (e.w - sm (xs.take (rk e.w (mids 0 xs)))) * e.d + e.n, e.d * gt xs (rk e.w (mids 0 xs))⟩
def atF (xs : List Int) (p : Pl) : Ex := ofF (sm (xs.take p.r)) (p.n * gt xs p.r) p.d
/-- The number that is meant. -/
def Ex.v (e : Ex) : Rat := (e.w : Rat) + (e.n : Rat) / (e.d : Rat)
/-- The number of a place on a scale. -/
def pv (xs : List Int) (p : Pl) : Rat := (sm (xs.take p.r) : Rat) + (p.n : Rat) / (p.d : Rat) * (gt xs p.r : Rat)
/-- A number in its form. -/
def Ex.ok (e : Ex) : Prop := 0 ≤ e.n ∧ e.n < e.d
/-- A place in k rings. -/
def Pl.ok (p : Pl) (k : Nat) : Prop := p.r < k ∧ 0 ≤ p.n ∧ p.n ≤ p.d ∧ 1 ≤ p.d
theorem gcd_pos' {a d : Int} (hd : 1 ≤ d) : (1 : Int) ≤ (Int.gcd a d : Int) := by
  have : 0 < Int.gcd a d := Int.gcd_pos_of_ne_zero_right _ (by omega)
  omega
theorem ofF_spec (m n d : Int) (hd : 1 ≤ d) : (ofF m n d).v = (m : Rat) + (n : Rat) / (d : Rat) ∧ (ofF m n d).ok ∧ (ofF m n d).d ≤ d ∧ (ofF m n d).w = m + n / d := by
  have hg := gcd_pos' (a := n % d) hd
  obtain ⟨u, hu⟩ := Int.gcd_dvd_left (a := n % d) (b := d)
  obtain ⟨t, ht⟩ := Int.gcd_dvd_right (a := n % d) (b := d)
  have h0 : 0 ≤ n % d := Int.emod_nonneg _ (by omega)
  have h1 : n % d < d := Int.emod_lt_of_pos _ (by omega)
  have hq := Int.emod_add_mul_ediv n d
  unfold ofF
  generalize hG : (Int.gcd (n % d) d : Int) = g at *
  have e1 : (n % d) / g = u := by rw [hu]; exact Int.mul_ediv_cancel_left u (by omega)
  have e2 : d / g = t := by conv => lhs; rw [ht]
                            exact Int.mul_ediv_cancel_left t (by omega)
  simp only [Ex.v, Ex.ok]
  rw [e1, e2]
  have ht1 : 1 ≤ t := by
    apply Classical.byContradiction; intro hn
    have : t ≤ 0 := by omega
    have := Int.mul_le_mul_of_nonneg_left this (show 0 ≤ g by omega)
    omega
  have hu0 : 0 ≤ u := by
    apply Classical.byContradiction; intro hn
    have : u ≤ -1 := by omega
    have := Int.mul_le_mul_of_nonneg_left this (show 0 ≤ g by omega)
    omega
  have hut : u < t := by
    apply Classical.byContradiction; intro hn
    have : t ≤ u := by omega
    have := Int.mul_le_mul_of_nonneg_left this (show 0 ≤ g by omega)
    omega
  have htd : t ≤ d := by
    have := Int.mul_le_mul_of_nonneg_right hg (show 0 ≤ t by omega)
    omega
  refine ⟨?_, ⟨hu0, hut⟩, htd, trivial⟩
  have g1 := one_le hg
  have t1 := one_le ht1
  have d1 := one_le hd
  have cd : (d : Rat) = (g : Rat) * (t : Rat) := by
    have h2 : ((d : Int) : Rat) = ((g * t : Int) : Rat) := congrArg (fun z : Int => (z : Rat)) ht
    rw [h2, Rat.intCast_mul]
  have cn : (n : Rat) = (g : Rat) * (u : Rat) + (d : Rat) * ((n / d : Int) : Rat) := by
    have h2 : ((n : Int) : Rat) = ((n % d + d * (n / d) : Int) : Rat) := by rw [hq]
    rw [h2, Rat.intCast_add, Rat.intCast_mul, hu, Rat.intCast_mul]
  rw [Rat.intCast_add, cn, cd]
  generalize ((n / d : Int) : Rat) = q
  have gz : (g : Rat) * (t : Rat) ≠ 0 := by
    have := Rat.mul_pos (a := (g : Rat)) (b := (t : Rat)) (by grind) (by grind)
    grind
  grind
theorem ok_bounds {e : Ex} (h : e.ok) : 0 ≤ (e.n : Rat) / (e.d : Rat) ∧ (e.n : Rat) / (e.d : Rat) < 1 := by
  have d1 : (1 : Int) ≤ e.d := by have := h.1; have := h.2; omega
  have n0 := castLe h.1
  have n1 := castLt h.2
  have dd := one_le d1
  refine ⟨div_nn (by simpa using n0) dd, ?_⟩
  rw [Rat.div_def]
  have := Rat.mul_lt_mul_of_pos_right n1 (inv_nn dd)
  have : (e.d : Rat) * (e.d : Rat)⁻¹ = 1 := by grind
  grind
theorem floor_v {e : Ex} (h : e.ok) : e.v.floor = e.w := by
  have := ok_bounds h
  exact floor_uniq (by unfold Ex.v; grind) (by unfold Ex.v; grind)
theorem sm_append : ∀ (a b : List Int), sm (a ++ b) = sm a + sm b
  | [], b => by simp [sm]
  | x :: a, b => by simp only [List.cons_append, sm, sm_append a b]; omega
theorem split_at (xs : List Int) (r : Nat) (h : r < xs.length) : xs.take r ++ gt xs r :: xs.drop (r + 1) = xs := by
  have : gt xs r = xs[r] := by simp [gt, List.getD_eq_getElem?_getD, List.getElem?_eq_getElem h]
  rw [this, List.getElem_cons_drop, List.take_append_drop]
theorem sm_take_succ (xs : List Int) (r : Nat) (h : r < xs.length) : sm (xs.take (r + 1)) = sm (xs.take r) + gt xs r := by
  have : gt xs r = xs[r] := by simp [gt, List.getD_eq_getElem?_getD, List.getElem?_eq_getElem h]
  rw [List.take_succ_eq_append_getElem h, sm_append, this]; simp [sm]
theorem Pos.gt {xs : List Int} (h : Pos xs) {r : Nat} (hr : r < xs.length) : 1 ≤ gt xs r := by
  have : Vm.gt xs r = xs[r] := by simp [Vm.gt, List.getD_eq_getElem?_getD, List.getElem?_eq_getElem hr]
  rw [this]; exact h _ (List.getElem_mem hr)
theorem Pos.take {xs : List Int} (h : Pos xs) (r : Nat) : Pos (xs.take r) := fun a ha => h a (List.mem_of_mem_take ha)
theorem Pos.drop {xs : List Int} (h : Pos xs) (r : Nat) : Pos (xs.drop r) := fun a ha => h a (List.mem_of_mem_drop ha)
theorem sm_take_le {xs : List Int} (h : Pos xs) : ∀ {i j : Nat}, i ≤ j → sm (xs.take i) ≤ sm (xs.take j) := by
  intro i j hij
  have e : xs.take j = xs.take i ++ (xs.take j).drop i := by
    have := List.take_append_drop i (xs.take j)
    rw [List.take_take, Nat.min_eq_left hij] at this
    exact this.symm
  rw [e, sm_append]
  have := ((h.take j).drop i).sum
  omega
theorem sm_take_le_all {xs : List Int} (h : Pos xs) (i : Nat) : sm (xs.take i) ≤ sm xs := by
  by_cases hi : i ≤ xs.length
  · have := sm_take_le h hi
    rwa [List.take_length] at this
  · rw [List.take_of_length_le (by omega)]; omega
theorem mids_length : ∀ (xs : List Int) (s : Int), (mids s xs).length = xs.length - 1
  | [], _ => rfl
  | [_], _ => rfl
  | a :: b :: l, s => by simp only [mids, List.length_cons, mids_length (b :: l)]; omega
theorem mids_gt : ∀ (xs : List Int) (s : Int) (i : Nat), i + 1 < xs.length → gt (mids s xs) i = s + sm (xs.take (i + 1))
  | [], _, _, h => by simp at h
  | [_], _, _, h => by simp at h
  | a :: b :: l, s, 0, h => by simp [mids, gt, sm]
  | a :: b :: l, s, i + 1, h => by
    have ih := mids_gt (b :: l) (s + a) i (by simpa using h)
    have e : gt (mids s (a :: b :: l)) (i + 1) = gt (mids (s + a) (b :: l)) i := by simp [mids, gt]
    have e2 : (a :: b :: l).take (i + 1 + 1) = a :: (b :: l).take (i + 1) := rfl
    rw [e, ih, e2]
    show _ = s + (a + sm ((b :: l).take (i + 1)))
    omega
theorem rk_le (x : Int) : ∀ l : List Int, rk x l ≤ l.length
  | [] => Nat.le_refl _
  | b :: l => by
    have := rk_le x l
    unfold rk; split
    · simp; omega
    · simp
theorem rk_lt (x : Int) : ∀ (l : List Int) (i : Nat), i < rk x l → gt l i ≤ x
  | [], i, h => by simp [rk] at h
  | b :: l, i, h => by
    unfold rk at h
    split at h
    · rename_i hb
      rcases i with _ | i
      · simpa [gt] using hb
      · have := rk_lt x l i (by omega)
        simpa [gt] using this
    · omega
theorem rk_at (x : Int) : ∀ (l : List Int), rk x l < l.length → x < gt l (rk x l)
  | [], h => by simp [rk] at h
  | b :: l, h => by
    unfold rk at h ⊢
    split
    · rename_i hb
      rw [if_pos hb] at h
      have := rk_at x l (by simpa using h)
      simpa [gt] using this
    · rename_i hb
      simp [gt]; omega
/-- What the search tells. -/
theorem rank_spec {xs : List Int} (_h : Pos xs) (hne : 1 ≤ xs.length) (x : Int) (hx : 0 ≤ x) : rk x (mids 0 xs) < xs.length ∧ sm (xs.take (rk x (mids 0 xs))) ≤ x ∧
    (rk x (mids 0 xs) + 1 < xs.length → x < sm (xs.take (rk x (mids 0 xs) + 1))) := by
  have hl := mids_length xs 0
  have h1 := rk_le x (mids 0 xs)
  refine ⟨by omega, ?_, ?_⟩
  · generalize hr : rk x (mids 0 xs) = r at *
    rcases r with _ | r
    · simpa [sm] using hx
    · have := rk_lt x (mids 0 xs) r (by omega)
      rw [mids_gt xs 0 r (by omega)] at this
      omega
  · intro hr
    have := rk_at x (mids 0 xs) (by omega)
    rw [mids_gt xs 0 _ hr] at this
    omega
theorem findF_spec {xs : List Int} (h : Pos xs) (hne : 1 ≤ xs.length) {e : Ex} (he : e.ok) (hw : 0 ≤ e.w) (hv : e.v ≤ (sm xs : Rat)) :
    (findF xs e).ok xs.length ∧ pv xs (findF xs e) = e.v ∧ (findF xs e).d = e.d * gt xs (findF xs e).r := by
  obtain ⟨r1, r2, r3⟩ := rank_spec h hne e.w hw
  have d1 : (1 : Int) ≤ e.d := by have := he.1; have := he.2; omega
  unfold findF
  generalize rk e.w (mids 0 xs) = r at *
  have a1 := h.gt r1
  have ds := sm_take_succ xs r r1
  have dd := one_le d1
  have aa := one_le a1
  have hD : 1 ≤ e.d * gt xs r := by
    have := Int.mul_le_mul d1 a1 (by omega) (by omega)
    omega
  have n0 : 0 ≤ (e.w - sm (xs.take r)) * e.d + e.n := by
    have := Int.mul_nonneg (show 0 ≤ e.w - sm (xs.take r) by omega) (show 0 ≤ e.d by omega)
    have := he.1; omega
  refine ⟨⟨r1, n0, ?_, hD⟩, ?_, rfl⟩
  · show (e.w - sm (xs.take r)) * e.d + e.n ≤ e.d * gt xs r
    by_cases hr : r + 1 < xs.length
    · have h3 := r3 hr
      have := Int.mul_le_mul_of_nonneg_right (show e.w - sm (xs.take r) ≤ gt xs r - 1 by omega) (show 0 ≤ e.d by omega)
      have := he.2
      have e2 : (gt xs r - 1) * e.d = e.d * gt xs r - e.d := by rw [Int.sub_mul, Int.mul_comm]; omega
      omega
    · have hall : sm xs = sm (xs.take r) + gt xs r := by
        have e2 : xs.take (r + 1) = xs := List.take_of_length_le (by omega)
        rw [e2] at ds; exact ds
      -- over the rationals
      have hv2 : (e.w : Rat) + (e.n : Rat) / (e.d : Rat) ≤ (sm (xs.take r) : Rat) + (gt xs r : Rat) := by
        have := hv; unfold Ex.v at this; rw [hall, Rat.intCast_add] at this; exact this
      have h4 := Rat.mul_le_mul_of_nonneg_right hv2 (c := (e.d : Rat)) (by grind)
      have h5 : ((e.w : Rat) + (e.n : Rat) / (e.d : Rat)) * (e.d : Rat) = (e.w : Rat) * (e.d : Rat) + (e.n : Rat) := by grind
      have h6 : (((e.w - sm (xs.take r)) * e.d + e.n : Int) : Rat) ≤ ((e.d * gt xs r : Int) : Rat) := by
        rw [Rat.intCast_add, Rat.intCast_mul, Rat.intCast_sub, Rat.intCast_mul]; grind
      exact Rat.intCast_le_intCast.1 h6
  · simp only [pv, Ex.v]
    rw [Rat.intCast_add, Rat.intCast_mul, Rat.intCast_sub, Rat.intCast_mul]
    have : (e.d : Rat) * (gt xs r : Rat) ≠ 0 := by
      have := Rat.mul_pos (a := (e.d : Rat)) (b := (gt xs r : Rat)) (by grind) (by grind)
      grind
    grind
theorem atF_spec (xs : List Int) (p : Pl) (hd : 1 ≤ p.d) : (atF xs p).v = pv xs p ∧ (atF xs p).ok ∧ (atF xs p).d ≤ p.d := by
  obtain ⟨h1, h2, h3, _⟩ := ofF_spec (sm (xs.take p.r)) (p.n * gt xs p.r) p.d hd
  have dd := one_le hd
  refine ⟨?_, h2, h3⟩
  unfold atF
  rw [h1, Rat.intCast_mul]
  unfold pv
  grind
theorem pl_frac {p : Pl} {k : Nat} (hp : p.ok k) : 0 ≤ (p.n : Rat) / (p.d : Rat) ∧ (p.n : Rat) / (p.d : Rat) ≤ 1 := by
  obtain ⟨_, h1, h2, h3⟩ := hp
  have dd := one_le h3
  have n0 := castLe h1
  have n1 := castLe h2
  exact ⟨div_nn (by simpa using n0) dd, div_le dd (by grind)⟩
theorem pv_bounds {xs : List Int} (h : Pos xs) {p : Pl} (hp : p.ok xs.length) : (sm (xs.take p.r) : Rat) ≤ pv xs p ∧ pv xs p ≤ (sm (xs.take p.r) : Rat) + (gt xs p.r : Rat) ∧ 0 ≤ pv xs p ∧ pv xs p ≤ (sm xs : Rat) := by
  have f := pl_frac hp
  have a1 := one_le (h.gt hp.1)
  have s0 := castLe (h.take p.r).sum
  have s1 := castLe (sm_take_le_all h (p.r + 1))
  rw [sm_take_succ xs p.r hp.1, Rat.intCast_add] at s1
  have m0 := mul_nn f.1 (show (0 : Rat) ≤ (gt xs p.r : Rat) by grind)
  have m1 := Rat.mul_le_mul_of_nonneg_right f.2 (c := (gt xs p.r : Rat)) (by grind)
  unfold pv
  refine ⟨by grind, by grind, by grind, by grind⟩
/-- From the number of a place on one scale to that on another one. -/
theorem conv_pv {as bs : List Int} (hl : as.length = bs.length) (ha : Pos as) (hb : Pos bs) {p : Pl} (hp : p.ok as.length) : conv as bs (pv as p) = pv bs p := by
  have hr := hp.1
  have hr' : p.r < bs.length := hl ▸ hr
  obtain ⟨b1, b2, _, _⟩ := pv_bounds ha hp
  have key := conv_at (p := as.take p.r) (q := bs.take p.r) (a := gt as p.r) (b := gt bs p.r) (as := as.drop (p.r + 1)) (bs := bs.drop (p.r + 1)) (x := pv as p)
    (by simp [List.length_take]; omega) (by rw [split_at as p.r hr]; exact ha) (by rw [split_at bs p.r hr']; exact hb) b1 b2
  rw [split_at as p.r hr, split_at bs p.r hr'] at key
  rw [key]
  have a1 := one_le (ha.gt hr)
  unfold pv
  grind
end Go.Proofs.YtlhfclpbodfmcaaGreatDoor.Vm
namespace Go.Proofs.YtlhfclpbodfmcaaGreatDoor.Vm
/-- Sizes of rings: their number and each size are small. -/
structure GoodR (xs : List Int) (B : Int) : Prop where
  pos : Pos xs
  le : ∀ a, a ∈ xs → a ≤ B
  ne : 1 ≤ xs.length
  ln : xs.length ≤ 24
theorem GoodR.gt {xs : List Int} {B : Int} (h : GoodR xs B) {r : Nat} (hr : r < xs.length) : 1 ≤ gt xs r ∧ gt xs r ≤ B := by
  refine ⟨h.pos.gt hr, ?_⟩
  have : Vm.gt xs r = xs[r] := by simp [Vm.gt, List.getD_eq_getElem?_getD, List.getElem?_eq_getElem hr]
  rw [this]; exact h.le _ (List.getElem_mem hr)
theorem wholeF_ok (n : Int) : (wholeF n).ok ∧ (wholeF n).v = (n : Rat) := by
  refine ⟨⟨by simp [wholeF], by simp [wholeF]⟩, ?_⟩
  simp only [wholeF, Ex.v]; grind
theorem w_le_v {e : Ex} (he : e.ok) : (e.w : Rat) ≤ e.v ∧ e.v < (e.w : Rat) + 1 := by
  have := ok_bounds he; unfold Ex.v; grind
theorem w_ge {e : Ex} (he : e.ok) {n : Int} (hv : (n : Rat) ≤ e.v) : n ≤ e.w := by
  have := floor_v he
  have h : n ≤ e.v.floor := Rat.le_floor_iff.2 hv
  omega
/-- From one scale to another one. -/
theorem tell {as bs : List Int} {A B : Int} (ha : GoodR as A) (hb : GoodR bs B) (hl : as.length = bs.length) {e : Ex} (he : e.ok) (hw : 0 ≤ e.w) (hv : e.v ≤ (sm as : Rat)) {M : Int} (hM : e.d ≤ M) :
    (findF as e).ok as.length ∧ (findF as e).d ≤ M * A ∧ (atF bs (findF as e)).v = conv as bs e.v ∧ (atF bs (findF as e)).ok ∧ (atF bs (findF as e)).d ≤ M * A ∧ 0 ≤ (atF bs (findF as e)).w ∧ (atF bs (findF as e)).v ≤ (sm bs : Rat) := by
  obtain ⟨h1, h2, h3⟩ := findF_spec ha.pos ha.ne he hw hv
  obtain ⟨k1, k2, k3⟩ := atF_spec bs (findF as e) h1.2.2.2
  have hd : (findF as e).d ≤ M * A := by
    rw [h3]
    have := ha.gt h1.1
    have d1 : (1 : Int) ≤ e.d := by have := he.1; have := he.2; omega
    exact Int.mul_le_mul hM this.2 (by omega) (by omega)
  have hc : (atF bs (findF as e)).v = conv as bs e.v := by rw [k1, ← conv_pv hl ha.pos hb.pos h1, h2]
  have hp := pv_bounds hb.pos (hl ▸ h1 : (findF as e).ok bs.length)
  refine ⟨h1, hd, hc, k2, Int.le_trans k3 hd, w_ge k2 ?_, ?_⟩
  · rw [k1]; have := hp.2.2.1; grind
  · rw [k1]; exact hp.2.2.2
theorem lessF_spec {a b : Ex} (ha : a.ok) (hb : b.ok) {M N : Int} (hM : a.d ≤ M) (hN : b.d ≤ N) : (lessF a b).v = a.v - b.v ∧ (lessF a b).ok ∧ (lessF a b).d ≤ M * N := by
  have a1 : (1 : Int) ≤ a.d := by have := ha.1; have := ha.2; omega
  have b1 : (1 : Int) ≤ b.d := by have := hb.1; have := hb.2; omega
  have ab : 1 ≤ a.d * b.d := by have := Int.mul_le_mul a1 b1 (by omega) (by omega); omega
  obtain ⟨h1, h2, h3, _⟩ := ofF_spec (a.w - b.w) (a.n * b.d - b.n * a.d) (a.d * b.d) ab
  refine ⟨?_, h2, ?_⟩
  · unfold lessF; rw [h1]
    have x := one_le a1; have y := one_le b1
    simp only [Ex.v, Rat.intCast_sub, Rat.intCast_mul]
    have : (a.d : Rat) * (b.d : Rat) ≠ 0 := by
      have := Rat.mul_pos (a := (a.d : Rat)) (b := (b.d : Rat)) (by grind) (by grind)
      grind
    grind
  · have := Int.mul_le_mul hM hN (by omega) (by omega)
    exact Int.le_trans h3 this
theorem plusF_spec {a : Ex} (ha : a.ok) (n : Int) : (plusF a n).ok ∧ (plusF a n).v = a.v + (n : Rat) ∧ (plusF a n).d = a.d := by
  refine ⟨ha, ?_, rfl⟩
  simp only [plusF, Ex.v, Rat.intCast_add]; grind
/-- The three scales of a vessel. -/
structure GV (hs vs ds : List Int) : Prop where
  h : GoodR hs 1000
  v : GoodR vs 100000
  d : GoodR ds 20000
  hv : hs.length = vs.length
  hd : hs.length = ds.length
/-- 0 for what is less. -/
def clipF (e : Ex) : Ex := if e.w < 0 then wholeF 0 else e
def timeF (hs ds : List Int) (lv : Int) : Ex := atF ds (findF hs (wholeF lv))
def afterF (hs ds : List Int) (lv m : Int) : Pl := findF ds (clipF (plusF (timeF hs ds lv) (-m)))
def runF (hs vs ds : List Int) (lv m : Int) : Ex := lessF (timeF hs vs lv) (atF vs (afterF hs ds lv m))
def restF (hs vs : List Int) (lv : Int) (c : Ex) : Ex := lessF (timeF hs vs lv) c
def untilF (hs vs ds : List Int) (lv : Int) (c : Ex) : Ex := lessF (timeF hs ds lv) (atF ds (findF vs (restF hs vs lv c)))
theorem clipF_spec {e : Ex} (he : e.ok) {M : Int} (hM : e.d ≤ M) (h1 : 1 ≤ M) : (clipF e).ok ∧ 0 ≤ (clipF e).w ∧ (clipF e).v = (if e.v ≤ 0 then 0 else e.v) ∧ (clipF e).d ≤ M := by
  have hw := w_le_v he
  unfold clipF
  by_cases h : e.w < 0
  · rw [if_pos h]
    have h2 : (e.w : Rat) + 1 ≤ 0 := by have := castLe (show e.w + 1 ≤ 0 by omega); rwa [Rat.intCast_add] at this
    refine ⟨(wholeF_ok 0).1, by simp [wholeF], ?_, by simpa [wholeF] using h1⟩
    rw [(wholeF_ok 0).2, if_pos (by grind)]; simp
  · rw [if_neg h]
    refine ⟨he, by omega, ?_, hM⟩
    have h2 : (0 : Rat) ≤ (e.w : Rat) := by have := castLe (show 0 ≤ e.w by omega); simpa using this
    by_cases h3 : e.v ≤ 0
    · rw [if_pos h3]; grind
    · rw [if_neg h3]
/-- The emptying time (or the content) of a level. -/
theorem timeF_spec {hs bs : List Int} {B : Int} (ha : GoodR hs 1000) (hb : GoodR bs B) (hl : hs.length = bs.length) {lv : Int} (h0 : 0 ≤ lv) (h1 : lv ≤ sm hs) :
    (findF hs (wholeF lv)).ok hs.length ∧ (findF hs (wholeF lv)).d ≤ 1000 ∧ (timeF hs bs lv).v = conv hs bs (lv : Rat) ∧ (timeF hs bs lv).ok ∧ (timeF hs bs lv).d ≤ 1000 ∧ 0 ≤ (timeF hs bs lv).w ∧ (timeF hs bs lv).v ≤ (sm bs : Rat) := by
  have hw := wholeF_ok lv
  have := tell ha hb hl hw.1 (by simpa [wholeF] using h0) (by rw [hw.2]; exact castLe h1) (M := 1) (by simp [wholeF])
  rw [hw.2] at this
  simpa [timeF] using this
theorem afterF_spec {hs ds : List Int} (ha : GoodR hs 1000) (hb : GoodR ds 20000) (hl : hs.length = ds.length) {lv : Int} (h0 : 0 ≤ lv) (h1 : lv ≤ sm hs) {m : Int} (hm : 0 ≤ m) :
    (clipF (plusF (timeF hs ds lv) (-m))).ok ∧ 0 ≤ (clipF (plusF (timeF hs ds lv) (-m))).w ∧ (clipF (plusF (timeF hs ds lv) (-m))).v = (if conv hs ds (lv : Rat) ≤ (m : Rat) then 0 else conv hs ds (lv : Rat) - (m : Rat)) ∧ (clipF (plusF (timeF hs ds lv) (-m))).d ≤ 1000 ∧ (clipF (plusF (timeF hs ds lv) (-m))).v ≤ (sm ds : Rat) := by
  obtain ⟨_, _, t1, t2, t3, t4, t5⟩ := timeF_spec ha hb hl h0 h1
  obtain ⟨p1, p2, p3⟩ := plusF_spec t2 (-m)
  obtain ⟨c1, c2, c3, c4⟩ := clipF_spec p1 (by rw [p3]; exact t3) (by decide)
  have e : (plusF (timeF hs ds lv) (-m)).v = conv hs ds (lv : Rat) - (m : Rat) := by rw [p2, t1, Rat.intCast_neg]; grind
  have m0 : (0 : Rat) ≤ (m : Rat) := by have := castLe hm; simpa using this
  have s0 : (0 : Rat) ≤ (sm ds : Rat) := by have := castLe hb.pos.sum; simpa using this
  rw [e] at c3
  have c5 : (clipF (plusF (timeF hs ds lv) (-m))).v = (if conv hs ds (lv : Rat) ≤ (m : Rat) then 0 else conv hs ds (lv : Rat) - (m : Rat)) := by
    rw [c3]
    by_cases h : conv hs ds (lv : Rat) ≤ (m : Rat)
    · rw [if_pos h, if_pos (by grind)]
    · rw [if_neg h, if_neg (by grind)]
  refine ⟨c1, c2, c5, c4, ?_⟩
  rw [c5]
  rw [t1] at t5
  split <;> grind
/-- The minutes of the surface some minutes after a level. -/
def leftF (hs ds : List Int) (lv m : Int) : Rat := if conv hs ds (lv : Rat) ≤ (m : Rat) then 0 else conv hs ds (lv : Rat) - (m : Rat)
theorem leftF_bd {hs ds : List Int} (ha : GoodR hs 1000) (hb : GoodR ds 20000) (hl : hs.length = ds.length) {lv : Int} (h0 : 0 ≤ lv) (h1 : lv ≤ sm hs) {m : Int} (hm : 0 ≤ m) :
    0 ≤ leftF hs ds lv m ∧ leftF hs ds lv m ≤ conv hs ds (lv : Rat) ∧ leftF hs ds lv m ≤ (sm ds : Rat) := by
  have hbd := conv_bounds hl ha.pos hb.pos (x := (lv : Rat)) (by have := castLe h0; simpa using this) (castLe h1)
  have m0 : (0 : Rat) ≤ (m : Rat) := by have := castLe hm; simpa using this
  unfold leftF
  split <;> grind
theorem placeF_spec {hs ds bs : List Int} {B : Int} (ha : GoodR hs 1000) (hb : GoodR ds 20000) (hl : hs.length = ds.length) (hc : GoodR bs B) (hl2 : ds.length = bs.length) {lv : Int} (h0 : 0 ≤ lv) (h1 : lv ≤ sm hs) {m : Int} (hm : 0 ≤ m) :
    (afterF hs ds lv m).ok ds.length ∧ (afterF hs ds lv m).d ≤ 20000000 ∧ (atF bs (afterF hs ds lv m)).v = conv ds bs (leftF hs ds lv m) ∧ (atF bs (afterF hs ds lv m)).ok ∧ (atF bs (afterF hs ds lv m)).d ≤ 20000000 ∧ 0 ≤ (atF bs (afterF hs ds lv m)).w ∧ (atF bs (afterF hs ds lv m)).v ≤ (sm bs : Rat) := by
  obtain ⟨c1, c2, c3, c4, c5⟩ := afterF_spec ha hb hl h0 h1 hm
  have h := tell hb hc hl2 c1 c2 c5 c4
  rw [c3] at h
  exact h
theorem GV.sums {hs vs ds : List Int} (h : GV hs vs ds) : sm hs ≤ 24000 ∧ sm vs ≤ 2400000 ∧ sm ds ≤ 480000 := by
  have key : ∀ (l : List Int) (B : Int), 0 ≤ B → (∀ a, a ∈ l → a ≤ B) → sm l ≤ l.length * B := by
    intro l B hB
    induction l with
    | nil => intro _; simp [sm]
    | cons a l ih =>
      intro hl
      have h1 := ih (fun b hb => hl b (by simp [hb]))
      have h2 := hl a (by simp)
      simp only [sm, List.length_cons, Int.natCast_add, Int.add_mul]
      simp; omega
  have a1 := key hs 1000 (by decide) h.h.le
  have a2 := key vs 100000 (by decide) h.v.le
  have a3 := key ds 20000 (by decide) h.d.le
  have := h.h.ln; have := h.v.ln; have := h.d.ln
  exact ⟨by omega, by omega, by omega⟩
theorem w_le_v' {e : Ex} (he : e.ok) {n : Int} (hv : e.v ≤ (n : Rat)) : e.w ≤ n := by
  have := w_le_v he
  exact Rat.intCast_le_intCast.1 (Rat.le_trans this.1 hv)
/-- What runs out. -/
theorem runF_spec {hs vs ds : List Int} (h : GV hs vs ds) {lv : Int} (h0 : 0 ≤ lv) (h1 : lv ≤ sm hs) {m : Int} (hm : 0 ≤ m) :
    (runF hs vs ds lv m).v = conv hs vs (lv : Rat) - conv ds vs (leftF hs ds lv m) ∧ (runF hs vs ds lv m).ok ∧ (runF hs vs ds lv m).d ≤ 20000000000 ∧ 0 ≤ (runF hs vs ds lv m).w ∧ (runF hs vs ds lv m).w ≤ 2400000 := by
  have hdv : ds.length = vs.length := h.hd.symm.trans h.hv
  obtain ⟨_, _, t1, t2, t3, t4, t5⟩ := timeF_spec h.h h.v h.hv h0 h1
  obtain ⟨_, _, p1, p2, p3, p4, p5⟩ := placeF_spec h.h h.d h.hd h.v hdv h0 h1 hm
  obtain ⟨l1, l2, l3⟩ := lessF_spec t2 p2 t3 p3
  have hS := h.sums
  have hbd := conv_bounds h.hd h.h.pos h.d.pos (x := (lv : Rat)) (by have := castLe h0; simpa using this) (castLe h1)
  have hL := leftF_bd h.h h.d h.hd h0 h1 hm
  have hcc := conv_conv h.hd hdv h.h.pos h.d.pos h.v.pos (x := (lv : Rat)) (by have := castLe h0; simpa using this) (castLe h1)
  have hmono := (conv_le_iff hdv h.d.pos h.v.pos hL.1 hL.2.2 hbd.1 hbd.2).2 hL.2.1
  have hnn := conv_bounds hdv h.d.pos h.v.pos hL.1 hL.2.2
  rw [hcc] at hmono
  have e : (runF hs vs ds lv m).v = conv hs vs (lv : Rat) - conv ds vs (leftF hs ds lv m) := by unfold runF; rw [l1, t1, p1]
  refine ⟨e, l2, l3, w_ge l2 (by show ((0 : Int) : Rat) ≤ (runF hs vs ds lv m).v; rw [e]; grind), ?_⟩
  have : (runF hs vs ds lv m).v ≤ ((sm vs : Int) : Rat) := by rw [e, ← t1]; grind
  have := w_le_v' l2 this
  exact Int.le_trans this hS.2.1
/-- What is left when a volume has run out. -/
theorem restF_spec {hs vs : List Int} (ha : GoodR hs 1000) (hb : GoodR vs 100000) (hl : hs.length = vs.length) {lv : Int} (h0 : 0 ≤ lv) (h1 : lv ≤ sm hs) {c : Ex} (hc : c.ok) (hd : c.d ≤ 1000) (h2 : 0 ≤ c.w) :
    (restF hs vs lv c).v = conv hs vs (lv : Rat) - c.v ∧ (restF hs vs lv c).ok ∧ (restF hs vs lv c).d ≤ 1000000 ∧ (restF hs vs lv c).v ≤ (sm vs : Rat) := by
  obtain ⟨_, _, t1, t2, t3, t4, t5⟩ := timeF_spec ha hb hl h0 h1
  obtain ⟨l1, l2, l3⟩ := lessF_spec t2 hc t3 hd
  have e : (restF hs vs lv c).v = conv hs vs (lv : Rat) - c.v := by unfold restF; rw [l1, t1]
  have cw := w_le_v hc
  have c0 : (0 : Rat) ≤ (c.w : Rat) := by have := castLe h2; simpa using this
  refine ⟨e, l2, l3, ?_⟩
  rw [e, ← t1]; grind
theorem untilF_spec {hs vs ds : List Int} (h : GV hs vs ds) {lv : Int} (h0 : 0 ≤ lv) (h1 : lv ≤ sm hs) {c : Ex} (hc : c.ok) (hd : c.d ≤ 1000) (h2 : 0 ≤ c.w) (h3 : 0 ≤ (restF hs vs lv c).w) :
    (findF vs (restF hs vs lv c)).ok vs.length ∧ (findF vs (restF hs vs lv c)).d ≤ 100000000000 ∧ (atF ds (findF vs (restF hs vs lv c))).ok ∧ (atF ds (findF vs (restF hs vs lv c))).d ≤ 100000000000 ∧ 0 ≤ (atF ds (findF vs (restF hs vs lv c))).w ∧ (atF ds (findF vs (restF hs vs lv c))).w ≤ 480000 ∧
      (untilF hs vs ds lv c).v = conv hs ds (lv : Rat) - conv vs ds (conv hs vs (lv : Rat) - c.v) ∧ (untilF hs vs ds lv c).ok := by
  have hvd : vs.length = ds.length := h.hv.symm.trans h.hd
  obtain ⟨r1, r2, r3, r4⟩ := restF_spec h.h h.v h.hv h0 h1 hc hd h2
  obtain ⟨q1, q2, q3, q4, q5, q6, q7⟩ := tell h.v h.d hvd r2 h3 r4 r3
  obtain ⟨_, _, t1, t2, t3, t4, t5⟩ := timeF_spec h.h h.d h.hd h0 h1
  obtain ⟨l1, l2, l3⟩ := lessF_spec t2 q4 t3 q5
  have hS := h.sums
  have := w_le_v' q4 q7
  refine ⟨q1, q2, q4, q5, q6, by omega, ?_, l2⟩
  unfold untilF; rw [l1, t1, q3, r1]
end Go.Proofs.YtlhfclpbodfmcaaGreatDoor.Vm
