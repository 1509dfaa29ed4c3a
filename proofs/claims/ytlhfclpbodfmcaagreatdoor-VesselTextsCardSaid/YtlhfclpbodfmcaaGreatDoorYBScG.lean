/- A part of the proof: ScG. -/
import Derived.Test.YtlhfclpbodfmcaaGreatDoorYBVm
import Derived.Test.YtlhfclpbodfmcaaGreatDoorYBScA
import Derived.Test.YtlhfclpbodfmcaaGreatDoorYBScE
namespace Go.Proofs.YtlhfclpbodfmcaaGreatDoor.Pr
open Go.RowKit Go.Proofs.YtlhfclpbodfmcaaGreatDoorW.PrintWords Go.Proofs.YtlhfclpbodfmcaaGreatDoorW.PrintLast Go.Proofs.YtlhfclpbodfmcaaGreatDoorW.PrintMore
open Go.Proofs.YtlhfclpbodfmcaaGreatDoor.Vm
theorem w64 {n : Int} (h0 : -9223372036854775808 ≤ n) (h1 : n ≤ 9223372036854775807) : wrap64 n = n := by unfold wrap64; omega
/-- A number as a Go value. -/
def exV (e : Ex) : Value := .agg #[.int .i64 e.w, .int .i64 e.n, .int .i64 e.d]
def plV (p : Pl) : Value := .agg #[.int .i64 (p.r : Int), .int .i64 p.n, .int .i64 p.d]
theorem gcd_loop (x0 x1 x2 x7 : Int) : ∀ (b a k : Nat), b + 1 ≤ k → (a ≠ 0 ∨ b ≠ 0) →
    vessel_of.l0 k x0 x1 x2 x7 (a : Int) (b : Int) = some (wrap64 (x0 + x7), wrap64 (Int.tdiv x1 (Nat.gcd a b : Int)), wrap64 (Int.tdiv x2 (Nat.gcd a b : Int))) := by
  intro b
  induction b using Nat.strongRecOn with
  | _ b ih =>
    intro a k hk hz
    obtain ⟨k, rfl⟩ : ∃ m, k = m + 1 := ⟨k - 1, by omega⟩
    simp only [vessel_of.l0]
    by_cases hb : b = 0
    · subst hb
      rw [if_pos (by simp), if_neg (by omega), Nat.gcd_zero_right]
    · rw [if_neg (by omega)]
      have e : Int.tmod (a : Int) (b : Int) = ((a % b : Nat) : Int) := (Int.ofNat_tmod a b).symm
      rw [e, ih (a % b) (Nat.mod_lt _ (by omega)) b k (by have := Nat.mod_lt a (show 0 < b by omega); omega) (.inl hb)]
      rw [Nat.gcd_comm b (a % b), ← Nat.gcd_rec, Nat.gcd_comm]
theorem of_ok (m n d : Int) (hd : 1 ≤ d) (hd2 : d ≤ 4611686018427387904) (hm : -2305843009213693952 ≤ m ∧ m ≤ 2305843009213693952) (hn : -4611686018427387904 ≤ n ∧ n ≤ 4611686018427387904) :
    vessel_of.f (d.toNat + 4) m n d = some ((ofF m n d).w, (ofF m n d).n, (ofF m n d).d) := by
  have h0 : 0 ≤ n % d := Int.emod_nonneg _ (by omega)
  have h1 : n % d < d := Int.emod_lt_of_pos _ (by omega)
  have hq := Int.emod_add_mul_ediv n d
  have hg := gcd_pos' (a := n % d) hd
  have main : ∀ x7, x7 = n / d → vessel_of.j0 (d.toNat + 4) m (n % d) d x7 = some ((ofF m n d).w, (ofF m n d).n, (ofF m n d).d) := by
    intro x7 hx
    subst hx
    obtain ⟨a, ha⟩ := Int.eq_ofNat_of_zero_le h0
    obtain ⟨b, hb⟩ := Int.eq_ofNat_of_zero_le (show 0 ≤ d by omega)
    have hl := gcd_loop m (n % d) d (n / d) b a (d.toNat + 3) (by omega) (.inr (by omega))
    rw [← ha, ← hb] at hl
    simp only [vessel_of.j0]
    rw [hl]
    have hgg : (Nat.gcd a b : Int) = (Int.gcd (n % d) d : Int) := by rw [ha, hb]; simp [Int.gcd]
    rw [hgg]
    unfold ofF
    generalize (Int.gcd (n % d) d : Int) = g at *
    have t1 : Int.tdiv (n % d) g = (n % d) / g := Int.tdiv_eq_ediv_of_nonneg h0
    have t2 : Int.tdiv d g = d / g := Int.tdiv_eq_ediv_of_nonneg (by omega)
    rw [t1, t2]
    have q1 : (n % d) / g ≤ n % d := Int.ediv_le_self _ h0
    have q2 : d / g ≤ d := Int.ediv_le_self _ (by omega)
    have q3 : 0 ≤ (n % d) / g := Int.ediv_nonneg h0 (by omega)
    have q4 : 0 ≤ d / g := Int.ediv_nonneg (by omega) (by omega)
    have q5 : -4611686018427387904 ≤ n / d ∧ n / d ≤ 4611686018427387904 := by
      constructor
      · apply Int.le_ediv_of_mul_le (by omega)
        omega
      · apply Int.ediv_le_of_le_mul (by omega)
        omega
    rw [w64 (by omega) (by omega), w64 (by omega) (by omega), w64 (by omega) (by omega)]
  unfold vessel_of.f
  rw [if_neg (by omega)]
  have hdn : 0 ≤ Int.tmod n d ∨ Int.tmod n d < 0 := by omega
  by_cases hn0 : 0 ≤ n
  · have t1 : Int.tmod n d = n % d := Int.tmod_eq_emod_of_nonneg hn0
    have t2 : Int.tdiv n d = n / d := Int.tdiv_eq_ediv_of_nonneg hn0
    rw [t1, t2, if_neg (by omega)]
    refine main _ (w64 ?_ ?_)
    · have := Int.ediv_nonneg hn0 (show 0 ≤ d by omega); omega
    · have := Int.ediv_le_self d hn0; omega
  · -- below 0
    have e1 : Int.tdiv n d = -((-n) / d) := by
      rw [← Int.tdiv_eq_ediv_of_nonneg (show 0 ≤ -n by omega), Int.neg_tdiv]; omega
    have e2 : Int.tmod n d = -((-n) % d) := by
      rw [← Int.tmod_eq_emod_of_nonneg (show 0 ≤ -n by omega), Int.neg_tmod]; omega
    have f0 : 0 ≤ (-n) % d := Int.emod_nonneg _ (by omega)
    have f1 : (-n) % d < d := Int.emod_lt_of_pos _ (by omega)
    have fq := Int.emod_add_mul_ediv (-n) d
    have g0 : 0 ≤ (-n) / d := Int.ediv_nonneg (by omega) (by omega)
    have g1 : (-n) / d ≤ -n := Int.ediv_le_self d (by omega)
    by_cases hz : (-n) % d = 0
    · rw [e1, e2, hz, if_neg (by omega)]
      have : n / d = -((-n) / d) ∧ n % d = 0 := by
        have hh : n = d * (-((-n) / d)) := by rw [Int.mul_neg]; omega
        constructor
        · conv => lhs; rw [hh]
          exact Int.mul_ediv_cancel_left _ (by omega)
        · rw [hh]; exact Int.mul_emod_right _ _
      have hm2 := main (-((-n) / d)) this.1.symm
      rw [this.2] at hm2
      rw [show (-(0 : Int)) = 0 from rfl, w64 (by omega) (by omega)]
      exact hm2
    · have : n / d = -((-n) / d) - 1 ∧ n % d = d - (-n) % d := by
        have hh : n = (d - (-n) % d) + d * (-((-n) / d) - 1) := by rw [Int.mul_sub, Int.mul_neg, Int.mul_one]; omega
        constructor
        · conv => lhs; rw [hh]
          rw [Int.add_mul_ediv_left _ _ (by omega), Int.ediv_eq_zero_of_lt (by omega) (by omega)]; omega
        · conv => lhs; rw [hh]
          rw [Int.add_mul_emod_self_left, Int.emod_eq_of_lt (by omega) (by omega)]
      rw [e1, e2, if_pos (by omega)]
      have hm2 := main (-((-n) / d) - 1) this.1.symm
      rw [this.2] at hm2
      rw [w64 (n := -((-n) / d)) (by omega) (by omega), w64 (n := -((-n) / d) - 1) (by omega) (by omega), w64 (n := -(-n % d) + d) (by omega) (by omega)]
      rw [show -(-n % d) + d = d - (-n) % d by omega]
      exact hm2
/-- of, as the plain law has it. -/
theorem of_good (m n d : Int) (w : World) (hd : 1 ≤ d) (hd2 : d ≤ 4611686018427387904) (hm : -2305843009213693952 ≤ m ∧ m ≤ 2305843009213693952) (hn : -4611686018427387904 ≤ n ∧ n ≤ 4611686018427387904) :
    Calls Tryz.prog 55 #[.int .i64 m, .int .i64 n, .int .i64 d] w fun e w' => e = .returned (exV (ofF m n d)) ∧ Below w.heap.size w w' :=
  vessel_of.calls _ _ _ _ _ _ _ w (of_ok m n d hd hd2 hm hn)
theorem _root_.Go.Proofs.YtlhfclpbodfmcaaGreatDoor.Vm.GoodR.sum_le {xs : List Int} {B : Int} (h : GoodR xs B) : ∀ {r : Nat}, sm (xs.take r) ≤ r * B := by
  have hB : 0 ≤ B := by
    obtain ⟨a, l, e⟩ := List.exists_cons_of_length_pos (show 0 < xs.length by have := h.ne; omega)
    have h1 := h.pos a (by rw [e]; simp); have h2 := h.le a (by rw [e]; simp); omega
  have key : ∀ (l : List Int), (∀ a, a ∈ l → a ≤ B) → ∀ r : Nat, sm (l.take r) ≤ r * B := by
    intro l
    induction l with
    | nil => intro _ r; simp [sm]; exact Int.mul_nonneg (by omega) hB
    | cons a l ih =>
      intro hl r
      rcases r with _ | r
      · simp [sm]
      · rw [List.take_succ_cons]
        simp only [sm]
        have h1 := ih (fun b hb => hl b (by simp [hb])) r
        have h2 := hl a (by simp)
        have : ((r + 1 : Nat) : Int) * B = r * B + B := by rw [Int.natCast_add, Int.add_mul]; simp
        omega
  intro r
  exact key xs h.le r
theorem _root_.Go.Proofs.YtlhfclpbodfmcaaGreatDoor.Vm.GoodR.all_le {xs : List Int} {B : Int} (h : GoodR xs B) (hB : B ≤ 100000) (r : Nat) : 0 ≤ sm (xs.take r) ∧ sm (xs.take r) ≤ 2400000 := by
  refine ⟨(h.pos.take r).sum, ?_⟩
  by_cases hr : r ≤ 24
  · have h1 := h.sum_le (r := r)
    have h2 : (r : Int) * B ≤ (r : Int) * 100000 := Int.mul_le_mul_of_nonneg_left hB (by omega)
    omega
  · have h1 := h.sum_le (r := 24)
    have hl := h.ln
    rw [List.take_of_length_le (by omega)] at h1 ⊢
    have h2 : ((24 : Nat) : Int) * B ≤ ((24 : Nat) : Int) * 100000 := Int.mul_le_mul_of_nonneg_left hB (by omega)
    omega
theorem rd_gt (xs : List Int) (i : Nat) : rd xs (i : Int) = gt xs i := by simp [rd, Vm.gt]
/-- The sums in memory are the plain ones. -/
theorem sums_plain : ∀ (l : List Int) (s : Int) (i : Nat), i ≤ l.length → (∀ j, -9000000000000000000 ≤ s + sm (l.take j) ∧ s + sm (l.take j) ≤ 9000000000000000000) → rd (sums s l) (i : Int) = s + sm (l.take i)
  | [], s, i, hi, h => by
    have : i = 0 := by simpa using hi
    subst this; simp [rd, sums, sm]
  | a :: l, s, 0, hi, h => by simp [rd, sums, sm]
  | a :: l, s, i + 1, hi, h => by
    have h1 := h 1
    simp [sm] at h1
    have hw : wrap64 (s + a) = s + a := w64 (by omega) (by omega)
    have e : rd (sums s (a :: l)) ((i + 1 : Nat) : Int) = rd (sums (s + a) l) (i : Int) := by
      simp [rd, sums, hw]
    rw [e, sums_plain l (s + a) i (by simpa using hi) (fun j => by
      have := h (j + 1); rw [List.take_succ_cons] at this; simp only [sm] at this; omega), List.take_succ_cons]
    simp only [sm]; omega
theorem _root_.Go.Proofs.YtlhfclpbodfmcaaGreatDoor.Vm.GoodR.rd {xs : List Int} {B : Int} (h : GoodR xs B) (hB : B ≤ 100000) {i : Nat} (hi : i ≤ xs.length) : rd (sums 0 xs) (i : Int) = sm (xs.take i) := by
  rw [sums_plain xs 0 i hi (fun j => by have := h.all_le hB j; omega)]; omega
theorem rd_sums_len {xs : List Int} (i : Nat) (hi : i ≤ xs.length) : (i : Int) < ((sums 0 xs).length : Int) := by rw [sums_length]; omega
theorem rank_lt {xs : List Int} {B : Int} (hg : GoodR xs B) (hB : B ≤ 100000) (x : Int) : ∀ i : Nat, i < rk x (mids 0 xs) → rd (sums 0 xs) ((i : Int) + 1) ≤ x := by
  intro i hi
  have h1 := rk_le x (mids 0 xs)
  have h2 := mids_length xs 0
  have h3 := rk_lt x (mids 0 xs) i hi
  rw [mids_gt xs 0 i (by omega)] at h3
  have h4 := hg.rd hB (i := i + 1) (by omega)
  rw [show ((i + 1 : Nat) : Int) = (i : Int) + 1 by omega] at h4
  rw [h4]; omega
theorem rank_ge {xs : List Int} {B : Int} (hg : GoodR xs B) (hB : B ≤ 100000) (x : Int) : ∀ i : Nat, rk x (mids 0 xs) ≤ i → i + 1 < xs.length → x < rd (sums 0 xs) ((i : Int) + 1) := by
  intro i hi hl
  have h2 := mids_length xs 0
  have h3 := rk_at x (mids 0 xs) (by omega)
  rw [mids_gt xs 0 _ (by omega)] at h3
  have h5 := sm_take_le hg.pos (show rk x (mids 0 xs) + 1 ≤ i + 1 by omega)
  have h4 := hg.rd hB (i := i + 1) (by omega)
  rw [show ((i + 1 : Nat) : Int) = (i : Int) + 1 by omega] at h4
  rw [h4]; omega
theorem mul_bd {n a d B : Int} (h0 : 0 ≤ n) (h1 : n ≤ d) (a0 : 0 ≤ a) (a1 : a ≤ B) : 0 ≤ n * a ∧ n * a ≤ d * B := by
  refine ⟨Int.mul_nonneg h0 a0, ?_⟩
  have := Int.mul_le_mul h1 a1 a0 (by omega)
  exact this
theorem w_le {e : Ex} (he : e.ok) {n : Int} (hv : e.v ≤ (n : Rat)) : e.w ≤ n := by
  have := ok_bounds he
  have h : (e.w : Rat) ≤ (n : Rat) := by unfold Ex.v at hv; grind
  exact Rat.intCast_le_intCast.1 h
/-- Which place find comes to. -/
theorem find_vals {xs : List Int} {B : Int} (hg : GoodR xs B) (hB : B ≤ 100000) {e : Ex} (he : e.ok) (hw : 0 ≤ e.w) (hv : e.v ≤ (sm xs : Rat)) (hd : e.d * B ≤ 4611686018427387904) :
    rk e.w (mids 0 xs) < xs.length ∧ wrap64 (wrap64 (wrap64 (e.w + wrap64 (-(rd (sums 0 xs) (rk e.w (mids 0 xs) : Int)))) * e.d) + e.n) = (findF xs e).n ∧ wrap64 (e.d * rd xs (rk e.w (mids 0 xs) : Int)) = (findF xs e).d := by
  obtain ⟨⟨h1, h2, h3, h4⟩, _, h5⟩ := findF_spec hg.pos hg.ne he hw hv
  have hr : (findF xs e).r = rk e.w (mids 0 xs) := rfl
  have hwn := w_le he hv
  have hall := hg.all_le hB 24
  have hln := hg.ln
  rw [List.take_of_length_le (by omega)] at hall
  rw [hr] at h1
  have hgt := hg.gt h1
  have h6 := hg.rd hB (i := rk e.w (mids 0 xs)) (by omega)
  have h7 := hg.all_le hB (rk e.w (mids 0 xs))
  have hle := (rank_spec hg.pos hg.ne e.w hw).2.1
  have hn : (findF xs e).n = (e.w - sm (xs.take (rk e.w (mids 0 xs)))) * e.d + e.n := rfl
  have hdd : (findF xs e).d = e.d * gt xs (rk e.w (mids 0 xs)) := rfl
  have e0 := he.1
  have e1 := he.2
  have hb := mul_bd (n := e.d) (d := e.d) (by omega) (Int.le_refl _) (show 0 ≤ gt xs (rk e.w (mids 0 xs)) by omega) hgt.2
  have hm := Int.mul_nonneg (show 0 ≤ e.w - sm (xs.take (rk e.w (mids 0 xs))) by omega) (show 0 ≤ e.d by omega)
  refine ⟨h1, ?_, ?_⟩
  · rw [h6, hn]
    rw [hn, hdd] at h3
    generalize sm (xs.take (rk e.w (mids 0 xs))) = S at *
    rw [w64 (n := -S) (by omega) (by omega), show e.w + -S = e.w - S by omega, w64 (n := e.w - S) (by omega) (by omega)]
    generalize (e.w - S) * e.d = z at *
    rw [w64 (n := z) (by omega) (by omega), w64 (by omega) (by omega)]
  · rw [rd_gt, hdd, w64 (by omega) (by omega)]
theorem height_at.good (g : Nat) (xs : List Int) (B : Int) (p : Pl) (w : World) (hs : Sc w g xs (sums 0 xs)) (hg : GoodR xs B) (hB : B ≤ 100000) (hp : p.ok xs.length) (hd : p.d * B ≤ 4611686018427387904) (hd2 : p.d ≤ 4611686018427387904) :
    Calls Tryz.prog 42 #[.pointer (some ⟨g, 0, none⟩), plV p] w fun e w' => e = .returned (exV (atF xs p)) ∧ Below w.heap.size w w' := by
  obtain ⟨h1, h2, h3, h4⟩ := hp
  have hgt := hg.gt h1
  have hb := mul_bd h2 h3 (show 0 ≤ gt xs p.r by omega) hgt.2
  have ha := hg.all_le hB p.r
  refine height_at.calls (p.d.toNat + 4) g xs (sums 0 xs) (p.r : Int) p.n p.d _ _ _ w hs (by omega) (by omega) (rd_sums_len p.r (by omega)) ?_
  rw [hg.rd hB (by omega), rd_gt, w64 (by omega) (by omega)]
  exact of_ok _ _ _ h4 hd2 (by omega) (by omega)
theorem height_find.good (g : Nat) (xs : List Int) (B : Int) (e : Ex) (w : World) (hs : Sc w g xs (sums 0 xs)) (hg : GoodR xs B) (hB : B ≤ 100000) (he : e.ok) (hw : 0 ≤ e.w) (hv : e.v ≤ (sm xs : Rat)) (hd : e.d * B ≤ 4611686018427387904) :
    Calls Tryz.prog 76 #[.pointer (some ⟨g, 0, none⟩), exV e] w fun e' w' => e' = .returned (plV (findF xs e)) ∧ Below w.heap.size w w' := by
  obtain ⟨h1, h2, h3⟩ := find_vals hg hB he hw hv hd
  have h := height_find.calls g xs (sums 0 xs) e.w e.n e.d (rk e.w (mids 0 xs)) w hs (by have := hg.ln; omega) (sums_length _ _) h1 (rank_lt hg hB e.w) (rank_ge hg hB e.w)
  rw [h2, h3] at h
  exact h
theorem minute_at.good (g : Nat) (xs : List Int) (B : Int) (p : Pl) (w : World) (hs : Sc w g xs (sums 0 xs)) (hg : GoodR xs B) (hB : B ≤ 100000) (hp : p.ok xs.length) (hd : p.d * B ≤ 4611686018427387904) (hd2 : p.d ≤ 4611686018427387904) :
    Calls Tryz.prog 75 #[.pointer (some ⟨g, 0, none⟩), plV p] w fun e w' => e = .returned (exV (atF xs p)) ∧ Below w.heap.size w w' := by
  obtain ⟨h1, h2, h3, h4⟩ := hp
  have hgt := hg.gt h1
  have hb := mul_bd h2 h3 (show 0 ≤ gt xs p.r by omega) hgt.2
  have ha := hg.all_le hB p.r
  refine minute_at.calls (p.d.toNat + 4) g xs (sums 0 xs) (p.r : Int) p.n p.d _ _ _ w hs (by omega) (by omega) (rd_sums_len p.r (by omega)) ?_
  rw [hg.rd hB (by omega), rd_gt, w64 (by omega) (by omega)]
  exact of_ok _ _ _ h4 hd2 (by omega) (by omega)
theorem minute_find.good (g : Nat) (xs : List Int) (B : Int) (e : Ex) (w : World) (hs : Sc w g xs (sums 0 xs)) (hg : GoodR xs B) (hB : B ≤ 100000) (he : e.ok) (hw : 0 ≤ e.w) (hv : e.v ≤ (sm xs : Rat)) (hd : e.d * B ≤ 4611686018427387904) :
    Calls Tryz.prog 47 #[.pointer (some ⟨g, 0, none⟩), exV e] w fun e' w' => e' = .returned (plV (findF xs e)) ∧ Below w.heap.size w w' := by
  obtain ⟨h1, h2, h3⟩ := find_vals hg hB he hw hv hd
  have h := minute_find.calls g xs (sums 0 xs) e.w e.n e.d (rk e.w (mids 0 xs)) w hs (by have := hg.ln; omega) (sums_length _ _) h1 (rank_lt hg hB e.w) (rank_ge hg hB e.w)
  rw [h2, h3] at h
  exact h
theorem volume_at.good (g : Nat) (xs : List Int) (B : Int) (p : Pl) (w : World) (hs : Sc w g xs (sums 0 xs)) (hg : GoodR xs B) (hB : B ≤ 100000) (hp : p.ok xs.length) (hd : p.d * B ≤ 4611686018427387904) (hd2 : p.d ≤ 4611686018427387904) :
    Calls Tryz.prog 80 #[.pointer (some ⟨g, 0, none⟩), plV p] w fun e w' => e = .returned (exV (atF xs p)) ∧ Below w.heap.size w w' := by
  obtain ⟨h1, h2, h3, h4⟩ := hp
  have hgt := hg.gt h1
  have hb := mul_bd h2 h3 (show 0 ≤ gt xs p.r by omega) hgt.2
  have ha := hg.all_le hB p.r
  refine volume_at.calls (p.d.toNat + 4) g xs (sums 0 xs) (p.r : Int) p.n p.d _ _ _ w hs (by omega) (by omega) (rd_sums_len p.r (by omega)) ?_
  rw [hg.rd hB (by omega), rd_gt, w64 (by omega) (by omega)]
  exact of_ok _ _ _ h4 hd2 (by omega) (by omega)
theorem volume_find.good (g : Nat) (xs : List Int) (B : Int) (e : Ex) (w : World) (hs : Sc w g xs (sums 0 xs)) (hg : GoodR xs B) (hB : B ≤ 100000) (he : e.ok) (hw : 0 ≤ e.w) (hv : e.v ≤ (sm xs : Rat)) (hd : e.d * B ≤ 4611686018427387904) :
    Calls Tryz.prog 53 #[.pointer (some ⟨g, 0, none⟩), exV e] w fun e' w' => e' = .returned (plV (findF xs e)) ∧ Below w.heap.size w w' := by
  obtain ⟨h1, h2, h3⟩ := find_vals hg hB he hw hv hd
  have h := volume_find.calls g xs (sums 0 xs) e.w e.n e.d (rk e.w (mids 0 xs)) w hs (by have := hg.ln; omega) (sums_length _ _) h1 (rank_lt hg hB e.w) (rank_ge hg hB e.w)
  rw [h2, h3] at h
  exact h
/-- less, as the plain law has it. -/
theorem less_good (a b : Ex) (w : World) (ha : a.ok) (hb : b.ok) (hd : a.d * b.d ≤ 4611686018427387904) (h0 : -1000000000000000000 ≤ a.w ∧ a.w ≤ 1000000000000000000) (h1 : -1000000000000000000 ≤ b.w ∧ b.w ≤ 1000000000000000000) :
    Calls Tryz.prog 39 #[exV a, exV b] w fun e w' => e = .returned (exV (lessF a b)) ∧ Below w.heap.size w w' := by
  have a1 : (1 : Int) ≤ a.d := by have := ha.1; have := ha.2; omega
  have b1 : (1 : Int) ≤ b.d := by have := hb.1; have := hb.2; omega
  have ab : 1 ≤ a.d * b.d := by have := Int.mul_le_mul a1 b1 (by omega) (by omega); omega
  have m1 := mul_bd ha.1 (show a.n ≤ a.d by have := ha.2; omega) (show 0 ≤ b.d by omega) (Int.le_refl _)
  have m2 := mul_bd hb.1 (show b.n ≤ b.d by have := hb.2; omega) (show 0 ≤ a.d by omega) (Int.le_refl _)
  have m3 : b.d * a.d = a.d * b.d := Int.mul_comm _ _
  rw [m3] at m2
  refine vessel_exact_less.calls ((a.d * b.d).toNat + 4) a.w a.n a.d b.w b.n b.d _ _ _ w ?_
  unfold vessel_exact_less.f
  rw [w64 (n := a.w - b.w) (by omega) (by omega), w64 (n := a.n * b.d) (by omega) (by omega), w64 (n := b.n * a.d) (by omega) (by omega), w64 (n := a.d * b.d) (by omega) (by omega), w64 (by omega) (by omega),
    of_ok _ _ _ ab hd (by omega) (by omega)]
  rfl
theorem plus_good (a : Ex) (n : Int) (w : World) (h : -9000000000000000000 ≤ a.w + n ∧ a.w + n ≤ 9000000000000000000) :
    Calls Tryz.prog 44 #[exV a, .int .i64 n] w fun e w' => e = .returned (exV (plusF a n)) ∧ Below w.heap.size w w' := by
  refine vessel_exact_plus.calls a.w a.n a.d n _ _ _ w ?_
  unfold vessel_exact_plus.f
  rw [w64 (by omega) (by omega)]
  rfl
theorem whole_good (n : Int) (w : World) : Calls Tryz.prog 50 #[.int .i64 n] w fun e w' => e = .returned (exV (wholeF n)) ∧ Below w.heap.size w w' :=
  vessel_whole.calls n _ _ _ w rfl
/-- The number rounded down and up. -/
def spanF (e : Ex) : Int × Int := (e.w, if e.n = 0 then e.w else e.w + 1)
def spV (p : Int × Int) : Value := .agg #[.int .i64 p.1, .int .i64 p.2]
theorem span_good (a : Ex) (w : World) (h : -9000000000000000000 ≤ a.w ∧ a.w ≤ 9000000000000000000) : Calls Tryz.prog 40 #[exV a] w fun e w' => e = .returned (spV (spanF a)) ∧ Below w.heap.size w w' := by
  refine vessel_exact_span.calls a.w a.n a.d _ _ w ?_
  unfold vessel_exact_span.f spanF
  rw [w64 (by omega) (by omega)]
  by_cases h : a.n = 0
  · rw [if_pos h, if_pos h]
  · rw [if_neg h, if_neg h]
theorem below_good (a : Ex) (n : Int) (w : World) : Calls Tryz.prog 78 #[exV a, .int .i64 n] w fun e w' => e = .returned (.bool (decide (a.w < n))) ∧ Below w.heap.size w w' :=
  vessel_exact_below.calls a.w a.n a.d n _ w rfl
/-- Is a number above a whole one? -/
def aboveF (a : Ex) (n : Int) : Bool := decide (n < a.w ∨ a.w = n ∧ 0 < a.n)
theorem above_good (a : Ex) (n : Int) (w : World) : Calls Tryz.prog 45 #[exV a, .int .i64 n] w fun e w' => e = .returned (.bool (aboveF a n)) ∧ Below w.heap.size w w' := by
  refine vessel_exact_above.calls a.w a.n a.d n _ w ?_
  unfold vessel_exact_above.f aboveF
  by_cases h1 : a.w > n
  · rw [if_pos h1, decide_eq_true (show n < a.w ∨ a.w = n ∧ 0 < a.n from .inl h1)]
  · rw [if_neg h1]
    by_cases h2 : a.w = n
    · rw [if_pos h2]
      by_cases h3 : 0 < a.n
      · rw [decide_eq_true (show n < a.w ∨ a.w = n ∧ 0 < a.n from .inr ⟨h2, h3⟩), decide_eq_true (show a.n > 0 from h3)]
      · rw [decide_eq_false (show ¬ (n < a.w ∨ a.w = n ∧ 0 < a.n) by omega), decide_eq_false (show ¬ a.n > 0 by omega)]
    · rw [if_neg h2, decide_eq_false (show ¬ (n < a.w ∨ a.w = n ∧ 0 < a.n) by omega)]
/-- The three scales of a vessel lie in memory. -/
structure VeAt (w : World) (hs vs ds : List Int) (g1 g2 g3 : Nat) : Prop where
  s1 : Sc w g1 hs (sums 0 hs)
  s2 : Sc w g2 vs (sums 0 vs)
  s3 : Sc w g3 ds (sums 0 ds)
theorem VeAt.below {w w' : World} {hs vs ds : List Int} {g1 g2 g3 : Nat} (h : VeAt w hs vs ds g1 g2 g3) (hb : Below w.heap.size w w') : VeAt w' hs vs ds g1 g2 g3 := ⟨h.s1.below hb, h.s2.below hb, h.s3.below hb⟩
theorem Sc.imp {W W' : World} {g : Nat} {xs bs : List Int} (h : Sc W g xs bs) (hp : ∀ a v, W.cell? a = some v → (∀ p, v ≠ .pointer p) → W'.cell? a = some v) : Sc W' g xs bs := by
  obtain ⟨a1, a2, c1, c2, h1, h2, h3, h4, h5, h6⟩ := h
  have key : ∀ {A : Option Addr} {n : Nat} {ys : List Int}, Kd.C (Kd.int .i64) W A n ys → Kd.C (Kd.int .i64) W' A n ys := by
    intro A n ys hc
    have r := Kd.reads_of_C (enc := Value.int .i64) (d := (0 : Int)) (h1 := fun _ => rfl) hc
    refine Kd.C_of_reads (enc := Value.int .i64) (d := (0 : Int)) (h1 := fun _ => rfl) ⟨r.1, r.2.1, fun hn => ?_⟩
    obtain ⟨ad, e, hcell⟩ := r.2.2 hn
    exact ⟨ad, e, fun j hj => hp _ _ (hcell j hj) (fun p => by simp)⟩
  exact ⟨a1, a2, c1, c2, hp _ _ h1 (fun p => by simp), hp _ _ h2 (fun p => by simp), key h3, key h4, h5, h6⟩
/-- A block of pointers is set: the scales stand. -/
theorem cell_set3 {W : World} {c t : Nat} {p1 p2 p3 : Option Addr} {x y z : Value} (hk : W.heap[c]? = some (.cells #[.pointer p1, .pointer p2, .pointer p3] t (0, 0))) (a : Addr) (v : Value) (h : W.cell? a = some v) (hv : ∀ p, v ≠ .pointer p) :
    (((W.setCell ⟨c, 0, none⟩ x).setCell ⟨c, 1, none⟩ y).setCell ⟨c, 2, none⟩ z).cell? a = some v := by
  have hb : a.block ≠ c := by
    intro e
    rcases a with ⟨b, off, fld⟩
    simp only at e
    subst e
    simp only [World.cell?, hk] at h
    cases fld with
    | none =>
      simp at h
      rcases off with _ | _ | _ | off
      · simp at h; exact hv p1 h.symm
      · simp at h; exact hv p2 h.symm
      · simp at h; exact hv p3 h.symm
      · simp at h
    | some q => simp at h
  have f : ∀ (W0 : World) (j : Nat) (u : Value), W0.cell? a = some v → (W0.setCell ⟨c, j, none⟩ u).cell? a = some v := by
    intro W0 j u h0
    have e := Below.heap_setCell W0 ⟨c, j, none⟩ u a.block (fun h => hb h)
    simpa [World.cell?, e] using h0
  exact f _ 2 z (f _ 1 y (f _ 0 x h))
theorem VeAt.set3 {W : World} {c t : Nat} {p1 p2 p3 : Option Addr} {x y z : Value} {hs vs ds : List Int} {g1 g2 g3 : Nat} (h : VeAt W hs vs ds g1 g2 g3) (hk : W.heap[c]? = some (.cells #[.pointer p1, .pointer p2, .pointer p3] t (0, 0))) :
    VeAt (((W.setCell ⟨c, 0, none⟩ x).setCell ⟨c, 1, none⟩ y).setCell ⟨c, 2, none⟩ z) hs vs ds g1 g2 g3 :=
  ⟨h.s1.imp (cell_set3 hk), h.s2.imp (cell_set3 hk), h.s3.imp (cell_set3 hk)⟩
/-- The scales of a vessel, standing whatever becomes of the blocks P. -/
def VeX (W : World) (P : Nat → Prop) (hs vs ds : List Int) (g1 g2 g3 : Nat) : Prop := ∀ W' : World, (∀ a v, ¬ P a.block → W.cell? a = some v → (∀ p, v ≠ .pointer p) → W'.cell? a = some v) → VeAt W' hs vs ds g1 g2 g3
section
variable {W W1 : World} {P P' : Nat → Prop} {hs vs ds : List Int} {g1 g2 g3 : Nat}
theorem VeX.at_ (h : VeX W P hs vs ds g1 g2 g3) : VeAt W hs vs ds g1 g2 g3 := h W (fun _ _ _ hc _ => hc)
theorem VeX.below (h : VeX W P hs vs ds g1 g2 g3) (hb : Below W.heap.size W W1) : VeX W1 P hs vs ds g1 g2 g3 := fun W' hW => h W' (fun a v hP hc hp => hW a v hP (pw_cell_below hb hc) hp)
theorem VeX.drew (h : VeX W P hs vs ds g1 g2 g3) : VeX W.drew P hs vs ds g1 g2 g3 := h.below (below_drew (Below.refl _ _))
theorem VeX.mono (h : VeX W P hs vs ds g1 g2 g3) (hp : ∀ k, P' k → P k) : VeX W P' hs vs ds g1 g2 g3 := fun W' hW => h W' (fun a v hP hc hq => hW a v (fun hk => hP (hp _ hk)) hc hq)
/-- Blocks made later are none of them. -/
theorem VeX.later (h : VeX W P hs vs ds g1 g2 g3) (hb : Below W.heap.size W W1) : VeX W1 (fun k => P k ∨ W.heap.size ≤ k) hs vs ds g1 g2 g3 :=
  fun W' hW => h W' (fun a v hP hc hp => hW a v (fun hk => by
    rcases hk with hk | hk
    · exact hP hk
    · have := World.block_lt_of_cell? W _ hc; omega) (pw_cell_below hb hc) hp)
theorem VeX.set3 {c t : Nat} {p1 p2 p3 : Option Addr} {x y z : Value} (h : VeX W P hs vs ds g1 g2 g3) (hk : W.heap[c]? = some (.cells #[.pointer p1, .pointer p2, .pointer p3] t (0, 0))) :
    VeX (((W.setCell ⟨c, 0, none⟩ x).setCell ⟨c, 1, none⟩ y).setCell ⟨c, 2, none⟩ z) P hs vs ds g1 g2 g3 :=
  fun W' hW => h W' (fun a v hP hc hp => hW a v hP (cell_set3 hk a v hc hp) hp)
/-- A block of P is set. -/
theorem VeX.setP {c j : Nat} {x : Value} (hc : P c) (h : VeX W P hs vs ds g1 g2 g3) : VeX (W.setCell ⟨c, j, none⟩ x) P hs vs ds g1 g2 g3 :=
  fun W' hW => h W' (fun a v hP hcell hp => hW a v hP (by
    have hb : a.block ≠ c := fun e => hP (e ▸ hc)
    have e := Below.heap_setCell W ⟨c, j, none⟩ x a.block (fun h => hb h)
    simpa [World.cell?, e] using hcell) hp)
end
theorem VeX.mk {W : World} {P : Nat → Prop} {hs vs ds : List Int} {g1 g2 g3 : Nat} (h1 : ScX W P g1 hs (sums 0 hs)) (h2 : ScX W P g2 vs (sums 0 vs)) (h3 : ScX W P g3 ds (sums 0 ds)) : VeX W P hs vs ds g1 g2 g3 :=
  fun W' hW => ⟨h1 W' hW, h2 W' hW, h3 W' hW⟩
/-- What open comes to. -/
def VeRet (w : World) (hs vs ds : List Int) (e : Ending) (w' : World) : Prop := ∃ g1 g2 g3, e = .returned (.agg #[.pointer (some ⟨g1, 0, none⟩), .pointer (some ⟨g2, 0, none⟩), .pointer (some ⟨g3, 0, none⟩)]) ∧ VeX w' (fun k => k < w.heap.size) hs vs ds g1 g2 g3 ∧ Below w.heap.size w w'
end Go.Proofs.YtlhfclpbodfmcaaGreatDoor.Pr
