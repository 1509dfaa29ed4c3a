/- The texts of vessels, in plain Lean: what is printed, and that it can be read back in one way alone. -/
import Derived.Test.YtlhfclpbodfmcaaGreatDoorYBCj
import Derived.Lib.AtoiAllCases
import Derived.Lib.ItoaNum
import Derived.Lib.Split
import Derived.Lib.Join
import Derived.Lib.CountLaws
import Derived.Test.YtlhfclpbodfmcaaGreatDoorYSh
import Derived.Test.YtlhfclpbodfmcaaGreatDoorYBKl
import Derived.Test.YtlhfclpbodfmcaaGreatDoorYBScS
import Derived.Lib.SplitLaws
import Derived.Lib.AppendIntMem
import Derived.Lib.AtoiErrMem
namespace Go.Proofs.YtlhfclpbodfmcaaGreatDoor.Pr
open Go.Lib
set_option linter.unusedVariables false
set_option linter.unusedSimpArgs false
/-! digits -/
def digB (b : UInt8) : Prop := 48 ≤ b.toNat ∧ b.toNat ≤ 57
theorem dig_of (k : Nat) (h : k < 10) : (UInt8.ofNat (48 + k)).toNat = 48 + k := by
  rw [UInt8.toNat_ofNat']; omega
theorem dec_dig (u : Nat) : ∀ b ∈ decDigits u, digB b := by
  induction u using Nat.strongRecOn with
  | _ u ih =>
    intro b hb
    rw [decDigits] at hb
    by_cases h : u < 10
    · rw [dif_pos h] at hb
      rw [List.mem_singleton.1 hb]
      unfold digB
      rw [dig_of u h]
      omega
    · rw [dif_neg h] at hb
      rcases List.mem_append.1 hb with hb | hb
      · exact ih (u / 10) (by omega) b hb
      · rw [List.mem_singleton.1 hb]
        unfold digB
        rw [dig_of (u % 10) (by omega)]
        omega
theorem dec_ne (u : Nat) : decDigits u ≠ [] := by
  intro h
  have := decDigits_length u
  have := nDigits_pos u
  rw [h] at *
  simp at *
  omega
theorem nDigits_le (u : Nat) : nDigits u ≤ u + 1 := by
  induction u using Nat.strongRecOn with
  | _ u ih =>
    by_cases h : u < 10
    · rw [nDigits_small h]; omega
    · rw [nDigits_big h]
      have := ih (u / 10) (by omega)
      omega
theorem dec_len (u : Nat) : (decDigits u).length ≤ u + 1 := by rw [decDigits_length]; exact nDigits_le u
theorem parse_append : ∀ (a b : List UInt8) (acc v : Nat), parseUint10 acc a = .ok v → parseUint10 acc (a ++ b) = parseUint10 v b
  | [], b, acc, v, h => by simp only [parseUint10] at h; injection h with h; subst h; rfl
  | c :: r, b, acc, v, h => by
    simp only [parseUint10] at h
    simp only [List.cons_append, parseUint10]
    split at h
    · rename_i hc
      rw [if_pos hc]
      split at h
      · cases h
      · rename_i h1
        rw [if_neg h1]
        split at h
        · cases h
        · rename_i h2
          rw [if_neg h2]
          exact parse_append r b _ v h
    · cases h
theorem parse_dec (u : Nat) (h : u < 1000000000000000000) : parseUint10 0 (decDigits u) = .ok u := by
  induction u using Nat.strongRecOn with
  | _ u ih =>
    rw [decDigits]
    by_cases hu : u < 10
    · rw [dif_pos hu]
      simp only [parseUint10]
      rw [dig_of u hu, if_pos (by omega), if_neg (by omega), if_neg (by omega)]
      congr 1
      omega
    · rw [dif_neg hu, parse_append _ _ _ _ (ih (u / 10) (by omega) (by omega))]
      simp only [parseUint10]
      rw [dig_of (u % 10) (by omega), if_pos (by omega), if_neg (by omega), if_neg (by omega)]
      congr 1
      omega
theorem atoi_dec (u : Nat) (h : u < 1000000000000000000) : atoiAll (decDigits u) = .ok (u : Int) := by
  have hp := parse_dec u h
  have hd := dec_dig u
  have hn := dec_ne u
  revert hp hd hn
  cases decDigits u with
  | nil => intro _ _ hn; exact absurd rfl hn
  | cons c r =>
    intro hp hd hn
    have hc := hd c (by simp)
    unfold digB at hc
    rw [atoiAll_plain c r (by omega) (by omega)]
    unfold parseMag
    rw [if_neg hn, hp]
    unfold signless
    simp only
    rw [if_neg (by omega)]
theorem itoa_nn {n : Int} (h : 0 ≤ n) : itoa n = decDigits n.toNat := by unfold itoa; rw [if_neg (by omega)]
theorem atoi_itoa {n : Int} (h0 : 0 ≤ n) (h1 : n ≤ 1000000) : atoiAll (itoa n) = .ok n := by
  rw [itoa_nn h0, atoi_dec _ (by omega)]
  congr 1
  omega
/-- The reference's number: what is read from n on. -/
def numG (n : Int) : List UInt8 → Option Int
  | [] => some n
  | b :: r => if b.toNat < 48 ∨ 57 < b.toNat ∨ 1000000 < n then none else numG (10 * n + ((b.toNat : Int) - 48)) r
def numberF (l : List UInt8) : Int := match numG 0 l with
  | none => -1
  | some n => if l = [] then -1 else n
theorem numG_append : ∀ (a b : List UInt8) (acc v : Int), numG acc a = some v → numG acc (a ++ b) = numG v b
  | [], b, acc, v, h => by simp only [numG] at h; injection h with h; subst h; rfl
  | c :: r, b, acc, v, h => by
    simp only [numG] at h
    simp only [List.cons_append, numG]
    split at h
    · cases h
    · rename_i hc
      rw [if_neg hc]
      exact numG_append r b _ v h
theorem numG_none : ∀ (a b : List UInt8) (acc : Int), numG acc a = none → numG acc (a ++ b) = none
  | [], b, acc, h => by simp [numG] at h
  | c :: r, b, acc, h => by
    simp only [numG] at h
    simp only [List.cons_append, numG]
    split
    · rfl
    · rename_i hc
      rw [if_neg hc] at h
      exact numG_none r b _ h
theorem numG_bd : ∀ (a : List UInt8) (acc v : Int), 0 ≤ acc → acc ≤ 10000009 → numG acc a = some v → 0 ≤ v ∧ v ≤ 10000009
  | [], acc, v, h0, h1, h => by simp only [numG] at h; injection h with h; omega
  | c :: r, acc, v, h0, h1, h => by
    simp only [numG] at h
    split at h
    · cases h
    · exact numG_bd r _ v (by omega) (by omega) h
theorem numG_dec (u : Nat) (h : u ≤ 10000000) : numG 0 (decDigits u) = some (u : Int) := by
  induction u using Nat.strongRecOn with
  | _ u ih =>
    rw [decDigits]
    by_cases hu : u < 10
    · rw [dif_pos hu]
      simp only [numG]
      rw [dig_of u hu, if_neg (by omega)]
      congr 1
      omega
    · rw [dif_neg hu, numG_append _ _ _ _ (ih (u / 10) (by omega) (by omega))]
      simp only [numG]
      rw [dig_of (u % 10) (by omega), if_neg (by omega)]
      congr 1
      omega
theorem number_itoa {n : Int} (h0 : 0 ≤ n) (h1 : n ≤ 1000000) : numberF (itoa n) = n := by
  rw [itoa_nn h0]
  unfold numberF
  rw [numG_dec _ (by omega)]
  simp only
  rw [if_neg (dec_ne _)]
  omega
/-! parts of a text between a byte -/
def cutC (c : UInt8) : List UInt8 → List (List UInt8)
  | [] => [[]]
  | b :: r => if b = c then [] :: cutC c r else (b :: (cutC c r).headD []) :: (cutC c r).tail
theorem cutC_ne (c : UInt8) (l : List UInt8) : cutC c l ≠ [] := by
  cases l with
  | nil => simp [cutC]
  | cons b r => simp only [cutC]; split <;> simp
theorem cutC_free {c : UInt8} : ∀ {l : List UInt8}, c ∉ l → cutC c l = [l]
  | [], _ => rfl
  | b :: r, h => by
    have hb : ¬ b = c := fun e => h (by simp [e])
    have hr : c ∉ r := fun e => h (by simp [e])
    simp only [cutC]
    rw [if_neg hb, cutC_free hr]
    rfl
theorem cutC_hit {c : UInt8} : ∀ {x : List UInt8} (r : List UInt8), c ∉ x → cutC c (x ++ c :: r) = x :: cutC c r
  | [], r, _ => by simp [cutC]
  | b :: x, r, h => by
    have hb : ¬ b = c := fun e => h (by simp [e])
    have hr : c ∉ x := fun e => h (by simp [e])
    simp only [List.cons_append, cutC]
    rw [if_neg hb, cutC_hit r hr]
    rfl
/-- One more byte at the end. -/
theorem cutC_snoc (c b : UInt8) : ∀ l : List UInt8, cutC c (l ++ [b]) = if b = c then cutC c l ++ [[]] else (cutC c l).dropLast ++ [(cutC c l).getLastD [] ++ [b]]
  | [] => by
    simp only [List.nil_append, cutC]
    split <;> simp
  | a :: l => by
    have ih := cutC_snoc c b l
    have hn := cutC_ne c l
    simp only [List.cons_append, cutC]
    revert ih hn
    generalize cutC c l = k
    intro ih hn
    rw [ih]
    cases k with
    | nil => exact absurd rfl hn
    | cons y k =>
      by_cases ha : a = c
      · rw [if_pos ha, if_pos ha]
        by_cases hb : b = c
        · simp [hb]
        · simp [hb]
      · rw [if_neg ha, if_neg ha]
        by_cases hb : b = c
        · simp [hb]
        · cases k with
          | nil => simp [hb]
          | cons z k => simp [hb]
theorem join_more (x y : List UInt8) (r : List (List UInt8)) (c : UInt8) : join (x :: y :: r) [c] = x ++ c :: join (y :: r) [c] := by
  rw [join_cons, join_cons]
  simp [joinTail]
theorem cutC_join {c : UInt8} : ∀ {xs : List (List UInt8)}, xs ≠ [] → (∀ x ∈ xs, c ∉ x) → cutC c (join xs [c]) = xs
  | [], h, _ => absurd rfl h
  | [x], _, h => by rw [join_one]; exact cutC_free (h x (by simp))
  | x :: y :: r, _, h => by
    rw [join_more, cutC_hit _ (h x (by simp)), cutC_join (by simp) (fun z hz => h z (by simp only [List.mem_cons] at hz ⊢; exact .inr hz))]
theorem occ_iff (s : List UInt8) (c : UInt8) (j : Nat) : occAt s [c] j = true ↔ s[j]? = some c := by
  unfold occAt
  cases hd : s.drop j with
  | nil =>
    have : s[j]? = none := by rw [List.getElem?_eq_none_iff]; have := congrArg List.length hd; simp at this; omega
    rw [this]
    simp [List.isPrefixOf]
  | cons b r =>
    have : s[j]? = some b := by have := congrArg (·[0]?) hd; simpa using this
    rw [this]
    constructor
    · intro e; simp [List.isPrefixOf] at e; rw [e]
    · intro e; simp at e; simp [List.isPrefixOf, e]
theorem index_free {s : List UInt8} {c : UInt8} (h : c ∉ s) : index s [c] = -1 := by
  refine index_none fun j _ => ?_
  rw [Bool.eq_false_iff]
  intro e
  exact h (List.mem_of_getElem? ((occ_iff s c j).1 e))
theorem index_hit {x : List UInt8} (r : List UInt8) {c : UInt8} (h : c ∉ x) : index (x ++ c :: r) [c] = (x.length : Int) := by
  refine index_first (by simp) ((occ_iff _ _ _).2 (by simp)) fun j hj => ?_
  rw [Bool.eq_false_iff]
  intro e
  have e2 := (occ_iff _ _ _).1 e
  rw [List.getElem?_append_left hj] at e2
  exact h (List.mem_of_getElem? e2)
theorem split_free {c : UInt8} {x : List UInt8} (h : c ∉ x) : Lib.split x [c] = [x] := by
  unfold Lib.split
  rw [count_miss (index_free h)]
  rfl
theorem split_hit {c : UInt8} {x : List UInt8} (r : List UInt8) (h : c ∉ x) : Lib.split (x ++ c :: r) [c] = x :: Lib.split r [c] := by
  unfold Lib.split
  have hi := index_hit r h
  rw [count_hit (by simp) hi]
  have hd : (x ++ c :: r).drop (x.length + [c].length) = r := by simp
  rw [hd, Nat.add_comm 1]
  simp only [splitK]
  rw [hi, if_neg (by simp)]
  have ht : (x ++ c :: r).take ((x.length : Int).toNat + 0) = x := by simp
  have hd2 : (x ++ c :: r).drop ((x.length : Int).toNat + [c].length) = r := by simp
  rw [ht, hd2]
theorem split_join {c : UInt8} : ∀ {xs : List (List UInt8)}, xs ≠ [] → (∀ x ∈ xs, c ∉ x) → Lib.split (join xs [c]) [c] = xs
  | [], h, _ => absurd rfl h
  | [x], _, h => by rw [join_one]; exact split_free (h x (by simp))
  | x :: y :: r, _, h => by
    rw [join_more, split_hit _ (h x (by simp)), split_join (by simp) (fun z hz => h z (by simp only [List.mem_cons] at hz ⊢; exact .inr hz))]
theorem join_len (c : UInt8) (B : Nat) : ∀ xs : List (List UInt8), (∀ x ∈ xs, x.length ≤ B) → (join xs [c]).length ≤ xs.length * (B + 1)
  | [], _ => by simp [join_nil]
  | [x], h => by rw [join_one]; have := h x (by simp); simp; omega
  | x :: y :: r, h => by
    have h1 := h x (by simp)
    have h2 := join_len c B (y :: r) (fun z hz => h z (by simp only [List.mem_cons] at hz ⊢; exact .inr hz))
    rw [join_more]
    simp only [List.length_append, List.length_cons] at h2 ⊢
    rw [Nat.succ_mul]
    omega
/-! the texts -/
def ringT (r : S79) : List UInt8 := join [itoa r.f0, itoa r.f1, itoa r.f2] [44]
def printT (l : List S79) : List UInt8 := join (l.map ringT) [32]
def printF (l : List S79) : List UInt8 × Int := if validB l then (printT l, 0) else ([], 20)
theorem ringT_eq (r : S79) : ringT r = itoa r.f0 ++ [44] ++ itoa r.f1 ++ [44] ++ itoa r.f2 := by
  unfold ringT
  rw [join_more, join_more, join_one]
  simp
theorem itoa_mem {n : Int} (h : 0 ≤ n) {c : UInt8} (hc : c.toNat < 48 ∨ 57 < c.toNat) : c ∉ itoa n := by
  rw [itoa_nn h]
  intro e
  have := dec_dig _ c e
  unfold digB at this
  omega
def okR (r : S79) : Prop := 1 ≤ r.f0 ∧ r.f0 ≤ 1000 ∧ 1 ≤ r.f1 ∧ r.f1 ≤ 100000 ∧ 1 ≤ r.f2 ∧ r.f2 ≤ 20000
theorem ring_parts {r : S79} (h : okR r) : Lib.split (ringT r) [44] = [itoa r.f0, itoa r.f1, itoa r.f2] ∧ cutC 44 (ringT r) = [itoa r.f0, itoa r.f1, itoa r.f2] := by
  obtain ⟨a0, a1, b0, b1, c0, c1⟩ := h
  have hm : ∀ x ∈ [itoa r.f0, itoa r.f1, itoa r.f2], (44 : UInt8) ∉ x := by
    intro x hx
    simp only [List.mem_cons, List.not_mem_nil, or_false] at hx
    rcases hx with rfl | rfl | rfl
    · exact itoa_mem (by omega) (.inl (by decide))
    · exact itoa_mem (by omega) (.inl (by decide))
    · exact itoa_mem (by omega) (.inl (by decide))
  exact ⟨split_join (by simp) hm, cutC_join (by simp) hm⟩
theorem ring_free {r : S79} (h : okR r) : (32 : UInt8) ∉ ringT r := by
  obtain ⟨a0, a1, b0, b1, c0, c1⟩ := h
  rw [ringT_eq]
  simp only [List.mem_append, List.mem_singleton, not_or]
  refine ⟨⟨⟨⟨itoa_mem (by omega) (.inl (by decide)), by decide⟩, itoa_mem (by omega) (.inl (by decide))⟩, by decide⟩, itoa_mem (by omega) (.inl (by decide))⟩
theorem itoa_len {n : Int} (h0 : 0 ≤ n) (h1 : n ≤ 100000) : (itoa n).length ≤ 100001 := by
  rw [itoa_nn h0]
  have := dec_len n.toNat
  omega
theorem ring_len {r : S79} (h : okR r) : (ringT r).length ≤ 300006 := by
  obtain ⟨a0, a1, b0, b1, c0, c1⟩ := h
  have h0 := itoa_len (n := r.f0) (by omega) (by omega)
  have h1 := itoa_len (n := r.f1) (by omega) (by omega)
  have h2 := itoa_len (n := r.f2) (by omega) (by omega)
  unfold ringT
  have := join_len 44 100001 [itoa r.f0, itoa r.f1, itoa r.f2] (by
    intro x hx
    simp only [List.mem_cons, List.not_mem_nil, or_false] at hx
    rcases hx with rfl | rfl | rfl <;> assumption)
  simpa using this
theorem ring_nums {r : S79} (h : okR r) : atoiAll (itoa r.f0) = .ok r.f0 ∧ atoiAll (itoa r.f1) = .ok r.f1 ∧ atoiAll (itoa r.f2) = .ok r.f2 ∧ numberF (itoa r.f0) = r.f0 ∧ numberF (itoa r.f1) = r.f1 ∧ numberF (itoa r.f2) = r.f2 := by
  obtain ⟨a0, a1, b0, b1, c0, c1⟩ := h
  exact ⟨atoi_itoa (by omega) (by omega), atoi_itoa (by omega) (by omega), atoi_itoa (by omega) (by omega), number_itoa (by omega) (by omega), number_itoa (by omega) (by omega), number_itoa (by omega) (by omega)⟩
end Go.Proofs.YtlhfclpbodfmcaaGreatDoor.Pr
namespace Go.Proofs.YtlhfclpbodfmcaaGreatDoor.Pr
open Go.RowKit Go.Proofs.YtlhfclpbodfmcaaGreatDoorW.PrintWords Go.Proofs.YtlhfclpbodfmcaaGreatDoorW.PrintLast Go.Proofs.YtlhfclpbodfmcaaGreatDoorW.PrintMore
set_option linter.unusedVariables false
/-! the variables of the library that are read -/
structure Env (w : World) : Prop where
  m : ∃ m, w.cell? ⟨3, 0, none⟩ = some (.int .i64 m)
  tab : Lib.TabIs Tryz.prog w "internal/strconv.uint64pow10" .u64 Lib.pow10Tab
  es : ∃ tp p, w.var? Tryz.prog "strconv.ErrSyntax" = some #[.iface tp p]
  er : ∃ tp p, w.var? Tryz.prog "strconv.ErrRange" = some #[.iface tp p]
theorem var_below {P : Program} {n : String} {w w' : World} {cs : Array Value} (h : w.var? P n = some cs) (hb : Below w.heap.size w w') : w'.var? P n = some cs := by
  unfold World.var? at h ⊢
  cases hg : P.globalNamed n with
  | none => rw [hg] at h; cases h
  | some g =>
    rw [hg] at h
    simp only [Option.bind_some] at h ⊢
    have hlt : g < w.heap.size := by
      rcases Nat.lt_or_ge g w.heap.size with h' | h'
      · exact h'
      · rw [Array.getElem?_eq_none h'] at h; cases h
    rw [hb.block g hlt]
    exact h
theorem Env.below {w w' : World} (h : Env w) (hb : Below w.heap.size w w') : Env w' := by
  obtain ⟨⟨m, hm⟩, ht, ⟨t1, p1, h1⟩, ⟨t2, p2, h2⟩⟩ := h
  exact ⟨⟨m, pw_cell_below hb hm⟩, var_below ht hb, ⟨t1, p1, var_below h1 hb⟩, ⟨t2, p2, var_below h2 hb⟩⟩
/-! rows of strings -/
def k9 : Kd ByteArray := Kd.scalar Value.string (fun _ => rfl)
theorem info9 : (Tryz.prog.info? 9).map (fun i => (i.zero, i.size, i.bytes)) = some (some (.string ByteArray.empty), 1, 16) := by kernel_rfl
theorem strRow {W : World} {g E : Nat} {y : ByteArray} (h : W.heap[g]? = some (.cells #[.string y] E (0, 0))) : ReadsRow (fun (x : ByteArray) (cs : List Value) => cs = [.string x]) 1 W (some ⟨g, 0, none⟩) 1 [y] := by
  refine ⟨rfl, by omega, fun _ => ⟨⟨g, 0, none⟩, rfl, fun j p hj => ?_⟩⟩
  rcases j with _ | j
  · simp at hj
    subst hj
    refine ⟨[.string y], rfl, rfl, fun i u hu => ?_⟩
    rcases i with _ | i
    · simp at hu
      subst hu
      simpa [add_plain] using (blk_cell h 0)
    · simp at hu
  · simp at hj
abbrev R9 (W : World) (base : Nat) (v : Value) (xs : List ByteArray) : Prop := Kd.R k9 9 W base (fun _ => True) v xs
section
variable {P : Program} {ops : Array Oper} {o : Oper} {rest : List Oper} {a : Act} {Q : Exit → Act → World → Prop} {Kc : Act → World → Prop} {w W : World}
theorem app9_step (hw : Region.wanted o (yielded ops a.tmps) = true) (s x : Operand) (t : TypeId)
    (ho : o.op = .call { callee := .builtin .append, args := #[s, x], argTypes := #[t, t] }) (ht : P.underlying t = some (.slice 9)) (hi : (P.info? 9).map (fun i => (i.zero, i.size, i.bytes)) = some (some (.string ByteArray.empty), 1, 16))
    (v : Value) (xs : List ByteArray) (y : ByteArray) (ga : Nat) (hs : a.eval s = v) (hx : a.eval x = .slice (some ⟨ga, 0, none⟩) 1 1) (HO : R9 W w.heap.size v xs) (HL : W.heap[ga]? = some (.cells #[.string y] 9 (0, 0))) (HB : Below w.heap.size w W) (hl : xs.length ≤ 100000000)
    (h : ∀ v1 w1, R9 w1 w.heap.size v1 (xs ++ [y]) → Below w.heap.size w w1 → W.grownBy w1 v.ownBlock → (v1.ownBlock = v.ownBlock ∨ ∃ b, v1.ownBlock = some b ∧ W.heap.size ≤ b) → Kc (a.put o.dst v1) w1) :
    if Region.wanted o (yielded ops a.tmps) = true then Oper.wp P o a W Kc Q else Kc (a.put o.dst undef) W :=
  Kd.R_append_rows_step k9 (w0 := w) w.heap.size hw s x t 9 (.string ByteArray.empty) 16 ho ht hi (by rfl) (by decide) (by decide) v xs [y] (some ⟨ga, 0, none⟩) 1 1 (fun _ => True) (fun _ => False) hs hx HO (strRow HL) (fun x cs h => h) (fun k hk => hk.elim) (fun k hk => trivial) HB HB.size (by omega) h
theorem app9_list (hgd : o.guard = none) (s x : Operand) (t : TypeId)
    (ho : o.op = .call { callee := .builtin .append, args := #[s, x], argTypes := #[t, t] }) (ht : P.underlying t = some (.slice 9)) (hi : (P.info? 9).map (fun i => (i.zero, i.size, i.bytes)) = some (some (.string ByteArray.empty), 1, 16))
    (v : Value) (xs : List ByteArray) (y : ByteArray) (ga : Nat) (hs : a.eval s = v) (hx : a.eval x = .slice (some ⟨ga, 0, none⟩) 1 1) (HO : R9 W w.heap.size v xs) (HL : W.heap[ga]? = some (.cells #[.string y] 9 (0, 0))) (HB : Below w.heap.size w W) (hl : xs.length ≤ 100000000)
    (h : ∀ v1 w1, R9 w1 w.heap.size v1 (xs ++ [y]) → Below w.heap.size w w1 → W.grownBy w1 v.ownBlock → (v1.ownBlock = v.ownBlock ∨ ∃ b, v1.ownBlock = some b ∧ W.heap.size ≤ b) → wpList P ops Q rest (a.put o.dst v1) w1) :
    wpList P ops Q (o :: rest) a W :=
  Kd.R_append_rows k9 (w0 := w) w.heap.size hgd s x t 9 (.string ByteArray.empty) 16 ho ht hi (by rfl) (by decide) (by decide) v xs [y] (some ⟨ga, 0, none⟩) 1 1 (fun _ => True) (fun _ => False) hs hx HO (strRow HL) (fun x cs h => h) (fun k hk => hk.elim) (fun k hk => trivial) HB HB.size (by omega) h
/-- A literal of one value, in a region that draws its order. -/
theorem lT_ (N : Tmp) (cs : Array Value) (E : TypeId)
    (h : ∀ g, g = W.heap.size → ∀ w1, w1.heap[g]? = some (.cells cs E (0, 0)) → Below W.heap.size W w1 → Kc (a.put (some N) (.slice (some ⟨g, 0, none⟩) 1 1)) w1)
    (hw : Region.wanted o (yielded ops a.tmps) = true := by rfl) (hd : o.dst = some N := by rfl) (hrun : (execOp a.eval o).run P W = .ok (.value (.slice (some ⟨W.heap.size, 0, none⟩) 1 1)) (W.alloc (.cells cs E (0, 0))) := by first | (go_simp; done) | (go_simp; rfl)) : if Region.wanted o (yielded ops a.tmps) = true then Oper.wp P o a W Kc Q else Kc (a.put (some N) undef) W := by
  have k := event_step (Q := Q) hw hrun (Kc := Kc) (by rw [hd]; exact h _ rfl _ (blk_new W _) (below_alloc (Below.refl _ _) _))
  rwa [hd] at k
end
/-- A row of strings of the call's own that is not empty: its block and its cells. -/
theorem R9_at {W : World} {base : Nat} {v : Value} {xs : List ByteArray} (h : R9 W base v xs) (hx : xs ≠ []) :
    ∃ g c, v = .slice (some ⟨g, 0, none⟩) xs.length c ∧ xs.length ≤ c ∧ g < W.heap.size ∧ ∀ (j : Nat) x, xs[j]? = some x → W.cell? ⟨g, 0 + j, none⟩ = some (.string x) := by
  obtain ⟨A, c, he, hl, hr⟩ := Kd.R_reads h
  obtain ⟨inner, ho⟩ := Kd.R_own h
  have hn : 0 < xs.length := List.length_pos_iff.2 hx
  rcases ho.2 with ⟨_, h0⟩ | ⟨g, cap, cur, hv, hg, hh, hc, hm, hs, ht⟩
  · omega
  · rw [he] at hv
    injection hv with e1 e2 e3
    subst e1 e3
    obtain ⟨ad, e4, hcells⟩ := hr.2.2 hn
    injection e4 with e4
    subst e4
    refine ⟨g, c, he, hl, ?_, fun j x hj => ?_⟩
    · exact blk_lt hh
    · obtain ⟨cs, h1, h2, h3⟩ := hcells j x hj
      have h2 : cs = [.string x] := h2
      subst h2
      have h4 := h3 0 (.string x) rfl
      have hz : k9.sz = 1 := rfl
      rw [hz, Nat.mul_one, Nat.add_zero] at h4
      simpa [add_plain] using h4
/-! the library's functions -/
def strT (l : List UInt8) : ByteArray := ⟨l.toArray⟩
theorem strT_data (l : List UInt8) : (strT l).data.toList = l := by simp [strT]
theorem strT_size (l : List UInt8) : (strT l).size = l.length := by simp [strT, ByteArray.size]
theorem strT_of (s : ByteArray) : strT s.data.toList = s := by cases s; simp [strT]
theorem strT_add (a b : List UInt8) : strT a ++ strT b = strT (a ++ b) := by
  apply ByteArray.ext
  simp [strT]
theorem strT_inj {a b : List UInt8} (h : strT a = strT b) : a = b := by have := congrArg (·.data.toList) h; simpa [strT] using this
theorem itoa_calls (n : Int) (h0 : -9223372036854775808 ≤ n) (h1 : n ≤ 9223372036854775807) (w : World) (he : Env w) :
    Calls Tryz.prog 29 #[.int .i64 n] w fun e w' => e = .returned (.string (strT (Lib.itoa n))) ∧ Below w.heap.size w w' :=
  (Tryz.strconv_Itoa n h0 h1 w he.tab).mono fun e w' ⟨h, k, os, hw⟩ => ⟨h, by rw [hw]; exact Lib.below_grow _ w (Nat.le_refl _) k os⟩
theorem join_calls (v : Value) (base : Nat) (xs : List ByteArray) (w : World) (hx : xs ≠ []) (h : R9 w base v xs) (hn : xs.length ≤ 100000) (hlen : (Lib.join (xs.map (·.data.toList)) [32]).length ≤ 140737488355328) :
    Calls Tryz.prog 30 #[v, .string ⟨#[32]⟩] w fun e w' => e = .returned (.string (strT (Lib.join (xs.map (·.data.toList)) [32]))) ∧ Below w.heap.size w w' := by
  obtain ⟨g, c, rfl, hc, hg, hcell⟩ := R9_at h hx
  exact Tryz.strings_Join g 0 c xs ⟨#[32]⟩ w hcell hg (by omega) hc hlen
theorem split_calls (s : ByteArray) (c : UInt8) (w : World) (he : Env w) (hs : s.size < 4294967281) :
    Calls Tryz.prog 32 #[.string s, .string ⟨#[c]⟩] w fun e w' => ∃ ps : List ByteArray, ps.map (·.data.toList) = Lib.split s.data.toList [c] ∧ (∀ x ∈ ps, x.size ≤ s.size) ∧ ps.length ≤ s.size + 1 ∧
      e = .returned (.slice (some ⟨w.heap.size, 0, none⟩) ps.length ps.length) ∧ Kd.C k9 w' (some ⟨w.heap.size, 0, none⟩) ps.length ps ∧ Below w.heap.size w w' := by
  obtain ⟨m, hm⟩ := he.m
  refine (Tryz.strings_Split s ⟨#[c]⟩ m w hs hm (Nat.le_refl 1)).mono ?_
  rintro e w' ⟨h, hw⟩
  have hl := Lib.splitB_all ⟨#[c]⟩ (Nat.le_refl 1) 0 (Lib.countB s ⟨#[c]⟩) s rfl
  have hsz : ∀ (k : Nat) (s : ByteArray), ∀ x ∈ Lib.splitB ⟨#[c]⟩ 0 k s, x.size ≤ s.size := by
    intro k
    induction k with
    | zero => intro s x hx; rw [Lib.splitB_zero, List.mem_singleton] at hx; rw [hx]; exact Nat.le_refl _
    | succ k ih =>
      intro s x hx
      unfold Lib.splitB at hx
      split at hx
      · rw [List.mem_singleton] at hx; rw [hx]; exact Nat.le_refl _
      · rcases List.mem_cons.1 hx with rfl | hx
        · rw [ByteArray.size_extract]; omega
        · have := ih _ x hx
          rw [ByteArray.size_extract] at this
          omega
  refine ⟨Lib.splitB ⟨#[c]⟩ 0 (Lib.countB s ⟨#[c]⟩) s, ?_, hsz _ s, ?_, ?_, ?_, ?_⟩
  · rw [Lib.splitB_data]; rfl
  · rw [hl]; have := Lib.countB_le ⟨#[c]⟩ (Nat.le_refl 1) s.size s (Nat.le_refl _); omega
  · rw [hl]; exact h
  · rw [hw]
    have hN : (Lib.splitB ⟨#[c]⟩ 0 (Lib.countB s ⟨#[c]⟩) s).length ≤ 9223372036854775807 := by
      rw [hl]; have := Lib.countB_le ⟨#[c]⟩ (Nat.le_refl 1) s.size s (Nat.le_refl _); omega
    generalize Lib.splitB ⟨#[c]⟩ 0 (Lib.countB s ⟨#[c]⟩) s = ps at hN
    refine ⟨rfl, hN, fun _ => ⟨_, rfl, fun j p hj => ⟨[.string p], rfl, rfl, fun i u hu => ?_⟩⟩⟩
    rcases i with _ | i
    · simp at hu
      subst hu
      have h2 := blk_cell (blk_new w (.cells (ps.map Value.string).toArray 9 (0, 0))) j
      have hz : k9.sz = 1 := rfl
      simp [add_plain, hz, hj] at h2 ⊢
    · simp at hu
  · rw [hw]; exact below_alloc (Below.refl _ _) _
theorem atoi_calls (s : ByteArray) (w : World) (he : Env w) (hs : s.size < 4294967281) :
    Calls Tryz.prog 33 #[.string s] w fun e w' => Below w.heap.size w w' ∧ ((∃ v, Lib.atoiAll s.data.toList = .ok v ∧ e = .returned (.tuple #[.int .i64 v, .nilIface])) ∨
      ((∀ v, Lib.atoiAll s.data.toList ≠ .ok v) ∧ ∃ k t p, e = .returned (.tuple #[.int .i64 k, .iface t p]))) := by
  rcases ha : Lib.atoiAll s.data.toList with v | _ | _
  · refine (Tryz.strconv_Atoi_ok s (by omega) v ha w).mono ?_
    rintro e w' ⟨h, hw⟩
    refine ⟨?_, .inl ⟨v, rfl, h⟩⟩
    rcases hw with rfl | ⟨t, rfl⟩
    · exact Below.refl _ _
    · exact Lib.bytesWorld_below w 5 t
  · obtain ⟨tp, p, hv⟩ := he.es
    have hc := Any.strconv_Atoi_syntax_var Tryz.laysC172 s (by omega) ha tp p w hv
    refine Calls.mono (f := 33) hc ?_
    rintro e w' ⟨N, h, _, _, hb⟩
    exact ⟨hb, .inr ⟨fun v e => by simp at e, _, _, _, h⟩⟩
  · obtain ⟨tp, p, hv⟩ := he.er
    refine (Tryz.strconv_Atoi_range_var s (by omega) ha tp p w hv).mono ?_
    rintro e w' ⟨N, h, _, _, hb⟩
    exact ⟨hb, .inr ⟨fun v e => by simp at e, _, _, _, h⟩⟩
end Go.Proofs.YtlhfclpbodfmcaaGreatDoor.Pr
