/- The reference's number: what a text may be. -/
import Derived.Test.YtlhfclpbodfmcaaGreatDoorYTa
import Derived.Test.YtlhfclpbodfmcaaGreatDoorYBTp
import Derived.Test.YtlhfclpbodfmcaaGreatDoorYBKq
import Derived.Laws.Strings2
namespace Go.Proofs.YtlhfclpbodfmcaaGreatDoor.Pr
open Go.RowKit Go.Proofs.YtlhfclpbodfmcaaGreatDoorW.PrintWords Go.Proofs.YtlhfclpbodfmcaaGreatDoorW.PrintLast Go.Proofs.YtlhfclpbodfmcaaGreatDoorW.PrintMore
set_option linter.unusedVariables false
set_option linter.unusedSimpArgs false
theorem numG_step {l : List UInt8} {n : Nat} (hn : n < l.length) {v : Int} (h : numG 0 (l.take n) = some v) :
    numG 0 (l.take (n + 1)) = if l[n].toNat < 48 ∨ 57 < l[n].toNat ∨ 1000000 < v then none else some (10 * v + ((l[n].toNat : Int) - 48)) := by
  rw [List.take_add_one, List.getElem?_eq_getElem hn, numG_append _ _ _ _ h]
  simp only [Option.toList, numG]
theorem number_no {l : List UInt8} {n : Nat} (h : numG 0 (l.take n) = none) : numberF l = -1 := by
  unfold numberF
  have := numG_none _ (l.drop n) _ h
  rw [List.take_append_drop] at this
  rw [this]
theorem byte_at (s : ByteArray) (n : Nat) (hn : n < s.size) : ∃ h : n < s.data.toList.length, s.data.toList[n] = s[n] := ⟨by rw [Array.length_toList]; exact hn, by show s.data.toList[n]'_ = s.data[n]; exact Array.getElem_toList _⟩
set_option maxHeartbeats 1600000 in
set_option maxRecDepth 100000 in
theorem ref_number.calls (s : ByteArray) (w : World) (hs : s.size < 4294967281) : Calls Tryz.prog 35 #[.string s] w fun e w' => e = .returned (.int .i64 (numberF s.data.toList)) ∧ Below w.heap.size w w' := by
  have HS := Aside0.mk hs
  clear hs
  have HB := Aside0.mk (Below.refl w.heap.size w)
  go_enter Tryz.func35, Tryz.ntmps35
  go_wp2
  go_loopg [3, 4] s.size (fun kq v3 v4 w' => ∃ (n : Nat) (v : Int), v3 = .int .i64 v ∧ v4 = .int .i64 (n : Int) ∧ Aside0 (n + kq = s.size) ∧ Aside0 (numG 0 (s.data.toList.take n) = some v) ∧ Aside0 (Below w.heap.size w w'))
  case atStart => exact ⟨0, 0, rfl, rfl, ⟨by omega⟩, ⟨by simp [numG]⟩, HB⟩
  case round =>
    clear HB
    obtain ⟨n, v, rfl, rfl, HI, HG, HB⟩ := hrel
    have hik := HI.out
    by_cases hn : n < s.size
    · have hd : decide ((n : Int) < (s.size : Int)) = true := decide_eq_true (by omega)
      have hd2 : decide (n < s.size) = true := decide_eq_true hn
      have p1 : (0 : Int) ≤ (n : Int) := by omega
      have q1 : (n : Int) < (s.size : Int) := by omega
      obtain ⟨hl, hb⟩ := byte_at s n hn
      have hst := numG_step hl HG.out
      rw [hb] at hst
      have HST := Aside0.mk hst
      have hvb := numG_bd _ 0 v (by omega) (by omega) HG.out
      have HVB := Aside0.mk hvb
      have hsn := HS.out
      clear hst hvb hb hik
      by_cases h1 : s[n].toNat < 48
      · go_wp2
        go_ret
        exact ⟨by rw [number_no (n := n + 1) (by rw [HST.out, if_pos (.inl h1)])]; rfl, HB.out⟩
      · by_cases h2 : 57 < s[n].toNat
        · go_wp2
          go_ret
          exact ⟨by rw [number_no (n := n + 1) (by rw [HST.out, if_pos (.inr (.inl h2))])]; rfl, HB.out⟩
        · by_cases h3 : 1000000 < v
          · go_wp2
            go_ret
            exact ⟨by rw [number_no (n := n + 1) (by rw [HST.out, if_pos (.inr (.inr h3))])]; rfl, HB.out⟩
          · have hb_ : n ≤ 5000000000 := by omega
            have e1 : wrap64 (wrap64 (10 * v) + ((s[n].toNat : Int) - 48)) = 10 * v + ((s[n].toNat : Int) - 48) := by unfold wrap64; have := HVB.out; have := s[n].toNat_lt; omega
            have E1 := Aside0.mk e1
            clear e1
            go_wp2
            go_roundg (gk - 1)
            case measure => have := HI.out; omega
            case rel => exact ⟨n + 1, _, by rw [E1.out], by go_num, ⟨by have := HI.out; omega⟩, ⟨by rw [HST.out, if_neg (by omega)]⟩, HB⟩
    · have hd : decide ((n : Int) < (s.size : Int)) = false := decide_eq_false (by omega)
      have hd2 : decide (n < s.size) = false := decide_eq_false hn
      have hx : s.data.toList.take n = s.data.toList := List.take_of_length_le (by rw [Array.length_toList]; exact Nat.le_of_not_lt hn)
      have hg := HG.out
      rw [hx] at hg
      have HN : Aside0 (numberF s.data.toList = if s.data.toList = [] then -1 else v) := ⟨by unfold numberF; rw [hg]⟩
      clear hx hg hik
      have hte : s.toList = s.data.toList := ByteArray.toList_eq s
      cases he : s.toList.isEmpty with
      | true =>
        have HZ : Aside0 (s.data.toList = []) := ⟨by rw [← hte]; exact List.isEmpty_iff.1 he⟩
        clear hte
        go_wp2
        go_ret
        exact ⟨by rw [HN.out, if_pos HZ.out]; rfl, HB.out⟩
      | false =>
        have HZ : Aside0 (¬ s.data.toList = []) := ⟨by rw [← hte]; intro h; rw [h] at he; cases he⟩
        clear hte
        go_wp2
        go_ret
        exact ⟨by rw [HN.out, if_neg HZ.out]; rfl, HB.out⟩
end Go.Proofs.YtlhfclpbodfmcaaGreatDoor.Pr
namespace Go.Proofs.YtlhfclpbodfmcaaGreatDoor.Pr
open Go.RowKit Go.Proofs.YtlhfclpbodfmcaaGreatDoorW.PrintWords Go.Proofs.YtlhfclpbodfmcaaGreatDoorW.PrintLast Go.Proofs.YtlhfclpbodfmcaaGreatDoorW.PrintMore
set_option linter.unusedVariables false
set_option linter.unusedSimpArgs false
theorem skJ_ {P : Program} {ops : Array Oper} {Q : Exit → Act → World → Prop} {oi : Oper} {a : Act} {K : Act → World → Prop} {W : World} {g j : Nat} {u : Value} (h : ∀ W', SetJ W W' g j u → K a W') (hw : Region.wanted oi (yielded ops a.tmps) = true := by rfl) (hN : oi.dst = none := by rfl) (hrun : (execOp a.eval oi).run P W = .ok .skip (W.setCell ⟨g, j, none⟩ u) := by first | (go_simp; done) | (go_simp; rfl)) : if Region.wanted oi (yielded ops a.tmps) = true then Oper.wp P oi a W K Q else K (a.put none undef) W :=
  skip_ hw hN hrun (h _ ⟨rfl⟩)
/-- A row of strings of the call's own: its block. -/
theorem R9_own {W : World} {base : Nat} {v : Value} {xs : List ByteArray} (h : R9 W base v xs) (hx : xs ≠ []) :
    ∃ g c cur, v = .slice (some ⟨g, 0, none⟩) xs.length c ∧ base ≤ g ∧ W.heap[g]? = some (.cells cur 9 (0, 0)) ∧ xs.length ≤ c ∧ c ≤ maxLen ∧ cur.size = c ∧ cur.toList.take xs.length = xs.map Value.string := by
  obtain ⟨_, inner, ho, hr⟩ := h
  have hn : 0 < xs.length := List.length_pos_iff.2 hx
  rcases ho.2 with ⟨_, h0⟩ | ⟨g, cap, cur, hv, hg, hh, hc, hm, hs, ht⟩
  · omega
  · have hz : k9.sz = 1 := rfl
    rw [hz, Nat.mul_one] at hs ht
    refine ⟨g, cap, cur, hv, hg, hh, hc, hm, hs, ?_⟩
    rw [ht]
    apply List.ext_getElem?
    intro j
    have hl := ho.1
    rw [hz, Nat.mul_one] at hl
    by_cases hj : j < xs.length
    · have h2 := hr.2 j xs[j] (List.getElem?_eq_getElem hj)
      have h2 : (inner.drop (j * 1)).take 1 = [.string xs[j]] := h2
      rw [Nat.mul_one] at h2
      have h3 := congrArg (·[0]?) h2
      simp only [List.getElem?_take, List.getElem?_drop] at h3
      simpa [hj] using h3
    · rw [List.getElem?_eq_none (by omega), List.getElem?_eq_none (by rw [List.length_map]; omega)]
theorem R9_mk {W : World} {base g c : Nat} {cur : Array Value} {xs : List ByteArray} (hg : base ≤ g) (hh : W.heap[g]? = some (.cells cur 9 (0, 0))) (hc : xs.length ≤ c) (hm : c ≤ maxLen) (hs : cur.size = c) (ht : cur.toList.take xs.length = xs.map Value.string) :
    R9 W base (.slice (some ⟨g, 0, none⟩) xs.length c) xs := by
  have hz : k9.sz = 1 := rfl
  refine ⟨fun _ _ => trivial, xs.map Value.string, ⟨by simp [hz], .inr ⟨g, c, cur, rfl, hg, hh, hc, hm, by rw [hz, Nat.mul_one]; exact hs, by rw [hz, Nat.mul_one]; exact ht⟩⟩, by simp [hz], fun j p hj => ?_⟩
  show ((xs.map Value.string).drop (j * 1)).take 1 = [.string p]
  have hl := (List.getElem?_eq_some_iff.1 hj).1
  have hp := (List.getElem?_eq_some_iff.1 hj).2
  rw [Nat.mul_one, ← List.map_drop, ← List.map_take, List.drop_eq_getElem_cons hl, hp]
  rfl
theorem R9_put {W W' : World} {base g c j : Nat} {xs : List ByteArray} {y : ByteArray} (h : R9 W base (.slice (some ⟨g, 0, none⟩) xs.length c) xs) (hj : j < xs.length) (p : SetJ W W' g j (.string y)) :
    R9 W' base (.slice (some ⟨g, 0, none⟩) xs.length c) (xs.set j y) := by
  obtain ⟨g', c', cur, hv, hg, hh, hc, hm, hs, ht⟩ := R9_own h (by intro h0; rw [h0] at hj; simp at hj)
  injection hv with e1 e2 e3
  injection e1 with e1
  injection e1 with e1
  subst e1 e3
  have hk : W'.heap[g]? = some (.cells (cur.setIfInBounds j (.string y)) 9 (0, 0)) := by rw [← p.e]; exact blk_put hh j _ rfl
  have := R9_mk (xs := xs.set j y) hg hk (by rw [List.length_set]; exact hc) hm (by rw [Array.size_setIfInBounds]; exact hs) (by
    rw [List.length_set, Array.toList_setIfInBounds, List.take_set, ht, List.map_set])
  rwa [List.length_set] at this
/-- The parts, as strings. -/
def partsS (c : UInt8) (l : List UInt8) : List ByteArray := (cutC c l).map strT
theorem parts_ne (c : UInt8) (l : List UInt8) : partsS c l ≠ [] := by
  intro h
  exact cutC_ne c l (List.map_eq_nil_iff.1 h)
theorem parts_len (c : UInt8) : ∀ l : List UInt8, (cutC c l).length ≤ l.length + 1 ∧ ∀ x ∈ cutC c l, x.length ≤ l.length
  | [] => by simp [cutC]
  | b :: r => by
    obtain ⟨h1, h2⟩ := parts_len c r
    have hn := cutC_ne c r
    simp only [cutC]
    split
    · refine ⟨by simp; omega, fun x hx => ?_⟩
      rcases List.mem_cons.1 hx with rfl | hx
      · simp
      · have := h2 x hx; simp; omega
    · revert h1 h2 hn
      generalize cutC c r = k
      cases k with
      | nil => intro _ _ hn; exact absurd rfl hn
      | cons y k =>
        intro h1 h2 hn
        refine ⟨by simp at h1 ⊢; omega, fun x hx => ?_⟩
        simp only [List.headD_cons, List.tail_cons] at hx
        rcases List.mem_cons.1 hx with rfl | hx
        · have := h2 y (by simp); simp; exact this
        · have := h2 x (by simp [hx]); simp; omega
theorem snoc_last (xs : List (List UInt8)) (hx : xs ≠ []) (b : UInt8) : ∃ m y, xs.length = m + 1 ∧ (xs.map strT)[m]? = some (strT y) ∧ y ∈ xs ∧ (xs.map strT).set m (strT y ++ ⟨#[b]⟩) = (xs.dropLast ++ [xs.getLastD [] ++ [b]]).map strT := by
  rcases List.eq_nil_or_concat xs with rfl | ⟨k, y, rfl⟩
  · exact absurd rfl hx
  · refine ⟨k.length, y, by simp, by simp, by simp, ?_⟩
    have h1 : (⟨#[b]⟩ : ByteArray) = strT [b] := rfl
    simp [h1, strT_add]
theorem piece (s : ByteArray) (n : Nat) (h : n < s.size) : s.extract n (n + 1) = ⟨#[s[n]]⟩ := by
  apply ByteArray.ext
  rw [ByteArray.data_extract]
  apply Array.ext
  · have h2 : n < s.data.size := h
    simp; omega
  · intro i h1 h2
    simp at h2
    subst h2
    simp
    rfl
def ref_split.T7 : Bool × List (List Nat × List Nat) := (true, [([], []), ([], []), ([1], [1]), ([2], [2]), ([0, 3], [0, 3]), ([4], [4]), ([], []), ([], []), ([], []), ([8], [8]), ([6, 7, 9], [6, 7, 9]), ([5, 10], [5, 10]), ([0, 3, 0, 1, 2, 3, 4, 5, 6, 7, 8, 9, 10, 11], [0, 3]), ([12, 11, 0, 1, 2, 3, 4, 5, 6, 7, 8, 9, 10, 11], [11, 12])])
def ref_split.B7 : List Nat := [0, 0, 2, 6, 15, 31, 0, 0, 0, 256, 960, 2047, 4095, 8191]
theorem ref_split.tab7 : rtab .any (opsOf Tryz.f34 7) = ref_split.T7 := by kernel_rfl
theorem ref_split.bits7 : waitsOk ref_split.T7.2 ref_split.B7 = true := by kernel_rfl
set_option maxHeartbeats 1600000 in
set_option maxRecDepth 100000 in
theorem ref_split.calls (s : ByteArray) (c : UInt8) (w : World) (hs : s.size ≤ 10000000) :
    Calls Tryz.prog 34 #[.string s, .int .u8 (c.toNat : Int)] w fun e w' => ∃ v, e = .returned v ∧ R9 w' w.heap.size v (partsS c s.data.toList) ∧ Below w.heap.size w w' := by
  have HS := Aside0.mk hs
  clear hs
  have HB := Aside0.mk (Below.refl w.heap.size w)
  go_enter Tryz.func34, Tryz.ntmps34
  go_wp2_with (first | ((with_reducible refine gate_dst (N := 7) rfl ?_); refine litv_list ?hg (N := 7) ?hd (cs := #[.string ByteArray.empty]) (E := 9) ?hr ?_; (case hd => rfl); (case hg => rfl); (case hr => first | (go_simp; done) | (go_simp; rfl)); intro ga hg w1 hbox hb; replace hb := nb_ HB hb; replace HB := bs_ HB hb; have LT := Aside0.mk hbox; have HGA := Aside0.mk hg; clear hb hbox hg))
  have RO : Aside0 (R9 w1 w.heap.size (.slice (some ⟨ga, 0, none⟩) 1 1) (partsS c (s.data.toList.take 0))) := ⟨R9_mk (xs := [ByteArray.empty]) (by rw [HGA.out]; exact Nat.le_refl _) LT.out (by simp) (by unfold maxLen; omega) rfl rfl⟩
  clear LT HGA
  go_loopg [5, 6] s.size (fun kq v5 v6 w' => ∃ (n : Nat) (r1 : Value), r1 = v5 ∧ v6 = .int .i64 (n : Int) ∧ Aside0 (n + kq = s.size) ∧ Aside0 (R9 w' w.heap.size r1 (partsS c (s.data.toList.take n))) ∧ Aside0 (Below w.heap.size w w'))
  case atStart => exact ⟨0, _, rfl, rfl, ⟨by omega⟩, RO, HB⟩
  case round =>
    clear RO HB
    obtain ⟨n, r1, rfl, rfl, HI, RO, HB⟩ := hrel
    have hik := HI.out
    by_cases hn : n < s.size
    · have hd : decide ((n : Int) < (s.size : Int)) = true := decide_eq_true (by omega)
      have hd2 : decide (n < s.size) = true := decide_eq_true hn
      have p1 : (0 : Int) ≤ (n : Int) := by omega
      have q1 : (n : Int) < (s.size : Int) := by omega
      have hb_ : n ≤ 10000000 := by have := HS.out; omega
      obtain ⟨hl, hb⟩ := byte_at s n hn
      have hsn := cutC_snoc c s.data.toList[n] (s.data.toList.take n)
      have htk : s.data.toList.take (n + 1) = s.data.toList.take n ++ [s.data.toList[n]] := by rw [List.take_add_one, List.getElem?_eq_getElem hl]; rfl
      rw [← htk, hb] at hsn
      have hpl := parts_len c (s.data.toList.take n)
      rw [List.length_take] at hpl
      have hcn := cutC_ne c (s.data.toList.take n)
      have HSN := Aside0.mk hsn
      have HPL := Aside0.mk hpl
      have HCN := Aside0.mk hcn
      have HNS := Aside0.mk hn
      clear hb hsn htk hpl hcn hik
      by_cases hc : s[n] = c
      · have hq : ((s[n].toNat : Int) == (c.toNat : Int)) = true := by rw [hc]; exact beq_self_eq_true _
        have hq2 : (s[n].toNat == c.toNat) = true := by rw [hc]; exact beq_self_eq_true _
        have HE : Aside0 (partsS c (s.data.toList.take (n + 1)) = partsS c (s.data.toList.take n) ++ [ByteArray.empty]) := ⟨by unfold partsS; rw [HSN.out, if_pos hc, List.map_append]; rfl⟩
        have HL9 : Aside0 ((partsS c (s.data.toList.take n)).length ≤ 100000000) := ⟨by unfold partsS; rw [List.length_map]; have := HPL.out.1; have := HS.out; have := HNS.out; omega⟩
        clear hc
        obtain ⟨ps, hps⟩ : ∃ z, partsS c (s.data.toList.take n) = z := ⟨_, rfl⟩
        rw [hps] at RO HE HL9
        clear hps
        go_wp2_with (first | ((with_reducible refine gate_dst (N := 20) rfl ?_); refine litv_list ?hg (N := 20) ?hd (cs := #[.string ByteArray.empty]) (E := 9) ?hr ?_; (case hd => rfl); (case hg => rfl); (case hr => first | (go_simp; done) | (go_simp; rfl)); intro ga hg w3 hbox hb; replace hb := nb_ HB hb; replace RO := Aside0.mk (Kd.R_below RO.out hb); replace HB := bs_ HB hb; have LT := Aside0.mk hbox; have HGA := Aside0.mk hg; clear hb hbox hg) | ((with_reducible refine gate_dst (N := 21) rfl ?_); refine app9_list ?hg (.tmp 19) (.tmp 20) 58 ?ho Tryz.underlying58 info9 r1 ps ByteArray.empty ga ?hs ?hx RO.out LT.out HB.out HL9.out ?_; (case hg => rfl); (case ho => rfl); (case hs => rfl); (case hx => rfl); intro u w4 ho hb hg hat; clear RO HB LT; have RO := Aside0.mk ho; have HB := Aside0.mk hb; clear ho hb hg hat))
        go_roundg (gk - 1)
        case measure => have := HI.out; have := HNS.out; omega
        case rel => exact ⟨n + 1, _, rfl, by have := HNS.out; have := HS.out; go_num, ⟨by have := HI.out; have := HNS.out; omega⟩, ⟨by rw [HE.out]; exact RO.out⟩, HB⟩
      · have hq : ((s[n].toNat : Int) == (c.toNat : Int)) = false := beq_eq_false_iff_ne.2 (fun h => hc (UInt8.toNat_inj.1 (by omega)))
        have hq2 : (s[n].toNat == c.toNat) = false := beq_eq_false_iff_ne.2 (fun h => hc (UInt8.toNat_inj.1 h))
        obtain ⟨m, y, hm, hy, hym, hset⟩ := snoc_last _ HCN.out s[n]
        have hyl := HPL.out.2 y hym
        have hmb : m ≤ 20000000 := by have := HPL.out.1; omega
        have HE : Aside0 (partsS c (s.data.toList.take (n + 1)) = (partsS c (s.data.toList.take n)).set m (strT y ++ ⟨#[s[n]]⟩)) := ⟨by unfold partsS; rw [HSN.out, if_neg hc, hset]⟩
        have hm2 : (partsS c (s.data.toList.take n)).length = m + 1 := by unfold partsS; rw [List.length_map]; exact hm
        have hy2 : (partsS c (s.data.toList.take n))[m]? = some (strT y) := hy
        obtain ⟨ps, hps⟩ : ∃ z, partsS c (s.data.toList.take n) = z := ⟨_, rfl⟩
        rw [hps] at RO HE hm2 hy2
        obtain ⟨sy, hsy⟩ : ∃ z, strT y = z := ⟨_, rfl⟩
        have hys : sy.size ≤ 10000000 := by rw [← hsy, strT_size]; have := HS.out; omega
        rw [hsy] at HE hy2
        clear hps hsy hm hy hym hset hyl hc
        obtain ⟨gp, cp, cur, hv, hgp, hh, hcp, hmx, hcs, hct⟩ := R9_own RO.out (by intro h0; rw [h0] at hm2; simp at hm2)
        rw [hm2] at hv
        subst hv
        have hx0 : wr.cell? ⟨gp, m, none⟩ = some (.string sy) := by obtain ⟨g2, c2, e2, _, _, k2⟩ := R9_at RO.out (by intro h0; rw [h0] at hm2; simp at hm2); injection e2 with e2; injection e2 with e2; injection e2 with e2; subst e2; have := k2 m sy hy2; rwa [Nat.zero_add] at this
        have HCU : Aside0 (cur[m]? = some (.string sy)) := ⟨(blk_cell hh m).symm.trans hx0⟩
        have BKgp := Aside0.mk hh
        have HM := Aside0.mk hm2
        have HGP := Aside0.mk hgp
        have HCC : Aside0 (m + 1 ≤ cp) := ⟨by omega⟩
        have hpc : s.extract n (n + 1) = ⟨#[s[n]]⟩ := piece s n HNS.out
        have hz1 : (9223372036854775807 < sy.size + 1) = False := eq_false (by omega)
        have HM := Aside0.mk hm2
        have HGP := Aside0.mk hgp
        have hpc : s.extract n (n + 1) = ⟨#[s[n]]⟩ := piece s n HNS.out
        have hz1 : (9223372036854775807 < sy.size + 1) = False := eq_false (by omega)
        have HCC := Aside0.mk (hmx)
        have hcp2 : m + 1 ≤ cp := by omega
        clear hm2 hy2 hgp hh hcs hct hx0 hys
        go_upto_region 7 with (fail)
        have wm : wrap64 (m : Int) = (m : Int) := by unfold wrap64; omega
        have wn : wrap64 ((n : Int) + 1) = (n : Int) + 1 := by unfold wrap64; omega
        have hnt : ((n : Int) + 1).toNat = n + 1 := by omega
        have hn1 : (0 : Int) ≤ (n : Int) + 1 := by omega
        have hn2 : (n : Int) + 1 ≤ (s.size : Int) := by omega
        have hm1 : ((m : Int) < (m : Int) + 1) = True := eq_true (by omega)
        have hsl : ∀ wx, (Instr.slice 9 (.string s) (some (.int .i64 (n : Int))) (some (.int .i64 ((n : Int) + 1))) none).run Tryz.prog wx = .ok (.string ⟨#[s[n]]⟩) wx := fun wx => by rw [run_slice_string wx 9 s .i64 .i64 (n : Int) ((n : Int) + 1) Tryz.underlying9 (by omega) (by omega) (by omega), Int.toNat_natCast, hnt, hpc]
        clear hpc hnt hn1 hn2
        replace BKgp := kd_ BKgp
        replace RO := Aside0.mk (Kd.R_drew RO.out)
        replace HB := bd_ HB
        refine sM_ [13] (fun w' => w'.cell? ⟨gp, m, none⟩ = some (.string sy)) ref_split.tab7 ref_split.bits7 ((blk_cell BKgp.out m).trans HCU.out) (fun hHeld HT_ HW_ => ?_)
        generalize wr.drew = w5 at BKgp RO HB hHeld ⊢
        refine pM_ HT_ 0 22 1 ?_
        refine pM_ HT_ 1 23 3 ?_
        refine pM_ HT_ 6 28 67 ?_
        refine pM_ HT_ 7 29 195 ?_
        refine pM_ HT_ 8 30 451 ?_
        refine pM_ HT_ 9 31 963 ?_
        refine pM_ HT_ 10 32 1987 ?_
        refine pM_ HT_ 2 24 1991 ?_
        refine pM_ HT_ 3 25 1999 ?_
        refine pM_ HT_ 4 26 2015 ?_
        refine tM_ HT_ HW_ hHeld 5 27 2047 ?_
        refine pM_ HT_ 11 33 4095 ?_
        refine pM_ HT_ 12 34 8191 ?_
        refine lM_ HT_ 13 none 16383 (fun K hK => ?_)
        have hs_ := (blk_cell BKgp.out m).trans HCU.out
        have hf_ := blk_frozen BKgp.out m
        refine skJ_ (g := gp) (j := m) (u := .string (sy ++ ⟨#[s[n]]⟩)) ?_
        intro ws_ hp_
        clear hs_ hf_
        replace RO : Aside0 (R9 ws_ w.heap.size (.slice (some ⟨gp, 0, none⟩) (m + 1) cp) (ps.set m (sy ++ ⟨#[s[n]]⟩))) := ⟨by have k := R9_put (by rw [HM.out]; exact RO.out) (by rw [HM.out]; omega) hp_; rwa [HM.out] at k⟩
        replace HB : Aside0 (Below w.heap.size w ws_) := ⟨by rw [← hp_.e]; exact below_set HB.out HGP.out⟩
        clear hp_ BKgp
        refine hK.out _ _ ?_
        clear hK K
        refine dM_ HT_ ?_
        clear hsl hz1 wm wn hm1
        go_wp2
        go_roundg (gk - 1)
        case measure => have := HI.out; have := HNS.out; omega
        case rel => exact ⟨n + 1, _, rfl, by have := HNS.out; have := HS.out; go_num, ⟨by have := HI.out; have := HNS.out; omega⟩, ⟨by rw [HE.out]; exact RO.out⟩, HB⟩
    · have hd : decide ((n : Int) < (s.size : Int)) = false := decide_eq_false (by omega)
      have hd2 : decide (n < s.size) = false := decide_eq_false hn
      have hx : s.data.toList.take n = s.data.toList := List.take_of_length_le (by rw [Array.length_toList]; exact Nat.le_of_not_lt hn)
      rw [hx] at RO
      clear hx hik
      go_wp2
      go_ret
      exact ⟨_, rfl, RO.out, HB.out⟩
end Go.Proofs.YtlhfclpbodfmcaaGreatDoor.Pr
