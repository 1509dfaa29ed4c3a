/- Parse: the program's own. -/
import Derived.Test.YtlhfclpbodfmcaaGreatDoorYTc
import Derived.Test.YtlhfclpbodfmcaaGreatDoorYBTp
import Derived.Test.YtlhfclpbodfmcaaGreatDoorYBKq
import Derived.Test.YtlhfclpbodfmcaaGreatDoorYTe
namespace Go.Proofs.YtlhfclpbodfmcaaGreatDoor.Pr
open Go.RowKit Go.Proofs.YtlhfclpbodfmcaaGreatDoorW.PrintWords Go.Proofs.YtlhfclpbodfmcaaGreatDoorW.PrintLast Go.Proofs.YtlhfclpbodfmcaaGreatDoorW.PrintMore
set_option linter.unusedVariables false
set_option linter.unusedSimpArgs false
theorem at_k9 {w : World} {A : Option Addr} {n : Nat} {xs : List ByteArray} (h : Kd.C k9 w A n xs) (i : Nat) (h1 : i < n) : ∃ ad, A = some ad ∧ w.cell? (ad.add i) = some (.string (xs.getD i ByteArray.empty)) := by
  obtain ⟨ad, e, hc⟩ := h.2.2 (by omega)
  have hl : i < xs.length := by have := h.1; omega
  obtain ⟨cs, h2, h3, h4⟩ := hc i _ (List.getElem?_eq_getElem hl)
  have h3 : cs = [.string xs[i]] := h3
  subst h3
  have h5 := h4 0 _ rfl
  have hz : k9.sz = 1 := rfl
  rw [hz, Nat.mul_one, Nat.add_zero] at h5
  refine ⟨ad, e, ?_⟩
  rw [h5, List.getD_eq_getElem?_getD, List.getElem?_eq_getElem hl]
  rfl
theorem split_abs (s : ByteArray) (c : UInt8) (w : World) (he : Env w) (hs : s.size < 4294967281) :
    Calls Tryz.prog 32 #[.string s, .string ⟨#[c]⟩] w fun e w' => ∃ (A : Option Addr) (ps : List ByteArray), ps.map (·.data.toList) = Lib.split s.data.toList [c] ∧ (∀ x ∈ ps, x.size ≤ s.size) ∧ ps.length ≤ s.size + 1 ∧
      e = .returned (.slice A ps.length ps.length) ∧ Kd.C k9 w' A ps.length ps ∧ Below w.heap.size w w' :=
  (split_calls s c w he hs).mono fun e w' ⟨ps, h1, h2, h3, h4, h5, h6⟩ => ⟨_, ps, h1, h2, h3, h4, h5, h6⟩
theorem getD_size {ps : List ByteArray} {B : Nat} (h : ∀ x ∈ ps, x.size ≤ B) (n : Nat) : (ps.getD n ByteArray.empty).size ≤ B := by
  rw [List.getD_eq_getElem?_getD]
  by_cases hn : n < ps.length
  · rw [List.getElem?_eq_getElem hn]
    exact h _ (List.getElem_mem hn)
  · rw [List.getElem?_eq_none (by omega)]
    exact Nat.zero_le _
theorem stJ_ {P : Program} {ops : Array Oper} {Q : Exit → Act → World → Prop} {o : Oper} {rest : List Oper} {a : Act} {W : World} {g j : Nat} {u : Value} (h : ∀ W', SetJ W W' g j u → wpList P ops Q rest a W') (hgd : o.guard = none := by rfl) (hd : o.dst = none := by rfl) (hrun : (execOp a.eval o).run P W = .ok .skip (W.setCell ⟨g, j, none⟩ u) := by first | (go_simp; done) | (go_simp; rfl)) : wpList P ops Q (o :: rest) a W :=
  by
  refine wpList_plain hgd fun K hK => ?_
  unfold Oper.wp
  rw [hrun]
  show K (a.put o.dst undef) _
  rw [hd]
  exact hK _ _ (h _ ⟨rfl⟩)
abbrev R35 (W : World) (base : Nat) (v : Value) (xs : List S79) : Prop := Kd.R k79 35 W base (fun _ => True) v xs
theorem R35_set {W : World} {g t base : Nat} {cells : Array Value} {v u : Value} {xs : List S79} (ht : 35 ≠ t) (h : R35 W base v xs) (hk : W.heap[g]? = some (.cells cells t (0, 0))) (j : Nat) : R35 (W.setCell ⟨g, j, none⟩ u) base v xs :=
  Kd.R_set h hk (fun q hq => by rcases List.mem_cons.1 hq with rfl | hq; exact ht; exact absurd hq (by simp [k79, Kd.iso, Kd.pair, Kd.int, Kd.scalar])) j u
/-- Three numbers read so far. -/
structure Nums (qs : List ByteArray) (m : Nat) (a b c : Int) : Prop where
  h0 : 0 < m → Lib.atoiAll (at9 qs 0) = .ok a
  h1 : 1 < m → Lib.atoiAll (at9 qs 1) = .ok b
  h2 : 2 < m → Lib.atoiAll (at9 qs 2) = .ok c
set_option maxHeartbeats 4000000 in
set_option maxRecDepth 100000 in
theorem vessel_Parse.calls (s : ByteArray) (w : World) (hs : s.size ≤ 10000000) (he : Env w) :
    Calls Tryz.prog 8 #[.string s] w fun e w' => ∃ v0_ : Value, e = .returned (.tuple #[v0_, .int .i64 (parseF s.data.toList).2]) ∧ R35 w' w.heap.size v0_ (parseF s.data.toList).1 ∧ Below w.heap.size w w' := by
  have hu35 := Tryz.underlying35
  have hu62 := Tryz.underlying62
  have HS := Aside0.mk hs
  have HE := Aside0.mk he
  clear hs he
  have HB := Aside0.mk (Below.refl w.heap.size w)
  go_enter Tryz.func8, Tryz.ntmps8
  go_wp2_with fail
  refine (split_abs s 32 w HE.out (by have := HS.out; omega)).mono ?_
  rintro e w1 ⟨Aw, ps, hw, hsz, hln, rfl, hc, hb⟩
  have HB1 := bs_ HB (nb_ HB hb)
  clear HB
  have HE1 := Aside0.mk (HE.out.below HB1.out)
  have HW := Aside0.mk (words_split hw)
  have HSZ := Aside0.mk hsz
  have K9 := Aside0.mk hc
  have HB := Aside0.mk (Below.refl w1.heap.size w1)
  clear hw hsz hc hb
  by_cases h24 : 24 < ps.length
  · have hd : decide ((24 : Int) < (ps.length : Int)) = true := decide_eq_true (by omega)
    have hd2 : decide (24 < ps.length) = true := decide_eq_true h24
    have HP : Aside0 (parseF s.data.toList = ([], 3)) := ⟨parse_no (no_words HW.out h24)⟩
    clear h24
    go_wp2
    go_ret2
    exact ⟨_, by rw [HP.out]; rfl, by rw [HP.out]; exact Kd.R_nil _ _ _ _ _, (bs_ HB1 HB.out).out⟩
  · have hd : decide ((24 : Int) < (ps.length : Int)) = false := decide_eq_false (by omega)
    have hd2 : decide (24 < ps.length) = false := decide_eq_false h24
    have H24 : Aside0 (ps.length ≤ 24) := ⟨by omega⟩
    clear h24 hln
    go_wp2
    have RO : Aside0 (R35 w1 w1.heap.size (.slice none 0 0) []) := ⟨Kd.R_nil _ _ _ _ _⟩
    clear hd hd2
    go_loopg [5, 23] ps.length (fun kq v5 v23 w' => ∃ (n : Nat) (r1 : Value) (acc : List S79), r1 = v5 ∧ v23 = .int .i64 (n : Int) ∧ Aside0 (n + kq = ps.length) ∧ Aside0 (acc.length = n) ∧ Aside0 (∀ l, isText s.data.toList l → acc = l.take n) ∧ Aside0 (R35 w' w1.heap.size r1 acc) ∧ Aside0 (Below w1.heap.size w1 w'))
    case atStart => exact ⟨0, _, [], rfl, rfl, ⟨by omega⟩, ⟨rfl⟩, ⟨fun l _ => by simp⟩, RO, HB⟩
    case round =>
      clear RO HB
      obtain ⟨n, r1, acc, rfl, rfl, HI, HAL, HAC, RO, HB⟩ := hrel
      obtain ⟨gk0, hg0⟩ : ∃ z : Nat, z = gk := ⟨_, rfl⟩
      subst hg0
      have hik := HI.out
      by_cases hn : n < ps.length
      · have hd : decide ((n : Int) < (ps.length : Int)) = true := decide_eq_true (by omega)
        have hd2 : decide (n < ps.length) = true := decide_eq_true hn
        have HN := Aside0.mk hn
        have p1 : (0 : Int) ≤ (n : Int) := by omega
        have q1 : (n : Int) < (ps.length : Int) := by omega
        have hb_ : n ≤ 24 := by have := H24.out; omega
        obtain ⟨ad, e9, x0⟩ := at_k9 K9.out n hn
        cases e9
        replace x0 := pw_cell_below HB.out x0
        have hxs := getD_size HSZ.out n
        obtain ⟨x, hx⟩ : ∃ z, ps.getD n ByteArray.empty = z := ⟨_, rfl⟩
        rw [hx] at x0 hxs
        have HX : Aside0 (at9 ps n = x.data.toList) := ⟨by unfold at9; rw [hx]⟩
        have HXS := Aside0.mk hxs
        clear hx hxs hik hn
        go_wp2_with fail
        refine (split_abs x 44 _ (HE1.out.below HB.out) (by have := HS.out; have := HXS.out; omega)).mono ?_
        rintro e w3 ⟨Aq, qs, hq, hsz, hlq, rfl, hc, hb⟩
        replace hb := nb_ HB hb
        replace RO := Aside0.mk (Kd.R_below RO.out hb)
        replace HB := bs_ HB hb
        have HQ : Aside0 (Parts (at9 ps n) qs) := ⟨by rw [HX.out]; exact parts_split hq⟩
        have HQS := Aside0.mk hsz
        have K2 := Aside0.mk hc
        clear hq hsz hc hb x0 hlq
        by_cases h3 : qs.length = 3
        · have hd3 : decide ((qs.length : Int) = 3) = true := decide_eq_true (by omega)
          have hd4 : ((qs.length : Int) == 3) = true := beq_iff_eq.2 (by omega)
          have hd5 : (qs.length == 3) = true := beq_iff_eq.2 h3
          have H3 := Aside0.mk h3
          clear h3
          have HV3 := Aside0.mk (Below.refl w3.heap.size w3)
          have HB3 := HB
          clear HB
          have HB := HV3
          go_wp2_with (first | ((with_reducible refine gate_dst (N := 9) rfl ?_); refine bx_ 9 #[.int .i64 0, .int .i64 0, .int .i64 0] 62 ?_; intro gn hg w4 hbox hb; have GEgn := ge_ hg HB; replace RO := Aside0.mk (Kd.R_below RO.out hb); replace HB := bs_ HB hb; have BKgn := Aside0.mk hbox; clear hb hbox hg HV3))
          clear hd hd2 hd3 hd4 hd5 p1 q1
          go_loopg [34] 3 (fun kq v34 w' => ∃ (m : Nat) (a b c : Int), v34 = .int .i64 (m : Int) ∧ Aside0 (m + kq = 3) ∧ Aside0 (w'.heap[gn]? = some (.cells #[.int .i64 a, .int .i64 b, .int .i64 c] 62 (0, 0))) ∧ Aside0 (Nums qs m a b c) ∧ Aside0 (R35 w' w1.heap.size r1 acc) ∧ Aside0 (Below w3.heap.size w3 w'))
          case atStart => exact ⟨0, 0, 0, 0, rfl, ⟨by omega⟩, BKgn, ⟨⟨by omega, by omega, by omega⟩⟩, RO, HB⟩
          case round =>
            clear RO HB BKgn
            obtain ⟨m, a, b, c, rfl, HI2, BKgn, HNU, RO, HB⟩ := hrel
            have hm3 := HI2.out
            by_cases hm : m < 3
            · have hq3 := H3.out
              have hd : decide ((m : Int) < (qs.length : Int)) = true := decide_eq_true (by omega)
              have hd2 : decide (m < qs.length) = true := decide_eq_true (by omega)
              obtain ⟨ad2, e9, x0⟩ := at_k9 K2.out m (by omega)
              cases e9
              replace x0 := pw_cell_below HB.out x0
              have hys := getD_size HQS.out m
              obtain ⟨y, hy⟩ : ∃ z, qs.getD m ByteArray.empty = z := ⟨_, rfl⟩
              rw [hy] at x0 hys
              have HY : Aside0 (at9 qs m = y.data.toList) := ⟨by unfold at9; rw [hy]⟩
              have HYS := Aside0.mk hys
              clear hy hys
              have p1 : (0 : Int) ≤ (m : Int) := by omega
              have q1 : (m : Int) < (qs.length : Int) := by omega
              have HM := Aside0.mk hm
              clear hm3 hq3
              go_wp2_with fail
              refine (atoi_calls y _ (HE1.out.below (below_step HB3.out HB.out)) (by have := HS.out; have := HXS.out; have := HYS.out; omega)).mono ?_
              rintro e w5 ⟨hb, hway⟩
              replace hb := nb_ HB hb
              replace RO := Aside0.mk (Kd.R_below RO.out hb)
              replace BKgn := kb_ BKgn hb
              replace HB := bs_ HB hb
              clear hb x0
              rcases hway with ⟨v, hv, rfl⟩ | ⟨hno, kk, tt, pp, rfl⟩
              · have HVV : Aside0 (Lib.atoiAll (at9 qs m) = .ok v) := ⟨by rw [HY.out]; exact hv⟩
                clear hv
                have hmm : m = 0 ∨ m = 1 ∨ m = 2 := by omega
                rcases hmm with rfl | rfl | rfl
                · clear hd hd2 p1 q1 hm
                  go_wp2_with (first | ((with_reducible refine gate_store (t := 3) (p := 48) rfl ?_); have hc_ := (blk_cell BKgn.out 0).trans rfl; have hf_ := blk_frozen BKgn.out 0; refine stJ_ (g := gn) (j := 0) (u := .int .i64 v) ?_; intro ws_ hp_; clear hc_ hf_; replace RO : Aside0 (R35 ws_ w1.heap.size r1 acc) := ⟨by rw [← hp_.e]; exact R35_set (by decide) RO.out BKgn.out 0⟩; replace HB : Aside0 (Below w3.heap.size w3 ws_) := ⟨by rw [← hp_.e]; exact below_set HB.out GEgn.out⟩; replace BKgn : Aside0 (ws_.heap[gn]? = some (.cells #[.int .i64 v, .int .i64 b, .int .i64 c] 62 (0, 0))) := ⟨by rw [← hp_.e]; exact blk_put BKgn.out 0 _ rfl⟩; clear hp_))
                  go_roundg (gk - 1)
                  case measure => have := HI2.out; omega
                  case rel => exact ⟨1, v, b, c, by first | rfl | go_num, ⟨by have := HI2.out; omega⟩, BKgn, ⟨⟨fun _ => HVV.out, fun h => absurd h (by omega), fun h => absurd h (by omega)⟩⟩, RO, HB⟩
                · clear hd hd2 p1 q1 hm
                  go_wp2_with (first | ((with_reducible refine gate_store (t := 3) (p := 48) rfl ?_); have hc_ := (blk_cell BKgn.out 1).trans rfl; have hf_ := blk_frozen BKgn.out 1; refine stJ_ (g := gn) (j := 1) (u := .int .i64 v) ?_; intro ws_ hp_; clear hc_ hf_; replace RO : Aside0 (R35 ws_ w1.heap.size r1 acc) := ⟨by rw [← hp_.e]; exact R35_set (by decide) RO.out BKgn.out 1⟩; replace HB : Aside0 (Below w3.heap.size w3 ws_) := ⟨by rw [← hp_.e]; exact below_set HB.out GEgn.out⟩; replace BKgn : Aside0 (ws_.heap[gn]? = some (.cells #[.int .i64 a, .int .i64 v, .int .i64 c] 62 (0, 0))) := ⟨by rw [← hp_.e]; exact blk_put BKgn.out 1 _ rfl⟩; clear hp_))
                  go_roundg (gk - 1)
                  case measure => have := HI2.out; omega
                  case rel => exact ⟨2, a, v, c, by first | rfl | go_num, ⟨by have := HI2.out; omega⟩, BKgn, ⟨⟨fun _ => HNU.out.h0 (by omega), fun _ => HVV.out, fun h => absurd h (by omega)⟩⟩, RO, HB⟩
                · clear hd hd2 p1 q1 hm
                  go_wp2_with (first | ((with_reducible refine gate_store (t := 3) (p := 48) rfl ?_); have hc_ := (blk_cell BKgn.out 2).trans rfl; have hf_ := blk_frozen BKgn.out 2; refine stJ_ (g := gn) (j := 2) (u := .int .i64 v) ?_; intro ws_ hp_; clear hc_ hf_; replace RO : Aside0 (R35 ws_ w1.heap.size r1 acc) := ⟨by rw [← hp_.e]; exact R35_set (by decide) RO.out BKgn.out 2⟩; replace HB : Aside0 (Below w3.heap.size w3 ws_) := ⟨by rw [← hp_.e]; exact below_set HB.out GEgn.out⟩; replace BKgn : Aside0 (ws_.heap[gn]? = some (.cells #[.int .i64 a, .int .i64 b, .int .i64 v] 62 (0, 0))) := ⟨by rw [← hp_.e]; exact blk_put BKgn.out 2 _ rfl⟩; clear hp_))
                  go_roundg (gk - 1)
                  case measure => have := HI2.out; omega
                  case rel => exact ⟨3, a, b, v, by first | rfl | go_num, ⟨by have := HI2.out; omega⟩, BKgn, ⟨⟨fun _ => HNU.out.h0 (by omega), fun _ => HNU.out.h1 (by omega), fun _ => HVV.out⟩⟩, RO, HB⟩
              · have HP : Aside0 (parseF s.data.toList = ([], 3)) := ⟨parse_no (no_num HW.out HN.out HQ.out HM.out (by rw [HY.out]; exact hno))⟩
                clear hno hd hd2 p1 q1 hm
                replace HB := bs_ HB3 HB.out
                go_wp2
                go_ret2
                exact ⟨_, by rw [HP.out]; rfl, by rw [HP.out]; exact Kd.R_nil _ _ _ _ _, (bs_ HB1 HB.out).out⟩
            · obtain rfl : m = 3 := by omega
              have hd : decide ((3 : Int) < (qs.length : Int)) = false := decide_eq_false (by have := H3.out; omega)
              have hd2 : decide (3 < qs.length) = false := decide_eq_false (by have := H3.out; omega)
              have hd6 : decide (((3 : Nat) : Int) < (qs.length : Int)) = false := decide_eq_false (by have := H3.out; omega)
              have HAN := Aside0.mk (acc_next HW.out HN.out HQ.out HAC.out (HNU.out.h0 (by omega)) (HNU.out.h1 (by omega)) (HNU.out.h2 (by omega)))
              have HB4 := bs_ HB3 HB.out
              clear HB hm hm3
              have HB := HB4
              clear HB4
              obtain ⟨o0, o1, o2⟩ := c3_ BKgn
              have HDL : Aside0 (acc.length ≤ 1000) := ⟨by have := HAL.out; have := HN.out; have := H24.out; omega⟩
              go_wp2_with (first | ((with_reducible refine gate_dst (N := 58) rfl ?_); refine litv_list ?hg (N := 58) ?hd (cs := #[.int .i64 a, .int .i64 b, .int .i64 c]) (E := 35) ?hr ?_; (case hd => rfl); (case hg => rfl); (case hr => first | (go_simp; done) | (go_simp; rfl)); intro ga hg w6 hbox hb; clear o0 o1 o2; replace RO := Aside0.mk (Kd.R_below RO.out hb); replace HB := bs_ HB hb; have LT := Aside0.mk hbox; clear hb hbox hg) | ((with_reducible refine gate_dst (N := 59) rfl ?_); refine app79_list (w := w1) ?hg (.tmp 50) (.tmp 58) 23 35 ?ho Tryz.underlying23 info79 r1 acc (⟨a, b, c⟩ : S79) ga ?hs ?hx RO.out LT.out HB.out HDL.out ?_; (case hg => rfl); (case ho => rfl); (case hs => rfl); (case hx => rfl); intro u w7 ho hb hg hat; clear RO HB LT; have RO := Aside0.mk ho; have HB := Aside0.mk hb; clear ho hb hg hat))
              go_roundg (gk0 - 1)
              case measure => have := HI.out; have := HN.out; omega
              case rel => exact ⟨n + 1, _, _, rfl, by go_num, ⟨by have := HI.out; have := HN.out; omega⟩, ⟨by rw [List.length_append, HAL.out]; rfl⟩, HAN, RO, HB⟩
        · have hd3 : decide ((qs.length : Int) = 3) = false := decide_eq_false (by omega)
          have hd4 : ((qs.length : Int) == 3) = false := beq_eq_false_iff_ne.2 (by omega)
          have hd5 : (qs.length == 3) = false := beq_eq_false_iff_ne.2 h3
          have HP : Aside0 (parseF s.data.toList = ([], 3)) := ⟨parse_no (no_parts HW.out HN.out HQ.out h3)⟩
          clear h3
          go_wp2
          go_ret2
          exact ⟨_, by rw [HP.out]; rfl, by rw [HP.out]; exact Kd.R_nil _ _ _ _ _, (bs_ HB1 HB.out).out⟩
      · have hd : decide ((n : Int) < (ps.length : Int)) = false := decide_eq_false (by omega)
        have hd2 : decide (n < ps.length) = false := decide_eq_false hn
        have HAA := Aside0.mk (acc_all HW.out (.inl (by omega)) HAC.out)
        clear hik hn
        obtain ⟨A5, c5, rfl, hc5, k5⟩ := Kd.R_reads RO.out
        have C5 := Aside0.mk hc5
        have K5 := Aside0.mk k5
        clear hc5 k5
        go_wp2_with fail
        refine (vessel_Print.calls A5 c5 acc _ K5.out C5.out (HE1.out.below HB.out)).mono ?_
        rintro e w8 ⟨rfl, hb⟩
        replace hb := nb_ HB hb
        replace RO := Aside0.mk (Kd.R_below RO.out hb)
        replace HB := bs_ HB hb
        clear hb hd hd2
        unfold printF
        by_cases hv : validB acc = true
        · rw [if_pos hv]
          by_cases ht : printT acc = s.data.toList
          · have HP : Aside0 (parseF s.data.toList = (acc, 0)) := ⟨parse_ok ⟨hv, ht⟩⟩
            have hte : ((strT (printT acc)).toList == s.toList) = true := by rw [ByteArray.toList_eq, ByteArray.toList_eq, strT_data, ht]; exact beq_self_eq_true _
            clear hv ht
            go_wp2
            go_ret2
            exact ⟨_, by rw [HP.out]; rfl, by rw [HP.out]; exact Kd.R_lower RO.out HB1.out.size, (bs_ HB1 HB.out).out⟩
          · have HP : Aside0 (parseF s.data.toList = ([], 3)) := ⟨last_no HAA.out (fun h => ht h.2)⟩
            have hte : ((strT (printT acc)).toList == s.toList) = false := by rw [ByteArray.toList_eq, ByteArray.toList_eq, strT_data]; exact beq_eq_false_iff_ne.2 ht
            clear hv ht
            go_wp2
            go_ret2
            exact ⟨_, by rw [HP.out]; rfl, by rw [HP.out]; exact Kd.R_nil _ _ _ _ _, (bs_ HB1 HB.out).out⟩
        · have HP : Aside0 (parseF s.data.toList = ([], 3)) := ⟨last_no HAA.out (fun h => hv h.1)⟩
          rw [if_neg hv]
          clear hv
          go_wp2
          go_ret2
          exact ⟨_, by rw [HP.out]; rfl, by rw [HP.out]; exact Kd.R_nil _ _ _ _ _, (bs_ HB1 HB.out).out⟩
end Go.Proofs.YtlhfclpbodfmcaaGreatDoor.Pr
namespace Go.Proofs.YtlhfclpbodfmcaaGreatDoor.Pr
open Go.RowKit Go.Proofs.YtlhfclpbodfmcaaGreatDoorW.PrintWords Go.Proofs.YtlhfclpbodfmcaaGreatDoorW.PrintLast Go.Proofs.YtlhfclpbodfmcaaGreatDoorW.PrintMore
set_option linter.unusedVariables false
set_option linter.unusedSimpArgs false
theorem parts_data (c : UInt8) (l : List UInt8) : (partsS c l).map (·.data.toList) = cutC c l := by
  unfold partsS
  rw [List.map_map]
  conv => rhs; rw [← List.map_id (cutC c l)]
  apply List.map_congr_left
  intro x _
  simp [strT]
/-- A row of strings, its block and cells told. -/
structure Row9 (W : World) (A : Option Addr) (g : Nat) (cur : Array Value) (ps : List ByteArray) : Prop where
  e : A = some ⟨g, 0, none⟩
  blk : W.heap[g]? = some (.cells cur 9 (0, 0))
  at_ : ∀ j, j < ps.length → cur[j]? = some (.string (ps.getD j ByteArray.empty))
theorem rsplit_abs (s : ByteArray) (c : UInt8) (k : Int) (hk : k = (c.toNat : Int)) (w : World) (hs : s.size ≤ 10000000) :
    Calls Tryz.prog 34 #[.string s, .int .u8 k] w fun e w' => ∃ (g cc : Nat) (cur : Array Value) (ps : List ByteArray), ps.map (·.data.toList) = cutC c s.data.toList ∧ (∀ x ∈ ps, x.size ≤ s.size) ∧
      e = .returned (.slice (some ⟨g, 0, none⟩) ps.length cc) ∧ w'.heap[g]? = some (.cells cur 9 (0, 0)) ∧ (∀ j, j < ps.length → cur[j]? = some (.string (ps.getD j ByteArray.empty))) ∧ Below w.heap.size w w' := by
  subst hk
  refine (ref_split.calls s c w hs).mono ?_
  rintro e w' ⟨v, rfl, hr, hb⟩
  obtain ⟨g, cc, cur, rfl, _, hh, _, _, _, ht⟩ := R9_own hr (parts_ne _ _)
  refine ⟨g, cc, cur, _, parts_data _ _, ?_, rfl, hh, ?_, hb⟩
  · intro x hx
    obtain ⟨y, hy, rfl⟩ := List.mem_map.1 hx
    rw [strT_size]
    have := (parts_len c s.data.toList).2 y hy
    rw [Array.length_toList] at this
    exact this
  · intro j hj
    have h2 := congrArg (·[j]?) ht
    simp only [List.getElem?_take, if_pos hj, List.getElem?_map, List.getElem?_eq_getElem hj, Option.map_some] at h2
    rw [Array.getElem?_toList] at h2
    rw [h2, List.getD_eq_getElem?_getD, List.getElem?_eq_getElem hj]
    rfl
theorem words_cut {s : List UInt8} {ps : List ByteArray} (h : ps.map (·.data.toList) = cutC 32 s) : Words s ps := fun l ht => by rw [h]; exact (text_words ht).2
theorem parts_cut {x : List UInt8} {qs : List ByteArray} (h : qs.map (·.data.toList) = cutC 44 x) : Parts x qs := fun r ho e => by rw [h, ← e]; exact (ring_parts ho).2
theorem app79_step {P : Program} {ops : Array Oper} {o : Oper} {a : Act} {Q : Exit → Act → World → Prop} {Kc : Act → World → Prop} {w W : World} (hw : Region.wanted o (yielded ops a.tmps) = true) (s x : Operand) (t e : TypeId)
    (ho : o.op = .call { callee := .builtin .append, args := #[s, x], argTypes := #[t, t] }) (ht : P.underlying t = some (.slice e)) (hi : (P.info? e).map (fun i => (i.zero, i.size, i.bytes)) = some (some (.agg #[.int .i64 0, .int .i64 0, .int .i64 0]), 3, 24))
    (v : Value) (xs : List S79) (y : S79) (ga : Nat) (hs : a.eval s = v) (hx : a.eval x = .slice (some ⟨ga, 0, none⟩) 1 1) (HO : Kd.R k79 e W w.heap.size (fun _ => True) v xs) (HL : W.heap[ga]? = some (.cells #[.int .i64 y.f0, .int .i64 y.f1, .int .i64 y.f2] e (0, 0))) (HB : Below w.heap.size w W) (hl : xs.length ≤ 1000)
    (h : ∀ v1 w1, Kd.R k79 e w1 w.heap.size (fun _ => True) v1 (xs ++ [y]) → Below w.heap.size w w1 → W.grownBy w1 v.ownBlock → (v1.ownBlock = v.ownBlock ∨ ∃ b, v1.ownBlock = some b ∧ W.heap.size ≤ b) → Kc (a.put o.dst v1) w1) :
    if Region.wanted o (yielded ops a.tmps) = true then Oper.wp P o a W Kc Q else Kc (a.put o.dst undef) W := by
  refine Kd.R_append_rows_step k79 (w0 := w) w.heap.size hw s x t e (.agg #[.int .i64 0, .int .i64 0, .int .i64 0]) 24 ho ht hi (by rfl) (by decide) (by decide) v xs [y] (some ⟨ga, 0, none⟩) 1 1 (fun _ => True) (fun _ => False) hs hx HO (recRow79 HL) ?_ (fun k hk => hk.elim) (fun k hk => trivial) HB HB.size (by omega) h
  intro x cs hc
  subst hc
  exact k79_mkM _ _ _ x
def ref_Parse.T9 : Bool × List (List Nat × List Nat) := (true, [([], []), ([], []), ([1], [1]), ([2], [2]), ([3], [3]), ([], []), ([5], [5]), ([6], [6]), ([7, 4], [7]), ([], []), ([9], [9]), ([10], [10]), ([11, 8], [11]), ([4, 8, 12], [4, 8, 12]), ([13], [13]), ([0, 14, 12], [0, 14]), ([15, 15, 0, 1, 2, 3, 4, 5, 6, 7, 8, 9, 10, 11, 12, 13, 14, 15], [0, 15])])
def ref_Parse.B9 : List Nat := [0, 0, 2, 6, 14, 0, 32, 96, 254, 0, 512, 1536, 4094, 8190, 16382, 32767, 65535]
theorem ref_Parse.tab9 : rtab .any (opsOf Tryz.f9 9) = ref_Parse.T9 := by kernel_rfl
theorem ref_Parse.bits9 : waitsOk ref_Parse.T9.2 ref_Parse.B9 = true := by kernel_rfl
set_option maxHeartbeats 4000000 in
set_option maxRecDepth 100000 in
theorem ref_Parse.calls (s : ByteArray) (w : World) (hs : s.size ≤ 10000000) (he : Env w) :
    Calls Tryz.prog 9 #[.string s] w fun e w' => ∃ v0_ : Value, e = .returned (.tuple #[v0_, .int .i64 (parseF s.data.toList).2]) ∧ R35 w' w.heap.size v0_ (parseF s.data.toList).1 ∧ Below w.heap.size w w' := by
  have hu35 := Tryz.underlying35
  have HS := Aside0.mk hs
  have HE := Aside0.mk he
  clear hs he
  have HB := Aside0.mk (Below.refl w.heap.size w)
  go_enter Tryz.func9, Tryz.ntmps9
  go_wp2_with fail
  refine (rsplit_abs s 32 32 rfl w HS.out).mono ?_
  rintro e w1 ⟨gw, cw, cuw, ps, hw, hsz, rfl, hbk, hat, hb⟩
  have HB1 := bs_ HB (nb_ HB hb)
  clear HB
  have HE1 := Aside0.mk (HE.out.below HB1.out)
  have HW := Aside0.mk (words_cut hw)
  have HSZ := Aside0.mk hsz
  have BKw := Aside0.mk hbk
  have HAT := Aside0.mk hat
  have HB := Aside0.mk (Below.refl w1.heap.size w1)
  clear hw hsz hbk hat hb
  have RO : Aside0 (R35 w1 w1.heap.size (.slice none 0 0) []) := ⟨Kd.R_nil _ _ _ _ _⟩
  go_wp2
  go_loopg [4, 6] 25 (fun kq v4 v6 w' => ∃ (n : Nat) (r1 : Value) (acc : List S79), r1 = v4 ∧ v6 = .int .i64 (n : Int) ∧ Aside0 (n + kq = 25) ∧ Aside0 (acc.length = n) ∧ Aside0 (∀ l, isText s.data.toList l → acc = l.take n) ∧ Aside0 (R35 w' w1.heap.size r1 acc) ∧ Aside0 (Below w1.heap.size w1 w'))
  case atStart => exact ⟨0, _, [], rfl, rfl, ⟨by omega⟩, ⟨rfl⟩, ⟨fun l _ => by simp⟩, RO, HB⟩
  case round =>
    clear RO HB
    obtain ⟨n, r1, acc, rfl, rfl, HI, HAL, HAC, RO, HB⟩ := hrel
    have hik := HI.out
    by_cases hn : n < ps.length
    · have hd : decide ((n : Int) < (ps.length : Int)) = true := decide_eq_true (by omega)
      have hd2 : decide (n < ps.length) = true := decide_eq_true hn
      by_cases h25 : n ≤ 24
      · have hd3 : decide ((n : Int) ≤ 24) = true := decide_eq_true (by omega)
        have hd4 : decide (n ≤ 24) = true := decide_eq_true h25
        have HN := Aside0.mk hn
        have p1 : (0 : Int) ≤ (n : Int) := by omega
        have q1 : (n : Int) < (ps.length : Int) := by omega
        have hb_ := h25
        have x0 := pw_cell_below HB.out ((blk_cell BKw.out n).trans (HAT.out n hn))
        have hxs := getD_size HSZ.out n
        obtain ⟨x, hx⟩ : ∃ z, ps.getD n ByteArray.empty = z := ⟨_, rfl⟩
        rw [hx] at x0 hxs
        have HX : Aside0 (at9 ps n = x.data.toList) := ⟨by unfold at9; rw [hx]⟩
        have HXS := Aside0.mk hxs
        clear hx hxs hik hn h25
        go_wp2_with fail
        refine (rsplit_abs x 44 44 rfl _ (by have := HS.out; have := HXS.out; omega)).mono ?_
        rintro e w3 ⟨gq, cq, cuq, qs, hq, hsz, rfl, hbk, hat, hb⟩
        replace hb := nb_ HB hb
        replace RO := Aside0.mk (Kd.R_below RO.out hb)
        replace HB := bs_ HB hb
        have HQ : Aside0 (Parts (at9 ps n) qs) := ⟨by rw [HX.out]; exact parts_cut hq⟩
        have BKq := Aside0.mk hbk
        clear hq hbk hb x0
        by_cases h3 : qs.length = 3
        · have hd5 : decide ((qs.length : Int) = 3) = true := decide_eq_true (by omega)
          have hd6 : ((qs.length : Int) == 3) = true := beq_iff_eq.2 (by omega)
          have hd7 : (qs.length == 3) = true := beq_iff_eq.2 h3
          have x0 := hat 0 (by omega)
          have hy0 := getD_size hsz 0
          obtain ⟨y0, hz0⟩ : ∃ z, qs.getD 0 ByteArray.empty = z := ⟨_, rfl⟩
          rw [hz0] at x0 hy0
          have C0 := Aside0.mk x0
          obtain ⟨n0, hn0⟩ : ∃ z, numberF (at9 qs 0) = z := ⟨_, rfl⟩
          have N0 : Aside0 (∀ W, Calls Tryz.prog 35 #[.string y0] W fun e w' => e = .returned (.int .i64 n0) ∧ Below W.heap.size W w') := ⟨fun W => by have h := ref_number.calls y0 W (by have := HS.out; have := HXS.out; omega); rwa [show numberF y0.data.toList = n0 from by rw [← hn0]; unfold at9; rw [hz0]] at h⟩
          have x1 := hat 1 (by omega)
          have hy1 := getD_size hsz 1
          obtain ⟨y1, hz1⟩ : ∃ z, qs.getD 1 ByteArray.empty = z := ⟨_, rfl⟩
          rw [hz1] at x1 hy1
          have C1 := Aside0.mk x1
          obtain ⟨n1, hn1⟩ : ∃ z, numberF (at9 qs 1) = z := ⟨_, rfl⟩
          have N1 : Aside0 (∀ W, Calls Tryz.prog 35 #[.string y1] W fun e w' => e = .returned (.int .i64 n1) ∧ Below W.heap.size W w') := ⟨fun W => by have h := ref_number.calls y1 W (by have := HS.out; have := HXS.out; omega); rwa [show numberF y1.data.toList = n1 from by rw [← hn1]; unfold at9; rw [hz1]] at h⟩
          have x2 := hat 2 (by omega)
          have hy2 := getD_size hsz 2
          obtain ⟨y2, hz2⟩ : ∃ z, qs.getD 2 ByteArray.empty = z := ⟨_, rfl⟩
          rw [hz2] at x2 hy2
          have C2 := Aside0.mk x2
          obtain ⟨n2, hn2⟩ : ∃ z, numberF (at9 qs 2) = z := ⟨_, rfl⟩
          have N2 : Aside0 (∀ W, Calls Tryz.prog 35 #[.string y2] W fun e w' => e = .returned (.int .i64 n2) ∧ Below W.heap.size W w') := ⟨fun W => by have h := ref_number.calls y2 W (by have := HS.out; have := HXS.out; omega); rwa [show numberF y2.data.toList = n2 from by rw [← hn2]; unfold at9; rw [hz2]] at h⟩
          have HAN := acc_nextN HW.out HN.out HQ.out HAC.out
          rw [hn0, hn1, hn2] at HAN
          replace HAN := Aside0.mk HAN
          have i0 : (0 : Int) < (qs.length : Int) := by omega
          have i1 : (1 : Int) < (qs.length : Int) := by omega
          have i2 : (2 : Int) < (qs.length : Int) := by omega
          have j0 : 0 < qs.length := by omega
          have j1 : 1 < qs.length := by omega
          have j2 : 2 < qs.length := by omega
          have HDL : Aside0 (acc.length ≤ 1000) := ⟨by rw [HAL.out]; omega⟩
          clear hat hsz h3 x0 x1 x2 hy0 hy1 hy2 hz0 hz1 hz2 hn0 hn1 hn2
          go_upto_region 9 with (fail)
          clear hd hd2 hd3 hd4 hd5 hd6 hd7 p1 q1
          replace BKq := kd_ BKq
          replace RO := Aside0.mk (Kd.R_drew RO.out)
          replace HB := bd_ HB
          refine sM_ [] (fun w' => w'.cell? ⟨gq, 0, none⟩ = some (.string y0) ∧ w'.cell? ⟨gq, 1, none⟩ = some (.string y1) ∧ w'.cell? ⟨gq, 2, none⟩ = some (.string y2)) ref_Parse.tab9 ref_Parse.bits9 ⟨((blk_cell BKq.out 0).trans C0.out), ((blk_cell BKq.out 1).trans C1.out), ((blk_cell BKq.out 2).trans C2.out)⟩ (fun hHeld HT_ HW_ => ?_)
          generalize w3.drew = w5 at BKq RO HB hHeld ⊢
          refine pM_ HT_ 0 30 1 ?_
          refine pM_ HT_ 1 31 3 ?_
          refine pM_ HT_ 2 32 7 ?_
          refine pM_ HT_ 5 35 39 ?_
          refine pM_ HT_ 6 36 103 ?_
          refine pM_ HT_ 9 39 615 ?_
          refine pM_ HT_ 10 40 1639 ?_
          refine tM_ HT_ HW_ hHeld 3 33 1647 ?_
          refine tM_ HT_ HW_ hHeld 7 37 1775 ?_
          refine tM_ HT_ HW_ hHeld 11 41 3823 ?_
          refine oM_ HT_ 4 (some 34) 3839 (fun K hK => ?_)
          refine gM_ Tryz.func35 (N0.out _) ?_
          rintro e wx ⟨rfl, hb⟩
          refine ⟨_, rfl, ?_⟩
          replace hb := nb_ HB hb
          replace BKq := kb_ BKq hb
          replace RO := Aside0.mk (Kd.R_below RO.out hb)
          replace HB := bs_ HB hb
          (try clear hb)
          refine hK.out _ _ ⟨((blk_cell BKq.out 0).trans C0.out), ((blk_cell BKq.out 1).trans C1.out), ((blk_cell BKq.out 2).trans C2.out)⟩ (fun hHeld => ?_)
          clear hK K
          refine nM_ ?_
          refine oM_ HT_ 8 (some 38) 4095 (fun K hK => ?_)
          refine gM_ Tryz.func35 (N1.out _) ?_
          rintro e wy ⟨rfl, hb⟩
          refine ⟨_, rfl, ?_⟩
          replace hb := nb_ HB hb
          replace BKq := kb_ BKq hb
          replace RO := Aside0.mk (Kd.R_below RO.out hb)
          replace HB := bs_ HB hb
          (try clear hb)
          refine hK.out _ _ ⟨((blk_cell BKq.out 0).trans C0.out), ((blk_cell BKq.out 1).trans C1.out), ((blk_cell BKq.out 2).trans C2.out)⟩ (fun hHeld => ?_)
          clear hK K
          refine nM_ ?_
          refine oM_ HT_ 12 (some 42) 8191 (fun K hK => ?_)
          refine gM_ Tryz.func35 (N2.out _) ?_
          rintro e wz ⟨rfl, hb⟩
          refine ⟨_, rfl, ?_⟩
          replace hb := nb_ HB hb
          replace BKq := kb_ BKq hb
          replace RO := Aside0.mk (Kd.R_below RO.out hb)
          replace HB := bs_ HB hb
          (try clear hb)
          refine hK.out _ _ ⟨((blk_cell BKq.out 0).trans C0.out), ((blk_cell BKq.out 1).trans C1.out), ((blk_cell BKq.out 2).trans C2.out)⟩ (fun hHeld => ?_)
          clear hK K
          refine nM_ ?_
          refine pM_ HT_ 13 43 16383 ?_
          refine oM_ HT_ 14 (some 44) 32767 (fun K hK => ?_)
          refine lT_ 44 #[.int .i64 n0, .int .i64 n1, .int .i64 n2] 35 ?_
          intro gl hg wl hbox hb
          replace hb := nb_ HB hb
          replace BKq := kb_ BKq hb
          replace RO := Aside0.mk (Kd.R_below RO.out hb)
          replace HB := bs_ HB hb
          have LT := Aside0.mk hbox
          clear hb hbox hg
          refine hK.out _ _ ⟨((blk_cell BKq.out 0).trans C0.out), ((blk_cell BKq.out 1).trans C1.out), ((blk_cell BKq.out 2).trans C2.out)⟩ (fun hHeld => ?_)
          clear hK K
          refine nM_ ?_
          refine oM_ HT_ 15 (some 45) 65535 (fun K hK => ?_)
          refine app79_step (w := w1) (by rfl) (.tmp 30) (.tmp 44) 23 35 rfl Tryz.underlying23 info79 r1 acc (⟨n0, n1, n2⟩ : S79) gl rfl rfl RO.out LT.out HB.out HDL.out ?_
          intro u wa ho hb hg hat
          replace BKq := Aside0.mk (blk_grown BKq.out hg (Kd.R_ne RO.out BKq.out (by decide)))
          clear RO HB LT
          have RO := Aside0.mk ho
          have HB := Aside0.mk hb
          clear ho hb hg hat
          refine hK.out _ _ ⟨((blk_cell BKq.out 0).trans C0.out), ((blk_cell BKq.out 1).trans C1.out), ((blk_cell BKq.out 2).trans C2.out)⟩ (fun hHeld => ?_)
          clear hK K
          refine nM_ ?_
          refine pM_ HT_ 16 4 131071 ?_
          refine dM_ HT_ ?_
          clear i0 i1 i2 j0 j1 j2
          go_wp2
          go_roundg (gk - 1)
          case measure => have := HI.out; omega
          case rel => exact ⟨n + 1, _, _, rfl, by go_num, ⟨by have := HI.out; omega⟩, ⟨by rw [List.length_append, HAL.out]; rfl⟩, HAN, RO, HB⟩
        · have hd5 : decide ((qs.length : Int) = 3) = false := decide_eq_false (by omega)
          have hd6 : ((qs.length : Int) == 3) = false := beq_eq_false_iff_ne.2 (by omega)
          have hd7 : (qs.length == 3) = false := beq_eq_false_iff_ne.2 h3
          have HP : Aside0 (parseF s.data.toList = ([], 3)) := ⟨parse_no (no_parts HW.out HN.out HQ.out h3)⟩
          clear h3 hat hsz
          go_wp2
          go_ret2
          exact ⟨_, by rw [HP.out]; rfl, by rw [HP.out]; exact Kd.R_nil _ _ _ _ _, (bs_ HB1 HB.out).out⟩
      · have hd3 : decide ((n : Int) ≤ 24) = false := decide_eq_false (by omega)
        have hd4 : decide (n ≤ 24) = false := decide_eq_false h25
        have HAA := Aside0.mk (acc_all HW.out (.inr (by omega)) HAC.out)
        clear hik hn h25
        obtain ⟨A5, c5, rfl, hc5, k5⟩ := Kd.R_reads RO.out
        have K5 := Aside0.mk k5
        clear hc5 k5
        go_wp2_with fail
        refine (ref_Print.calls A5 c5 acc _ K5.out (HE1.out.below HB.out)).mono ?_
        rintro e w8 ⟨rfl, hb⟩
        replace hb := nb_ HB hb
        replace RO := Aside0.mk (Kd.R_below RO.out hb)
        replace HB := bs_ HB hb
        clear hb
        unfold printF
        by_cases hv : validB acc = true
        · rw [if_pos hv]
          by_cases ht : printT acc = s.data.toList
          · have HP : Aside0 (parseF s.data.toList = (acc, 0)) := ⟨parse_ok ⟨hv, ht⟩⟩
            have hte : ((strT (printT acc)).toList == s.toList) = true := by rw [ByteArray.toList_eq, ByteArray.toList_eq, strT_data, ht]; exact beq_self_eq_true _
            clear hv ht
            go_wp2
            go_ret2
            exact ⟨_, by rw [HP.out]; rfl, by rw [HP.out]; exact Kd.R_lower RO.out HB1.out.size, (bs_ HB1 HB.out).out⟩
          · have HP : Aside0 (parseF s.data.toList = ([], 3)) := ⟨last_no HAA.out (fun h => ht h.2)⟩
            have hte : ((strT (printT acc)).toList == s.toList) = false := by rw [ByteArray.toList_eq, ByteArray.toList_eq, strT_data]; exact beq_eq_false_iff_ne.2 ht
            clear hv ht
            go_wp2
            go_ret2
            exact ⟨_, by rw [HP.out]; rfl, by rw [HP.out]; exact Kd.R_nil _ _ _ _ _, (bs_ HB1 HB.out).out⟩
        · have HP : Aside0 (parseF s.data.toList = ([], 3)) := ⟨last_no HAA.out (fun h => hv h.1)⟩
          rw [if_neg hv]
          clear hv
          go_wp2
          go_ret2
          exact ⟨_, by rw [HP.out]; rfl, by rw [HP.out]; exact Kd.R_nil _ _ _ _ _, (bs_ HB1 HB.out).out⟩
    · have hd : decide ((n : Int) < (ps.length : Int)) = false := decide_eq_false (by omega)
      have hd2 : decide (n < ps.length) = false := decide_eq_false hn
      have HAA := Aside0.mk (acc_all HW.out (.inl (by omega)) HAC.out)
      clear hik hn
      obtain ⟨A5, c5, rfl, hc5, k5⟩ := Kd.R_reads RO.out
      have K5 := Aside0.mk k5
      clear hc5 k5
      go_wp2_with fail
      refine (ref_Print.calls A5 c5 acc _ K5.out (HE1.out.below HB.out)).mono ?_
      rintro e w8 ⟨rfl, hb⟩
      replace hb := nb_ HB hb
      replace RO := Aside0.mk (Kd.R_below RO.out hb)
      replace HB := bs_ HB hb
      clear hb
      unfold printF
      by_cases hv : validB acc = true
      · rw [if_pos hv]
        by_cases ht : printT acc = s.data.toList
        · have HP : Aside0 (parseF s.data.toList = (acc, 0)) := ⟨parse_ok ⟨hv, ht⟩⟩
          have hte : ((strT (printT acc)).toList == s.toList) = true := by rw [ByteArray.toList_eq, ByteArray.toList_eq, strT_data, ht]; exact beq_self_eq_true _
          clear hv ht
          go_wp2
          go_ret2
          exact ⟨_, by rw [HP.out]; rfl, by rw [HP.out]; exact Kd.R_lower RO.out HB1.out.size, (bs_ HB1 HB.out).out⟩
        · have HP : Aside0 (parseF s.data.toList = ([], 3)) := ⟨last_no HAA.out (fun h => ht h.2)⟩
          have hte : ((strT (printT acc)).toList == s.toList) = false := by rw [ByteArray.toList_eq, ByteArray.toList_eq, strT_data]; exact beq_eq_false_iff_ne.2 ht
          clear hv ht
          go_wp2
          go_ret2
          exact ⟨_, by rw [HP.out]; rfl, by rw [HP.out]; exact Kd.R_nil _ _ _ _ _, (bs_ HB1 HB.out).out⟩
      · have HP : Aside0 (parseF s.data.toList = ([], 3)) := ⟨last_no HAA.out (fun h => hv h.1)⟩
        rw [if_neg hv]
        clear hv
        go_wp2
        go_ret2
        exact ⟨_, by rw [HP.out]; rfl, by rw [HP.out]; exact Kd.R_nil _ _ _ _ _, (bs_ HB1 HB.out).out⟩
end Go.Proofs.YtlhfclpbodfmcaaGreatDoor.Pr
