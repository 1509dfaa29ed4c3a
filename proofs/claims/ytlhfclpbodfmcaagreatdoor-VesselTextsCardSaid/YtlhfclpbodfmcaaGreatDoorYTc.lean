/- Print: the program's own. -/
import Derived.Test.YtlhfclpbodfmcaaGreatDoorYTa
import Derived.Test.YtlhfclpbodfmcaaGreatDoorYBTp
import Derived.Test.YtlhfclpbodfmcaaGreatDoorYBKq
import Derived.Test.YtlhfclpbodfmcaaGreatDoorYBRa
namespace Go.Proofs.YtlhfclpbodfmcaaGreatDoor.Pr
open Go.RowKit Go.Proofs.YtlhfclpbodfmcaaGreatDoorW.PrintWords Go.Proofs.YtlhfclpbodfmcaaGreatDoorW.PrintLast Go.Proofs.YtlhfclpbodfmcaaGreatDoorW.PrintMore
set_option linter.unusedVariables false
set_option linter.unusedSimpArgs false
def ringS (r : S79) : ByteArray := strT (ringT r)
theorem ringS_cat (r : S79) : strT (Lib.itoa r.f0) ++ ⟨#[44]⟩ ++ strT (Lib.itoa r.f1) ++ ⟨#[44]⟩ ++ strT (Lib.itoa r.f2) = ringS r := by
  have h : (⟨#[44]⟩ : ByteArray) = strT [44] := rfl
  unfold ringS
  rw [ringT_eq, h, strT_add, strT_add, strT_add, strT_add]
theorem ring_lens {r : S79} (h : okR r) : (strT (Lib.itoa r.f0)).size ≤ 100001 ∧ (strT (Lib.itoa r.f1)).size ≤ 100001 ∧ (strT (Lib.itoa r.f2)).size ≤ 100001 := by
  unfold okR at h
  rw [strT_size, strT_size, strT_size]
  exact ⟨itoa_len (by omega) (by omega), itoa_len (by omega) (by omega), itoa_len (by omega) (by omega)⟩
theorem cat_room {a b c : ByteArray} (h : a.size ≤ 100001 ∧ b.size ≤ 100001 ∧ c.size ≤ 100001) : ((9223372036854775807 < a.size + 1) = False) ∧ ((9223372036854775807 < a.size + 1 + b.size) = False) ∧ ((9223372036854775807 < a.size + 1 + b.size + 1) = False) ∧ ((9223372036854775807 < a.size + 1 + b.size + 1 + c.size) = False) := by
  obtain ⟨h1, h2, h3⟩ := h
  exact ⟨eq_false (by omega), eq_false (by omega), eq_false (by omega), eq_false (by omega)⟩
theorem take_ringS (l0 : List S79) (n : Nat) (h : n < l0.length) : (l0.take n).map ringS ++ [ringS (rd_T79 l0 (n : Int))] = (l0.take (n + 1)).map ringS := by
  have hr : rd_T79 l0 (n : Int) = l0[n] := by simp [rd_T79, List.getD_eq_getElem?_getD, List.getElem?_eq_getElem h]
  rw [hr, List.take_add_one, List.getElem?_eq_getElem h, List.map_append]
  rfl
theorem valid_ring {l : List S79} (h : validB l = true) (n : Nat) (hn : n < l.length) : okR (rd_T79 l (n : Int)) := by
  have g := valid_GV h
  have hr : rd_T79 l (n : Int) = l[n] := by simp [rd_T79, List.getD_eq_getElem?_getD, List.getElem?_eq_getElem hn]
  rw [hr]
  have hm : l[n] ∈ l := List.getElem_mem hn
  have m0 : l[n].f0 ∈ l.map (·.f0) := List.mem_map.2 ⟨_, hm, rfl⟩
  have m1 : l[n].f1 ∈ l.map (·.f1) := List.mem_map.2 ⟨_, hm, rfl⟩
  have m2 : l[n].f2 ∈ l.map (·.f2) := List.mem_map.2 ⟨_, hm, rfl⟩
  have h1 := g.h.pos _ m0
  have h2 := g.v.pos _ m1
  have h3 := g.d.pos _ m2
  have h4 := g.h.le _ m0
  have h5 := g.v.le _ m1
  have h6 := g.d.le _ m2
  unfold okR
  omega
theorem R9_set3 {W : World} {g t base : Nat} {a b c x y z v : Value} {xs : List ByteArray} (ht : 9 ≠ t) (h : R9 W base v xs) (hk : W.heap[g]? = some (.cells #[a, b, c] t (0, 0))) :
    R9 (((W.setCell ⟨g, 0, none⟩ x).setCell ⟨g, 1, none⟩ y).setCell ⟨g, 2, none⟩ z) base v xs := by
  have k1 : (W.setCell ⟨g, 0, none⟩ x).heap[g]? = some (.cells #[x, b, c] t (0, 0)) := blk_put hk 0 x rfl
  have k2 : ((W.setCell ⟨g, 0, none⟩ x).setCell ⟨g, 1, none⟩ y).heap[g]? = some (.cells #[x, y, c] t (0, 0)) := blk_put k1 1 y rfl
  have hE : ∀ q, q ∈ 9 :: k9.E → q ≠ t := fun q hq => by rcases List.mem_cons.1 hq with rfl | hq; exact ht; exact absurd hq (by simp [k9, Kd.scalar])
  exact Kd.R_set (Kd.R_set (Kd.R_set h hk hE 0 x) k1 hE 1 y) k2 hE 2 z
theorem joins {l : List S79} (h : validB l = true) : l.map ringS ≠ [] ∧ (l.map ringS).length ≤ 100000 ∧ (Lib.join ((l.map ringS).map (·.data.toList)) [32]).length ≤ 140737488355328 ∧ Lib.join ((l.map ringS).map (·.data.toList)) [32] = printT l := by
  have g := (valid_GV h).h.ln
  rw [List.length_map] at g
  have e : (l.map ringS).map (·.data.toList) = l.map ringT := by
    rw [List.map_map]
    apply List.map_congr_left
    intro r _
    simp [ringS, strT]
  refine ⟨by intro h0; have h1 := List.map_eq_nil_iff.1 h0; have g1 := (valid_GV h).h.ne; rw [List.length_map, h1] at g1; simp at g1, by rw [List.length_map]; omega, ?_, by rw [e]; rfl⟩
  rw [e]
  have hl := join_len 32 300006 (l.map ringT) (by
    intro x hx
    obtain ⟨r, hr, rfl⟩ := List.mem_map.1 hx
    obtain ⟨n, hn, rfl⟩ := List.mem_iff_getElem.1 hr
    have k := valid_ring h n hn
    have : rd_T79 l (n : Int) = l[n] := by simp [rd_T79, List.getD_eq_getElem?_getD, List.getElem?_eq_getElem hn]
    rw [this] at k
    exact ring_len k)
  rw [List.length_map] at hl
  have := Nat.mul_le_mul_right 300007 (show l.length ≤ 24 by omega)
  omega
def vessel_Print.T8 : Bool × List (List Nat × List Nat) := (true, [([], []), ([], []), ([1], [1]), ([2], [2]), ([3], [3]), ([], []), ([5], [5]), ([6, 3], [6]), ([4, 7], [4, 7]), ([8], [8]), ([], []), ([10], [10]), ([11, 7], [11]), ([9, 12], [9, 12]), ([13], [13]), ([0, 14, 12], [0, 14]), ([15, 15, 0, 1, 2, 3, 4, 5, 6, 7, 8, 9, 10, 11, 12, 13, 14, 15], [0, 15])])
def vessel_Print.B8 : List Nat := [0, 0, 2, 6, 14, 0, 32, 110, 254, 510, 0, 1024, 3310, 8190, 16382, 32767, 65535]
theorem vessel_Print.tab8 : rtab .any (opsOf Tryz.f6 8) = vessel_Print.T8 := by kernel_rfl
theorem vessel_Print.bits8 : waitsOk vessel_Print.T8.2 vessel_Print.B8 = true := by kernel_rfl
set_option maxHeartbeats 1600000 in
set_option maxRecDepth 100000 in
theorem vessel_Print.calls (A0 : Option Addr) (c0 : Nat) (l0 : List S79) (w : World) (hr0 : Kd.C k79 w A0 l0.length l0) (hc0 : l0.length ≤ c0) (he : Env w) :
    Calls Tryz.prog 6 #[.slice A0 l0.length c0] w fun e w' => e = .returned (.tuple #[.string (strT (printF l0).1), .int .i64 (printF l0).2]) ∧ Below w.heap.size w w' := by
  have hu35 := Tryz.underlying35
  have HR0 := Aside0.mk hr0
  have HC0 := Aside0.mk hc0
  have HE := Aside0.mk he
  clear hr0 hc0 he
  have HB := Aside0.mk (Below.refl w.heap.size w)
  unfold printF
  by_cases hv : validB l0 = true
  · rw [if_pos hv]
    have HVD := Aside0.mk hv
    have hK : vessel_Check.f 30 l0 = some 0 := by rw [vCheck]; unfold checkF; rw [hv]; rfl
    have HK := Aside0.mk hK
    have hlen := (valid_GV hv).h.ln
    rw [List.length_map] at hlen
    have HLEN := Aside0.mk hlen
    clear hK hv hlen
    go_enter Tryz.func6, Tryz.ntmps6
    go_wp2_with (first | ((with_reducible refine gate_callee (f := 26) rfl ?_); refine gL_ (some 9) Tryz.func26 (vessel_Check.calls 30 A0 c0 l0 0 _ (Kd.C_below HR0.out HB.out) HC0.out HK.out) ?_; rintro e w2 ⟨rfl, hb⟩; refine ⟨.int .i64 0, rfl, ?_⟩; replace hb := nb_ HB hb; replace HB := bs_ HB hb; clear hb))
    have RO : Aside0 (R9 w2 w.heap.size (.slice none 0 0) ((l0.take 0).map ringS)) := ⟨Kd.R_nil _ _ _ _ _⟩
    go_loopg [5, 15] l0.length (fun kq v5 v15 w' => ∃ (n : Nat) (r1 : Value), r1 = v5 ∧ v15 = .int .i64 (n : Int) ∧ Aside0 (n + kq = l0.length) ∧ Aside0 (R9 w' w.heap.size r1 ((l0.take n).map ringS)) ∧ Aside0 (Below w.heap.size w w'))
    case atStart => exact ⟨0, _, rfl, rfl, ⟨by omega⟩, RO, HB⟩
    case round =>
      clear RO HB
      obtain ⟨n, r1, rfl, rfl, HI, RO, HB⟩ := hrel
      have hik := HI.out
      by_cases hij : n < l0.length
      · have hd : decide ((n : Int) < (l0.length : Int)) = true := decide_eq_true (by omega)
        have hd2 : decide (n < l0.length) = true := decide_eq_true hij
        clear hik
        have p1 : (0 : Int) ≤ (n : Int) := by omega
        have q1 : (n : Int) < (l0.length : Int) := by omega
        obtain ⟨ad, e9, x0, x1, x2⟩ := at_T79 HR0.out (n : Int) p1 q1
        cases e9
        simp only [Int.toNat_natCast] at x0 x1 x2
        replace x0 := pw_cell_below HB.out x0
        replace x1 := pw_cell_below HB.out x1
        replace x2 := pw_cell_below HB.out x2
        have hrr := valid_ring HVD.out n hij
        have htk := take_ringS l0 n hij
        obtain ⟨ra, hra⟩ : ∃ z, (rd_T79 l0 (n : Int)).f0 = z := ⟨_, rfl⟩
        obtain ⟨rb, hrb⟩ : ∃ z, (rd_T79 l0 (n : Int)).f1 = z := ⟨_, rfl⟩
        obtain ⟨rc, hrc⟩ : ∃ z, (rd_T79 l0 (n : Int)).f2 = z := ⟨_, rfl⟩
        have hlr := ring_lens hrr
        unfold okR at hrr
        rw [hra, hrb, hrc] at hrr
        rw [hra] at x0
        rw [hrb] at x1
        rw [hrc] at x2
        obtain ⟨ha0, ha1, hb0, hb1, hc0, hc1⟩ := hrr
        obtain ⟨sa, hsa⟩ : ∃ s, strT (Lib.itoa ra) = s := ⟨_, rfl⟩
        obtain ⟨sb, hsb⟩ : ∃ s, strT (Lib.itoa rb) = s := ⟨_, rfl⟩
        obtain ⟨sc, hsc⟩ : ∃ s, strT (Lib.itoa rc) = s := ⟨_, rfl⟩
        have CA : Aside0 (∀ W, Below w.heap.size w W → Calls Tryz.prog 29 #[.int .i64 ra] W fun e w' => e = .returned (.string sa) ∧ Below W.heap.size W w') := ⟨fun W hB => by have h := itoa_calls ra (by omega) (by omega) W (HE.out.below hB); rwa [hsa] at h⟩
        have CB : Aside0 (∀ W, Below w.heap.size w W → Calls Tryz.prog 29 #[.int .i64 rb] W fun e w' => e = .returned (.string sb) ∧ Below W.heap.size W w') := ⟨fun W hB => by have h := itoa_calls rb (by omega) (by omega) W (HE.out.below hB); rwa [hsb] at h⟩
        have CC : Aside0 (∀ W, Below w.heap.size w W → Calls Tryz.prog 29 #[.int .i64 rc] W fun e w' => e = .returned (.string sc) ∧ Below W.heap.size W w') := ⟨fun W hB => by have h := itoa_calls rc (by omega) (by omega) W (HE.out.below hB); rwa [hsc] at h⟩
        rw [hra, hrb, hrc, hsa, hsb, hsc] at hlr
        obtain ⟨hz1, hz2, hz3, hz4⟩ := cat_room hlr
        rw [← ringS_cat, hra, hrb, hrc, hsa, hsb, hsc] at htk
        have HTK := Aside0.mk htk
        have HIJ := Aside0.mk hij
        clear hra hrb hrc hsa hsb hsc ha0 ha1 hb0 hb1 hc0 hc1 htk hlr
        have HPL : Aside0 (((l0.take n).map ringS).length ≤ 100000000) := ⟨by rw [List.length_map, List.length_take]; have := HLEN.out; omega⟩
        obtain ⟨ws, hws⟩ : ∃ z, (l0.take n).map ringS = z := ⟨_, rfl⟩
        rw [hws] at RO HPL
        replace HTK := Aside0.mk HTK.out
        rw [hws] at HTK
        clear hws
        go_wp2_with (first | ((with_reducible refine gate_dst (N := 7) rfl ?_); refine bx_ 7 #[.int .i64 0, .int .i64 0, .int .i64 0] 35 ?_; intro gr hg w3 hbox hb; have GEgr := ge_ hg HB; replace hb := nb_ HB hb; replace RO := Aside0.mk (Kd.R_below RO.out hb); replace HB := bs_ HB hb; have BKgr := Aside0.mk hbox; replace x0 := pw_cell_below hb x0; replace x1 := pw_cell_below hb x1; replace x2 := pw_cell_below hb x2; clear hb hbox hg) | ((with_reducible refine gate_store (t := 35) (p := 7) rfl ?_); have hc_ := cf3_ BKgr; refine st3_ ?_; intro w4 hp_; clear hc_; replace RO : Aside0 (R9 w4 w.heap.size r1 ws) := ⟨by rw [← hp_.e]; exact R9_set3 (by decide) RO.out BKgr.out⟩; replace BKgr := pp3_ BKgr hp_; replace HB := pb3_ GEgr HB hp_; clear hp_))
        clear x0 x1 x2
        replace BKgr := kd_ BKgr
        replace RO := Aside0.mk (Kd.R_drew RO.out)
        replace HB := bd_ HB
        refine sM_ [] (fun w' => (w'.cell? ⟨gr, 0, none⟩ = some (.int .i64 ra) ∧ w'.cell? ⟨gr, 1, none⟩ = some (.int .i64 rb) ∧ w'.cell? ⟨gr, 2, none⟩ = some (.int .i64 rc))) vessel_Print.tab8 vessel_Print.bits8 (c3_ BKgr) (fun hHeld HT_ HW_ => ?_)
        generalize w4.drew = w5 at BKgr RO HB hHeld ⊢
        refine pM_ HT_ 0 19 1 ?_
        refine pM_ HT_ 1 20 3 ?_
        refine pM_ HT_ 5 24 35 ?_
        refine pM_ HT_ 10 29 1059 ?_
        refine tM_ HT_ HW_ hHeld 2 21 1063 ?_
        refine tM_ HT_ HW_ hHeld 6 25 1127 ?_
        refine tM_ HT_ HW_ hHeld 11 30 3175 ?_
        refine oM_ HT_ 3 (some 22) 3183 (fun K hK => ?_)
        refine gM_ Tryz.func29 (CA.out _ HB.out) ?_
        rintro e wx ⟨rfl, hb⟩
        refine ⟨_, rfl, ?_⟩
        replace hb := nb_ HB hb
        replace BKgr := kb_ BKgr hb
        replace RO := Aside0.mk (Kd.R_below RO.out hb)
        replace HB := bs_ HB hb
        (try clear hb)
        refine hK.out _ _ (c3_ BKgr) (fun hHeld => ?_)
        clear hK K
        refine nM_ ?_
        refine pM_ HT_ 4 23 3199 ?_
        refine oM_ HT_ 7 (some 26) 3327 (fun K hK => ?_)
        refine gM_ Tryz.func29 (CB.out _ HB.out) ?_
        rintro e wy ⟨rfl, hb⟩
        refine ⟨_, rfl, ?_⟩
        replace hb := nb_ HB hb
        replace BKgr := kb_ BKgr hb
        replace RO := Aside0.mk (Kd.R_below RO.out hb)
        replace HB := bs_ HB hb
        (try clear hb)
        refine hK.out _ _ (c3_ BKgr) (fun hHeld => ?_)
        clear hK K
        refine nM_ ?_
        refine pM_ HT_ 8 27 3583 ?_
        refine pM_ HT_ 9 28 4095 ?_
        refine oM_ HT_ 12 (some 31) 8191 (fun K hK => ?_)
        refine gM_ Tryz.func29 (CC.out _ HB.out) ?_
        rintro e wz ⟨rfl, hb⟩
        refine ⟨_, rfl, ?_⟩
        replace hb := nb_ HB hb
        replace BKgr := kb_ BKgr hb
        replace RO := Aside0.mk (Kd.R_below RO.out hb)
        replace HB := bs_ HB hb
        (try clear hb)
        refine hK.out _ _ (c3_ BKgr) (fun hHeld => ?_)
        clear hK K
        refine nM_ ?_
        refine pM_ HT_ 13 32 16383 ?_
        refine oM_ HT_ 14 (some 33) 32767 (fun K hK => ?_)
        refine lT_ 33 #[.string (sa ++ ⟨#[44]⟩ ++ sb ++ ⟨#[44]⟩ ++ sc)] 9 ?_
        intro gl hg wl hbox hb
        replace hb := nb_ HB hb
        replace BKgr := kb_ BKgr hb
        replace RO := Aside0.mk (Kd.R_below RO.out hb)
        replace HB := bs_ HB hb
        have LT := Aside0.mk hbox
        clear hb hbox hg
        refine hK.out _ _ (c3_ BKgr) (fun hHeld => ?_)
        clear hK K
        refine nM_ ?_
        refine oM_ HT_ 15 (some 34) 65535 (fun K hK => ?_)
        refine app9_step (by rfl) (.tmp 19) (.tmp 33) 58 rfl Tryz.underlying58 info9 r1 ws (sa ++ ⟨#[44]⟩ ++ sb ++ ⟨#[44]⟩ ++ sc) gl rfl rfl RO.out LT.out HB.out HPL.out ?_
        intro u wa ho hb hg hat
        replace BKgr := Aside0.mk (blk_grown BKgr.out hg (Kd.R_ne RO.out BKgr.out (by decide)))
        clear RO HB LT
        have RO := Aside0.mk ho
        have HB := Aside0.mk hb
        clear ho hb hg hat
        refine hK.out _ _ (c3_ BKgr) (fun hHeld => ?_)
        clear hK K
        refine nM_ ?_
        refine pM_ HT_ 16 5 131071 ?_
        refine dM_ HT_ ?_
        clear hz1 hz2 hz3 hz4 hd hd2
        have hb_ : n ≤ 1000 := by have := HIJ.out; have := HLEN.out; omega
        go_wp2
        go_roundg (gk - 1)
        case measure => have := HI.out; have := HIJ.out; omega
        case rel => exact ⟨n + 1, _, rfl, by go_num, ⟨by have := HI.out; have := HIJ.out; omega⟩, ⟨by rw [← HTK.out]; exact RO.out⟩, HB⟩
      · have hd : decide ((n : Int) < (l0.length : Int)) = false := decide_eq_false (by omega)
        have hd2 : decide (n < l0.length) = false := decide_eq_false hij
        have hx : l0.take n = l0 := List.take_of_length_le (by omega)
        rw [hx] at RO
        have HJ := joins HVD.out
        have CJ : Aside0 (∀ W v, R9 W w.heap.size v (l0.map ringS) → Calls Tryz.prog 30 #[v, .string ⟨#[32]⟩] W fun e w' => e = .returned (.string (strT (printT l0))) ∧ Below W.heap.size W w') := ⟨fun W v h => by have k := join_calls v _ _ W HJ.1 h HJ.2.1 HJ.2.2.1; rwa [HJ.2.2.2] at k⟩
        clear hx hik hij HJ
        go_wp2_with (first | ((with_reducible refine gate_callee (f := 30) rfl ?_); refine gL_ (some 37) Tryz.func30 (CJ.out _ _ RO.out) ?_; rintro e w6 ⟨rfl, hb⟩; refine ⟨.string _, rfl, ?_⟩; replace hb := nb_ HB hb; replace HB := bs_ HB hb; clear hb))
        go_ret2
        exact ⟨rfl, HB.out⟩
  · rw [if_neg hv]
    have hK : vessel_Check.f 30 l0 = some 20 := by rw [vCheck]; unfold checkF; rw [Bool.not_eq_true] at hv; rw [hv]; rfl
    have HK := Aside0.mk hK
    clear hK hv
    go_enter Tryz.func6, Tryz.ntmps6
    go_wp2_with (first | ((with_reducible refine gate_callee (f := 26) rfl ?_); refine gL_ (some 9) Tryz.func26 (vessel_Check.calls 30 A0 c0 l0 20 _ (Kd.C_below HR0.out HB.out) HC0.out HK.out) ?_; rintro e w2 ⟨rfl, hb⟩; refine ⟨.int .i64 20, rfl, ?_⟩; replace hb := nb_ HB hb; replace HB := bs_ HB hb; clear hb))
    go_ret2
    exact ⟨rfl, HB.out⟩
end Go.Proofs.YtlhfclpbodfmcaaGreatDoor.Pr
namespace Go.Proofs.YtlhfclpbodfmcaaGreatDoor.Pr
open Go.RowKit Go.Proofs.YtlhfclpbodfmcaaGreatDoorW.PrintWords Go.Proofs.YtlhfclpbodfmcaaGreatDoorW.PrintLast Go.Proofs.YtlhfclpbodfmcaaGreatDoorW.PrintMore
set_option linter.unusedVariables false
set_option linter.unusedSimpArgs false
theorem join_snoc (c : UInt8) (y : List UInt8) : ∀ xs : List (List UInt8), xs ≠ [] → Lib.join (xs ++ [y]) [c] = Lib.join xs [c] ++ [c] ++ y
  | [], h => absurd rfl h
  | [x], _ => by rw [List.singleton_append, join_more, Lib.join_one, Lib.join_one]; simp
  | x :: z :: r, _ => by
    have ih := join_snoc c y (z :: r) (by simp)
    rw [List.cons_append, List.cons_append, join_more, join_more, ← List.cons_append, ih]
    simp
/-- What is printed of the lowest n rings. -/
def preT (l : List S79) (n : Nat) : List UInt8 := Lib.join ((l.take n).map ringT) [32]
theorem pre_next {l : List S79} (h : validB l = true) {n : Nat} (hn : n < l.length) :
    (n = 0 → strT (preT l n) ++ ringS (rd_T79 l (n : Int)) = strT (preT l (n + 1))) ∧ (0 < n → strT (preT l n) ++ ⟨#[32]⟩ ++ ringS (rd_T79 l (n : Int)) = strT (preT l (n + 1))) ∧ (strT (preT l n)).size ≤ 9000000 := by
  have hr : rd_T79 l (n : Int) = l[n] := by simp [rd_T79, List.getD_eq_getElem?_getD, List.getElem?_eq_getElem hn]
  have ht : (l.take (n + 1)).map ringT = (l.take n).map ringT ++ [ringT l[n]] := by
    rw [List.take_add_one, List.getElem?_eq_getElem hn, List.map_append]
    rfl
  have g := (valid_GV h).h.ln
  rw [List.length_map] at g
  refine ⟨fun h0 => ?_, fun h0 => ?_, ?_⟩
  · subst h0
    unfold preT ringS
    rw [strT_add, ht, hr]
    simp [Lib.join_one, Lib.join_nil]
  · have h32 : (⟨#[32]⟩ : ByteArray) = strT [32] := rfl
    unfold preT ringS
    rw [h32, strT_add, strT_add, ht, hr, join_snoc]
    intro h1
    have := congrArg List.length h1
    rw [List.length_map, List.length_take] at this
    have this : min n l.length = 0 := this
    omega
  · rw [strT_size]
    unfold preT
    have hl := join_len 32 300006 ((l.take n).map ringT) (by
      intro x hx
      obtain ⟨r, hr, rfl⟩ := List.mem_map.1 hx
      obtain ⟨m, hm, rfl⟩ := List.mem_iff_getElem.1 (List.mem_of_mem_take hr)
      have k := valid_ring h m hm
      have : rd_T79 l (m : Int) = l[m] := by simp [rd_T79, List.getD_eq_getElem?_getD, List.getElem?_eq_getElem hm]
      rw [this] at k
      exact ring_len k)
    rw [List.length_map, List.length_take] at hl
    have := Nat.mul_le_mul_right 300007 (show min n l.length ≤ 24 by omega)
    omega
def ref_Print.T10 : Bool × List (List Nat × List Nat) := (true, [([], []), ([], []), ([], []), ([1, 2], [1, 2]), ([3], [3]), ([4], [4]), ([5], [5]), ([6], [6]), ([], []), ([], []), ([8, 9], [8, 9]), ([10], [10]), ([11], [11]), ([12, 6], [12]), ([7, 13], [7, 13]), ([14], [14]), ([], []), ([], []), ([16, 17], [16, 17]), ([18], [18]), ([19], [19]), ([20, 13], [20]), ([15, 21], [15, 21]), ([0, 22], [0, 22]), ([23, 21, 0, 1, 2, 3, 4, 5, 6, 7, 8, 9, 10, 11, 12, 13, 14, 15, 16, 17, 18, 19, 20, 21, 22, 23], [0, 23])])
def ref_Print.B10 : List Nat := [0, 0, 0, 6, 14, 30, 62, 126, 0, 0, 768, 1792, 3840, 8062, 16382, 32766, 0, 0, 196608, 458752, 983040, 2047870, 4194302, 8388607, 16777215]
theorem ref_Print.tab10 : rtab .any (opsOf Tryz.f7 10) = ref_Print.T10 := by kernel_rfl
theorem ref_Print.bits10 : waitsOk ref_Print.T10.2 ref_Print.B10 = true := by kernel_rfl
set_option maxHeartbeats 1600000 in
set_option maxRecDepth 100000 in
theorem ref_Print.calls (A0 : Option Addr) (c0 : Nat) (l0 : List S79) (w : World) (hr0 : Kd.C k79 w A0 l0.length l0) (he : Env w) :
    Calls Tryz.prog 7 #[.slice A0 l0.length c0] w fun e w' => e = .returned (.tuple #[.string (strT (printF l0).1), .int .i64 (printF l0).2]) ∧ Below w.heap.size w w' := by
  have hu35 := Tryz.underlying35
  have HR0 := Aside0.mk hr0
  have HE := Aside0.mk he
  clear hr0 he
  have HB := Aside0.mk (Below.refl w.heap.size w)
  unfold printF
  by_cases hv : validB l0 = true
  · rw [if_pos hv]
    have HVD := Aside0.mk hv
    have HK : Aside0 (∀ W, Below w.heap.size w W → Calls Tryz.prog 31 #[.slice A0 l0.length c0] W fun e w' => e = .returned (.int .i64 0) ∧ Below W.heap.size W w') := ⟨fun W hB => by have k := ref_Check.calls A0 c0 l0 W (Kd.C_below HR0.out hB); unfold checkF at k; simp only [hv] at k; exact k⟩
    have hlen := (valid_GV hv).h.ln
    rw [List.length_map] at hlen
    have HLEN := Aside0.mk hlen
    clear hv hlen
    go_enter Tryz.func7, Tryz.ntmps7
    go_wp2_with (first | ((with_reducible refine gate_callee (f := 31) rfl ?_); refine gL_ (some 8) Tryz.func31 (HK.out _ HB.out) ?_; rintro e w2 ⟨rfl, hb⟩; refine ⟨.int .i64 _, rfl, ?_⟩; replace hb := nb_ HB hb; replace HB := bs_ HB hb; clear hb))
    go_loopg [5, 6] l0.length (fun kq v5 v6 w' => ∃ (n : Nat), v5 = .string (strT (preT l0 n)) ∧ v6 = .int .i64 (n : Int) ∧ Aside0 (n + kq = l0.length) ∧ Aside0 (Below w.heap.size w w'))
    case atStart => exact ⟨0, rfl, rfl, ⟨by omega⟩, HB⟩
    case round =>
      clear HB
      obtain ⟨n, rfl, rfl, HI, HB⟩ := hrel
      have hik := HI.out
      by_cases hij : n < l0.length
      · have hd : decide ((n : Int) < (l0.length : Int)) = true := decide_eq_true (by omega)
        have hd2 : decide (n < l0.length) = true := decide_eq_true hij
        clear hik
        have p1 : (0 : Int) ≤ (n : Int) := by omega
        have q1 : (n : Int) < (l0.length : Int) := by omega
        obtain ⟨ad, e9, x0, x1, x2⟩ := at_T79 HR0.out (n : Int) p1 q1
        cases e9
        simp only [Int.toNat_natCast] at x0 x1 x2
        have hrr := valid_ring HVD.out n hij
        have htk := pre_next HVD.out hij
        obtain ⟨ra, hra⟩ : ∃ z, (rd_T79 l0 (n : Int)).f0 = z := ⟨_, rfl⟩
        obtain ⟨rb, hrb⟩ : ∃ z, (rd_T79 l0 (n : Int)).f1 = z := ⟨_, rfl⟩
        obtain ⟨rc, hrc⟩ : ∃ z, (rd_T79 l0 (n : Int)).f2 = z := ⟨_, rfl⟩
        have hlr := ring_lens hrr
        unfold okR at hrr
        rw [hra, hrb, hrc] at hrr
        rw [hra] at x0
        rw [hrb] at x1
        rw [hrc] at x2
        obtain ⟨ha0, ha1, hb0, hb1, hc0, hc1⟩ := hrr
        obtain ⟨sa, hsa⟩ : ∃ s, strT (Lib.itoa ra) = s := ⟨_, rfl⟩
        obtain ⟨sb, hsb⟩ : ∃ s, strT (Lib.itoa rb) = s := ⟨_, rfl⟩
        obtain ⟨sc, hsc⟩ : ∃ s, strT (Lib.itoa rc) = s := ⟨_, rfl⟩
        have CA : Aside0 (∀ W, Below w.heap.size w W → Calls Tryz.prog 29 #[.int .i64 ra] W fun e w' => e = .returned (.string sa) ∧ Below W.heap.size W w') := ⟨fun W hB => by have h := itoa_calls ra (by omega) (by omega) W (HE.out.below hB); rwa [hsa] at h⟩
        have CB : Aside0 (∀ W, Below w.heap.size w W → Calls Tryz.prog 29 #[.int .i64 rb] W fun e w' => e = .returned (.string sb) ∧ Below W.heap.size W w') := ⟨fun W hB => by have h := itoa_calls rb (by omega) (by omega) W (HE.out.below hB); rwa [hsb] at h⟩
        have CC : Aside0 (∀ W, Below w.heap.size w W → Calls Tryz.prog 29 #[.int .i64 rc] W fun e w' => e = .returned (.string sc) ∧ Below W.heap.size W w') := ⟨fun W hB => by have h := itoa_calls rc (by omega) (by omega) W (HE.out.below hB); rwa [hsc] at h⟩
        rw [hra, hrb, hrc, hsa, hsb, hsc] at hlr
        obtain ⟨hz1, hz2, hz3, hz4⟩ := cat_room hlr
        have HLR := Aside0.mk hlr
        obtain ⟨ht0, ht1, hps⟩ := htk
        rw [← ringS_cat, hra, hrb, hrc, hsa, hsb, hsc] at ht0 ht1
        have HT0 := Aside0.mk ht0
        have HT1 := Aside0.mk ht1
        have HIJ := Aside0.mk hij
        clear hra hrb hrc hsa hsb hsc ha0 ha1 hb0 hb1 hc0 hc1 ht0 ht1 hlr
        have X0 := Aside0.mk x0
        have X1 := Aside0.mk x1
        have X2 := Aside0.mk x2
        clear x0 x1 x2
        have HPS := Aside0.mk hps
        clear hps
        replace p1 := eq_true p1
        replace q1 := eq_true q1
        obtain ⟨sp, hsp⟩ : ∃ z, strT (preT l0 n) = z := ⟨_, rfl⟩
        rw [hsp] at HT0 HT1 HPS ⊢
        clear hsp
        have hp32 : (9223372036854775807 < sp.size + 1) = False := eq_false (by have := HPS.out; omega)
        rcases Nat.eq_zero_or_pos n with h0 | h0
        focus
          have hd3 : decide ((0 : Int) < (n : Int)) = false := decide_eq_false (by omega)
          have hd4 : decide (0 < n) = false := decide_eq_false (by omega)
          have HT := Aside0.mk (HT0.out h0)
          have HZ : Aside0 (sp.size ≤ 10000000) := ⟨by have := HPS.out; omega⟩
          clear h0 HT0 HT1 HPS
          go_upto_region 10 with (fail)
          clear hd3 hd4 hp32
          generalize sp = sq at HT HZ ⊢
        rotate_left
        focus
          have hd3 : decide ((0 : Int) < (n : Int)) = true := decide_eq_true (by omega)
          have hd4 : decide (0 < n) = true := decide_eq_true (by omega)
          have HT := Aside0.mk (HT1.out h0)
          have HZ : Aside0 ((sp ++ ⟨#[32]⟩).size ≤ 10000000) := ⟨by rw [ByteArray.size_append, show (⟨#[32]⟩ : ByteArray).size = 1 from rfl]; have := HPS.out; omega⟩
          clear h0 HT0 HT1 HPS
          go_upto_region 10 with (fail)
          clear hd3 hd4 hp32
          generalize sp ++ ⟨#[32]⟩ = sq at HT HZ ⊢
        rotate_left
        all_goals (
          rename World => wq
          have hz5 : (9223372036854775807 < sq.size + (sa.size + 1 + sb.size + 1 + sc.size)) = False := eq_false (by have := HZ.out; have := HLR.out; omega)
          clear HZ
          replace HB := bd_ HB
          refine sM_ [] (fun w' => w'.cell? (ad.add (n * 3)) = some (.int .i64 ra) ∧ w'.cell? ⟨(ad.add (n * 3)).block, (ad.add (n * 3)).off + 1, none⟩ = some (.int .i64 rb) ∧ w'.cell? ⟨(ad.add (n * 3)).block, (ad.add (n * 3)).off + 2, none⟩ = some (.int .i64 rc)) ref_Print.tab10 ref_Print.bits10 ⟨pw_cell_below HB.out X0.out, pw_cell_below HB.out X1.out, pw_cell_below HB.out X2.out⟩ (fun hHeld HT_ HW_ => ?_)
          generalize wq.drew = w5 at HB hHeld ⊢
          refine pM_ HT_ 0 22 1 ?_
          refine pM_ HT_ 1 23 3 ?_
          refine pM_ HT_ 2 24 7 ?_
          refine pM_ HT_ 3 25 15 ?_
          refine pM_ HT_ 4 26 31 ?_
          refine pM_ HT_ 8 30 287 ?_
          refine pM_ HT_ 9 31 799 ?_
          refine pM_ HT_ 10 32 1823 ?_
          refine pM_ HT_ 11 33 3871 ?_
          refine pM_ HT_ 16 38 69407 ?_
          refine pM_ HT_ 17 39 200479 ?_
          refine pM_ HT_ 18 40 462623 ?_
          refine pM_ HT_ 19 41 986911 ?_
          refine tM_ HT_ HW_ hHeld 5 27 986943 ?_
          refine tM_ HT_ HW_ hHeld 12 34 991039 ?_
          refine tM_ HT_ HW_ hHeld 20 42 2039615 ?_
          refine oM_ HT_ 6 (some 28) 2039679 (fun K hK => ?_)
          refine gM_ Tryz.func29 (CA.out _ HB.out) ?_
          rintro e wx ⟨rfl, hb⟩
          refine ⟨_, rfl, ?_⟩
          replace hb := nb_ HB hb
          replace HB := bs_ HB hb
          (try clear hb)
          refine hK.out _ _ ⟨pw_cell_below HB.out X0.out, pw_cell_below HB.out X1.out, pw_cell_below HB.out X2.out⟩ (fun hHeld => ?_)
          clear hK K
          refine nM_ ?_
          refine pM_ HT_ 7 29 2039807 ?_
          refine oM_ HT_ 13 (some 35) 2047999 (fun K hK => ?_)
          refine gM_ Tryz.func29 (CB.out _ HB.out) ?_
          rintro e wy ⟨rfl, hb⟩
          refine ⟨_, rfl, ?_⟩
          replace hb := nb_ HB hb
          replace HB := bs_ HB hb
          (try clear hb)
          refine hK.out _ _ ⟨pw_cell_below HB.out X0.out, pw_cell_below HB.out X1.out, pw_cell_below HB.out X2.out⟩ (fun hHeld => ?_)
          clear hK K
          refine nM_ ?_
          refine pM_ HT_ 14 36 2064383 ?_
          refine pM_ HT_ 15 37 2097151 ?_
          refine oM_ HT_ 21 (some 43) 4194303 (fun K hK => ?_)
          refine gM_ Tryz.func29 (CC.out _ HB.out) ?_
          rintro e wz ⟨rfl, hb⟩
          refine ⟨_, rfl, ?_⟩
          replace hb := nb_ HB hb
          replace HB := bs_ HB hb
          (try clear hb)
          refine hK.out _ _ ⟨pw_cell_below HB.out X0.out, pw_cell_below HB.out X1.out, pw_cell_below HB.out X2.out⟩ (fun hHeld => ?_)
          clear hK K
          refine nM_ ?_
          refine pM_ HT_ 22 44 8388607 ?_
          refine pM_ HT_ 23 45 16777215 ?_
          refine pM_ HT_ 24 5 33554431 ?_
          refine dM_ HT_ ?_
          clear hz1 hz2 hz3 hz4 hz5 hd hd2
          have hb_ : n ≤ 1000 := by have := HIJ.out; have := HLEN.out; omega
          go_wp2
          go_roundg (gk - 1)
          case measure => have := HI.out; have := HIJ.out; omega
          case rel => exact ⟨n + 1, by rw [← HT.out], by go_num, ⟨by have := HI.out; have := HIJ.out; omega⟩, HB⟩)
      · have hd : decide ((n : Int) < (l0.length : Int)) = false := decide_eq_false (by omega)
        have hd2 : decide (n < l0.length) = false := decide_eq_false hij
        have hx : preT l0 n = printT l0 := by unfold preT; rw [List.take_of_length_le (by omega)]; rfl
        rw [hx]
        clear hx hik hij
        go_wp2
        go_ret2
        exact ⟨rfl, HB.out⟩
  · rw [if_neg hv]
    rw [Bool.not_eq_true] at hv
    have HK : Aside0 (∀ W, Below w.heap.size w W → Calls Tryz.prog 31 #[.slice A0 l0.length c0] W fun e w' => e = .returned (.int .i64 20) ∧ Below W.heap.size W w') := ⟨fun W hB => by have k := ref_Check.calls A0 c0 l0 W (Kd.C_below HR0.out hB); unfold checkF at k; simp only [hv] at k; exact k⟩
    clear hv
    go_enter Tryz.func7, Tryz.ntmps7
    go_wp2_with (first | ((with_reducible refine gate_callee (f := 31) rfl ?_); refine gL_ (some 8) Tryz.func31 (HK.out _ HB.out) ?_; rintro e w2 ⟨rfl, hb⟩; refine ⟨.int .i64 _, rfl, ?_⟩; replace hb := nb_ HB hb; replace HB := bs_ HB hb; clear hb))
    go_ret2
    exact ⟨rfl, HB.out⟩
end Go.Proofs.YtlhfclpbodfmcaaGreatDoor.Pr
namespace Go.Proofs.YtlhfclpbodfmcaaGreatDoor.Pr
open Go.Lib
set_option linter.unusedVariables false
/-- The vessel l is valid, and its text is s. -/
def isText (s : List UInt8) (l : List S79) : Prop := validB l = true ∧ printT l = s
theorem valid_okR {l : List S79} (h : validB l = true) {r : S79} (hr : r ∈ l) : okR r := by
  obtain ⟨n, hn, rfl⟩ := List.mem_iff_getElem.1 hr
  have k := valid_ring h n hn
  have : rd_T79 l (n : Int) = l[n] := by simp [rd_T79, List.getD_eq_getElem?_getD, List.getElem?_eq_getElem hn]
  rwa [this] at k
theorem valid_len {l : List S79} (h : validB l = true) : 1 ≤ l.length ∧ l.length ≤ 24 := by
  have g := (valid_GV h).h
  have h1 := g.ne
  have h2 := g.ln
  rw [List.length_map] at h1 h2
  exact ⟨h1, h2⟩
theorem text_words {s : List UInt8} {l : List S79} (h : isText s l) : Lib.split s [32] = l.map ringT ∧ cutC 32 s = l.map ringT := by
  obtain ⟨hv, rfl⟩ := h
  have hne : l.map ringT ≠ [] := by
    intro h0
    have := valid_len hv
    rw [List.map_eq_nil_iff.1 h0] at this
    simp at this
  have hm : ∀ x ∈ l.map ringT, (32 : UInt8) ∉ x := by
    intro x hx
    obtain ⟨r, hr, rfl⟩ := List.mem_map.1 hx
    exact ring_free (valid_okR hv hr)
  exact ⟨split_join hne hm, cutC_join hne hm⟩
theorem itoa_inj {a b : Int} (ha : 0 ≤ a) (ha1 : a ≤ 1000000) (hb : 0 ≤ b) (hb1 : b ≤ 1000000) (h : itoa a = itoa b) : a = b := by
  have h1 := atoi_itoa ha ha1
  rw [h, atoi_itoa hb hb1] at h1
  injection h1 with h1
  exact h1.symm
theorem ringT_inj {r t : S79} (hr : okR r) (ht : okR t) (h : ringT r = ringT t) : r = t := by
  have h1 := (ring_parts hr).1
  rw [h, (ring_parts ht).1] at h1
  injection h1 with e0 h1
  injection h1 with e1 h1
  injection h1 with e2 h1
  unfold okR at hr ht
  have f0 := itoa_inj (by omega) (by omega) (by omega) (by omega) e0
  have f1 := itoa_inj (by omega) (by omega) (by omega) (by omega) e1
  have f2 := itoa_inj (by omega) (by omega) (by omega) (by omega) e2
  cases r; cases t
  simp only at f0 f1 f2
  subst f0 f1 f2
  rfl
theorem isText_inj {s : List UInt8} {l m : List S79} (hl : isText s l) (hm : isText s m) : l = m := by
  have h := (text_words hl).1
  rw [(text_words hm).1] at h
  have hlen : m.length = l.length := by have := congrArg List.length h; simpa using this
  apply List.ext_getElem hlen.symm
  intro i h1 h2
  have e : (m.map ringT)[i]? = (l.map ringT)[i]? := by rw [h]
  simp only [List.getElem?_map, List.getElem?_eq_getElem h1, List.getElem?_eq_getElem h2, Option.map_some] at e
  injection e with e
  exact (ringT_inj (valid_okR hm.1 (List.getElem_mem h2)) (valid_okR hl.1 (List.getElem_mem h1)) e).symm
open Classical in
noncomputable def parseF (s : List UInt8) : List S79 × Int := if h : ∃ l, isText s l then (h.choose, 0) else ([], 3)
theorem parse_ok {s : List UInt8} {l : List S79} (h : isText s l) : parseF s = (l, 0) := by
  have he : ∃ l, isText s l := ⟨l, h⟩
  unfold parseF
  rw [dif_pos he, isText_inj he.choose_spec h]
theorem parse_no {s : List UInt8} (h : ∀ l, ¬ isText s l) : parseF s = ([], 3) := by
  unfold parseF
  rw [dif_neg (fun ⟨l, hl⟩ => h l hl)]
def at9 (ps : List ByteArray) (n : Nat) : List UInt8 := (ps.getD n ByteArray.empty).data.toList
theorem at9_map {ps : List ByteArray} {n : Nat} (hn : n < ps.length) {xs : List (List UInt8)} (h : ps.map (·.data.toList) = xs) : xs[n]? = some (at9 ps n) := by
  rw [← h, List.getElem?_map, List.getElem?_eq_getElem hn]
  simp [at9, List.getD_eq_getElem?_getD, List.getElem?_eq_getElem hn]
section
variable {s : List UInt8} {ps qs : List ByteArray} {l acc : List S79} {n : Nat}
/-- What the words are, if s is a text. -/
def Words (s : List UInt8) (ps : List ByteArray) : Prop := ∀ l, isText s l → ps.map (·.data.toList) = l.map ringT
theorem words_len (h : Words s ps) (ht : isText s l) : ps.length = l.length := by have := congrArg List.length (h l ht); simpa using this
theorem no_words (h : Words s ps) (hl : 24 < ps.length) : ∀ l, ¬ isText s l := fun l ht => by
  have := words_len h ht
  have := valid_len ht.1
  omega
theorem word_at (h : Words s ps) (hn : n < ps.length) (ht : isText s l) : ∃ hl : n < l.length, at9 ps n = ringT l[n] ∧ okR l[n] := by
  have hl : n < l.length := by have := words_len h ht; omega
  have := at9_map hn (h l ht)
  rw [List.getElem?_map, List.getElem?_eq_getElem hl] at this
  injection this with this
  exact ⟨hl, this.symm, valid_okR ht.1 (List.getElem_mem hl)⟩
/-- What the parts of a word are. -/
def Parts (x : List UInt8) (qs : List ByteArray) : Prop := ∀ r, okR r → ringT r = x → qs.map (·.data.toList) = [itoa r.f0, itoa r.f1, itoa r.f2]
theorem no_parts (h : Words s ps) (hn : n < ps.length) (hq : Parts (at9 ps n) qs) (h3 : ¬ qs.length = 3) : ∀ l, ¬ isText s l := fun l ht => by
  obtain ⟨hl, e, ho⟩ := word_at h hn ht
  have := congrArg List.length (hq _ ho e.symm)
  rw [List.length_map] at this
  exact h3 this
theorem part_at (hq : Parts (at9 ps n) qs) {r : S79} (ho : okR r) (e : at9 ps n = ringT r) : at9 qs 0 = itoa r.f0 ∧ at9 qs 1 = itoa r.f1 ∧ at9 qs 2 = itoa r.f2 := by
  have h := hq _ ho e.symm
  have hl : qs.length = 3 := by have := congrArg List.length h; simpa using this
  have h0 := at9_map (n := 0) (by omega) h
  have h1 := at9_map (n := 1) (by omega) h
  have h2 := at9_map (n := 2) (by omega) h
  injection h0 with h0
  injection h1 with h1
  injection h2 with h2
  exact ⟨h0.symm, h1.symm, h2.symm⟩
theorem no_num (h : Words s ps) (hn : n < ps.length) (hq : Parts (at9 ps n) qs) {m : Nat} (hm : m < 3) (ha : ∀ v, atoiAll (at9 qs m) ≠ .ok v) : ∀ l, ¬ isText s l := fun l ht => by
  obtain ⟨hl, e, ho⟩ := word_at h hn ht
  obtain ⟨e0, e1, e2⟩ := part_at hq ho e
  obtain ⟨k0, k1, k2, _⟩ := ring_nums ho
  rcases m with _ | _ | _ | m
  · exact ha _ (by rw [e0]; exact k0)
  · exact ha _ (by rw [e1]; exact k1)
  · exact ha _ (by rw [e2]; exact k2)
  · omega
theorem acc_next (h : Words s ps) (hn : n < ps.length) (hq : Parts (at9 ps n) qs) (hacc : ∀ l, isText s l → acc = l.take n) {a b c : Int} (h0 : atoiAll (at9 qs 0) = .ok a) (h1 : atoiAll (at9 qs 1) = .ok b) (h2 : atoiAll (at9 qs 2) = .ok c) :
    ∀ l, isText s l → acc ++ [⟨a, b, c⟩] = l.take (n + 1) := fun l ht => by
  obtain ⟨hl, e, ho⟩ := word_at h hn ht
  obtain ⟨e0, e1, e2⟩ := part_at hq ho e
  obtain ⟨k0, k1, k2, _⟩ := ring_nums ho
  rw [e0, k0] at h0
  rw [e1, k1] at h1
  rw [e2, k2] at h2
  injection h0 with h0
  injection h1 with h1
  injection h2 with h2
  rw [hacc l ht, List.take_add_one, List.getElem?_eq_getElem hl, ← h0, ← h1, ← h2]
  rfl
theorem acc_nextN (h : Words s ps) (hn : n < ps.length) (hq : Parts (at9 ps n) qs) (hacc : ∀ l, isText s l → acc = l.take n) :
    ∀ l, isText s l → acc ++ [⟨numberF (at9 qs 0), numberF (at9 qs 1), numberF (at9 qs 2)⟩] = l.take (n + 1) := fun l ht => by
  obtain ⟨hl, e, ho⟩ := word_at h hn ht
  obtain ⟨e0, e1, e2⟩ := part_at hq ho e
  obtain ⟨_, _, _, k0, k1, k2⟩ := ring_nums ho
  rw [hacc l ht, List.take_add_one, List.getElem?_eq_getElem hl, e0, e1, e2, k0, k1, k2]
  rfl
theorem acc_all (h : Words s ps) (hn : ps.length ≤ n ∨ 25 ≤ n) (hacc : ∀ l, isText s l → acc = l.take n) : ∀ l, isText s l → acc = l := fun l ht => by
  have := words_len h ht
  have := valid_len ht.1
  rw [hacc l ht, List.take_of_length_le (by omega)]
/-- The last test: its three ways. -/
theorem last_no (hacc : ∀ l, isText s l → acc = l) (hv : ¬ isText s acc) : parseF s = ([], 3) := parse_no fun l ht => hv (by rw [hacc l ht]; exact ht)
theorem words_split (h : ps.map (·.data.toList) = Lib.split s [32]) : Words s ps := fun l ht => by rw [h]; exact (text_words ht).1
theorem parts_split {x : List UInt8} (h : qs.map (·.data.toList) = Lib.split x [44]) : Parts x qs := fun r ho e => by rw [h, ← e]; exact (ring_parts ho).1
end
end Go.Proofs.YtlhfclpbodfmcaaGreatDoor.Pr
