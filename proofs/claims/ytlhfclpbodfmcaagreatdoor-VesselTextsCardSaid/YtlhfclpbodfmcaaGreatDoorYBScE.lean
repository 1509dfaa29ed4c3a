/- A part of the proof: ScE. -/
import Derived.Test.YtlhfclpbodfmcaaGreatDoorYBVm
import Derived.Test.YtlhfclpbodfmcaaGreatDoorYBScS
import Derived.Test.YtlhfclpbodfmcaaGreatDoorYBScA
import Derived.Test.YtlhfclpbodfmcaaGreatDoorYBPr6
namespace Go.Proofs.YtlhfclpbodfmcaaGreatDoor.Pr
open Go.RowKit Go.Proofs.YtlhfclpbodfmcaaGreatDoorW.PrintWords Go.Proofs.YtlhfclpbodfmcaaGreatDoorW.PrintLast Go.Proofs.YtlhfclpbodfmcaaGreatDoorW.PrintMore
open Go.Proofs.YtlhfclpbodfmcaaGreatDoor.Vm
set_option linter.unusedVariables false
set_option linter.unusedSimpArgs false
def height_scaled.T6 : Bool × List (List Nat × List Nat) := (true, [([], []), ([], []), ([], []), ([2], [2]), ([3], [3]), ([4], [4]), ([], []), ([], []), ([6, 7], [6, 7]), ([8], [8]), ([5, 9, 8], [5, 9]), ([], []), ([11], [11]), ([12], [12]), ([13], [13]), ([], []), ([15], [15]), ([14, 16, 10], [14, 16]), ([0, 0, 2, 3, 4, 5, 6, 7, 8, 9, 10, 14, 17], [0]), ([18, 0, 2, 3, 4, 5, 6, 7, 8, 9, 10, 14, 17], [18]), ([19, 10, 17, 0, 2, 3, 4, 5, 6, 7, 8, 9, 10, 14, 17], [10, 19]), ([1, 0, 1, 2, 3, 4, 5, 6, 7, 8, 9, 10, 11, 12, 13, 14, 15, 16, 17, 18, 19, 20], [1]), ([21, 0, 1, 2, 3, 4, 5, 6, 7, 8, 9, 10, 11, 12, 13, 14, 15, 16, 17, 18, 19, 20], [21]), ([22, 17, 20, 0, 1, 2, 3, 4, 5, 6, 7, 8, 9, 10, 11, 12, 13, 14, 15, 16, 17, 18, 19, 20], [17, 22])])
def height_scaled.B6 : List Nat := [0, 0, 0, 4, 12, 28, 0, 0, 192, 448, 1020, 0, 2048, 6144, 14336, 0, 32768, 131068, 262141, 524285, 1048573, 2097151, 4194303, 8388607]
theorem height_scaled.tab6 : rtab .any (opsOf Tryz.f69 6) = height_scaled.T6 := by kernel_rfl
theorem height_scaled.bits6 : waitsOk height_scaled.T6.2 height_scaled.B6 = true := by kernel_rfl
set_option maxHeartbeats 1600000 in
set_option maxRecDepth 100000 in
theorem height_scaled.calls (A0 : Option Addr) (c0 : Nat) (l0 : List S79) (w : World) (hr0 : Kd.C k79 w A0 l0.length l0) (hn : l0.length ≤ 900) :
    Calls Tryz.prog 69 #[.slice A0 l0.length c0, .func (.func 70) #[] #[]] w (ScRet w (l0.map (·.f0)) (sums 0 (l0.map (·.f0)))) := by
  have hu79 := Tryz.underlying35
  have hu150 := Tryz.underlying118
  have HR0 := Aside0.mk hr0
  have HN := Aside0.mk hn
  clear hr0
  have hxl : (l0.map (·.f0)).length = l0.length := List.length_map _
  have hrd : ∀ i : Nat, i < l0.length → rd (l0.map (·.f0)) (i : Int) = (rd_T79 l0 (i : Int)).f0 := by
    intro i hi
    simp [rd, rd_T79, List.getD_eq_getElem?_getD, List.getElem?_map, List.getElem?_eq_getElem hi]
  have hsl := sums_length (l0.map (·.f0)) 0
  have hsd : ∀ i : Nat, i < l0.length → rd (sums 0 (l0.map (·.f0))) ((i : Int) + 1) = wrap64 (rd (sums 0 (l0.map (·.f0))) (i : Int) + rd (l0.map (·.f0)) (i : Int)) := fun i hi => rd_sums _ 0 i (by rw [hxl]; exact hi)
  have hs0 : rd (sums 0 (l0.map (·.f0))) 0 = 0 := by cases l0 <;> simp [rd, sums]
  generalize hSM : sums 0 (l0.map (·.f0)) = sm at *
  generalize hXS : l0.map (·.f0) = xs at *
  clear hSM hXS
  have HXL := Aside0.mk hxl
  have HRD := Aside0.mk hrd
  have HSL := Aside0.mk hsl
  have HSD := Aside0.mk hsd
  have HS0 := Aside0.mk hs0
  clear hxl hrd hsl hsd hs0 hn
  have HB := Aside0.mk (Below.refl w.heap.size w)
  go_enter Tryz.func69, Tryz.ntmps69
  go_wp2_with (first | ((with_reducible refine gate_dst (N := 10) rfl ?_); refine bx_ 10 #[.slice none 0 0, .slice none 0 0] 118 ?_; intro gs hg w1 hbox hb; have GEgs := ge_ hg HB; replace hb := nb_ HB hb; replace HB := bs_ HB hb; have BKgs := Aside0.mk hbox; clear hb hbox hg))
  have RG : Aside0 (Rg w w1 118 84 gs (.slice none 0 0) (.slice none 0 0) (.slice none 0 0) (.slice none 0 0) (xs.take 0) (sm.take 0)) := ⟨⟨HB.out, GEgs.out, BKgs.out, Kd.R_nil _ _ _ _ _, Kd.R_nil _ _ _ _ _, fun k hk => by simp [Value.ownBlock] at hk⟩⟩
  clear HB BKgs
  go_loopg [6, 13] l0.length (fun kq v6 v13 w' => ∃ (i : Nat) (r1 r2 : Value), v6 = .int .i64 (rd sm (i : Int)) ∧ v13 = .int .i64 (i : Int) ∧ Aside0 (i + kq = l0.length) ∧ Aside0 (Rg w w' 118 84 gs r1 r2 r1 r2 (xs.take i) (sm.take i)))
  case atStart => exact ⟨0, .slice none 0 0, .slice none 0 0, by first | (rw [show ((0 : Nat) : Int) = 0 from rfl, HS0.out]; done) | (simp [HS0.out]; done), rfl, ⟨by omega⟩, RG⟩
  case round =>
    clear RG
    obtain ⟨i, r1, r2, rfl, rfl, HI, RG⟩ := hrel
    have hik := HI.out
    by_cases hij : i < l0.length
    · have hd : decide ((i : Int) < (l0.length : Int)) = true := decide_eq_true (by omega)
      have hd2 : decide (i < l0.length) = true := decide_eq_true hij
      clear hik
      have p1 : (0 : Int) ≤ (i : Int) := by omega
      have q1 : (i : Int) < (l0.length : Int) := by omega
      obtain ⟨ad, e9, x0, x1, x2⟩ := at_T79 HR0.out (i : Int) p1 q1
      cases e9
      simp only [Int.toNat_natCast] at x0 x1 x2
      replace x0 := pw_cell_below RG.out.hb x0
      replace x1 := pw_cell_below RG.out.hb x1
      replace x2 := pw_cell_below RG.out.hb x2
      have HB := Aside0.mk RG.out.hb
      have hy := HRD.out i hij
      have hbd := HN.out
      have HIJ := Aside0.mk hij
      have hl1 : (xs.take i).length ≤ 1000 := by rw [List.length_take]; have := HXL.out; omega
      have hl2 : (sm.take i).length ≤ 1000 := by rw [List.length_take]; omega
      have HL1 := Aside0.mk hl1
      have HL2 := Aside0.mk hl2
      have HY := Aside0.mk hy
      clear hl1 hl2 hy hbd
      generalize hra : (rd_T79 l0 (i : Int)).f0 = ra at x0 HY
      generalize hrb : (rd_T79 l0 (i : Int)).f1 = rb at x1 HY
      generalize hrc : (rd_T79 l0 (i : Int)).f2 = rc at x2 HY
      clear hra hrb hrc
      go_wp2_with (first | ((with_reducible refine gate_dst (N := 8) rfl ?_); refine bx_ 8 #[.int .i64 0, .int .i64 0, .int .i64 0] 35 ?_; intro gr hg w2 hbox hb; have GEgr := ge_ hg HB; replace hb := nb_ HB hb; replace RG := Aside0.mk (Rg.below RG.out hb); replace HB := bs_ HB hb; have BKgr := Aside0.mk hbox; replace x0 := pw_cell_below hb x0; replace x1 := pw_cell_below hb x1; replace x2 := pw_cell_below hb x2; clear hb hbox hg) | ((with_reducible refine gate_store (t := 35) (p := 8) rfl ?_); have hc_ := cf3_ BKgr; refine st3_ ?_; intro w3 hp_; clear hc_; replace RG : Aside0 (Rg w w3 118 84 gs r1 r2 r1 r2 (xs.take i) (sm.take i)) := ⟨by rw [← hp_.e]; exact Rg.set3 (by decide) (by decide) GEgr.out RG.out BKgr.out⟩; replace BKgr := pp3_ BKgr hp_; replace HB := pb3_ GEgr HB hp_; clear hp_))
      clear x0 x1 x2
      replace BKgr := kd_ BKgr
      replace RG := Aside0.mk (Rg.drew RG.out)
      replace HB := bd_ HB
      refine sM_ [20, 23] (fun w' => w'.cell? ⟨gs, 0, none⟩ = some r1 ∧ w'.cell? ⟨gs, 1, none⟩ = some r2 ∧ (w'.cell? ⟨gr, 0, none⟩ = some (.int .i64 ra) ∧ w'.cell? ⟨gr, 1, none⟩ = some (.int .i64 rb) ∧ w'.cell? ⟨gr, 2, none⟩ = some (.int .i64 rc))) height_scaled.tab6 height_scaled.bits6 ⟨RG.out.cell0, RG.out.cell1, c3_ BKgr⟩ (fun hHeld HT_ HW_ => ?_)
      generalize w3.drew = w4 at BKgr RG HB hHeld ⊢
      refine pM_ HT_ 0 17 1 ?_
      refine pM_ HT_ 1 18 3 ?_
      refine pM_ HT_ 2 19 7 ?_
      refine pM_ HT_ 3 20 15 ?_
      refine pM_ HT_ 4 21 31 ?_
      refine pM_ HT_ 6 23 95 ?_
      refine pM_ HT_ 11 28 2143 ?_
      refine pM_ HT_ 12 29 6239 ?_
      refine pM_ HT_ 13 30 14431 ?_
      refine pM_ HT_ 15 32 47199 ?_
      refine tM_ HT_ HW_ hHeld 5 22 47231 ?_
      refine tM_ HT_ HW_ hHeld 7 24 47359 ?_
      refine tM_ HT_ HW_ hHeld 14 31 63743 ?_
      refine twM_ HT_ 8 (some 25) 63999 16 (some 33) 129279 (fun K hK => ?_) (fun K hK => ?_)
      · refine gV_ Tryz.func70 (vessel_heightOf.calls ra rb rc ra _ rfl) ?_
        rintro e w5 ⟨rfl, hb⟩
        refine ⟨_, rfl, ?_⟩
        replace hb := nb_ HB hb
        replace BKgr := kb_ BKgr hb
        replace RG := Aside0.mk (Rg.below RG.out hb)
        replace HB := bs_ HB hb
        (try clear hb)
        refine hK.out _ _ ⟨RG.out.cell0, RG.out.cell1, c3_ BKgr⟩ (fun hHeld => ?_)
        clear hK K
        refine nM_ ?_
        refine twM_ HT_ 9 (some 26) 64511 16 (some 33) 129535 (fun K hK => ?_) (fun K hK => ?_)
        · refine lS_ 26 ra 84 ?_
          intro ga hg w6 hbox hb
          have LIA := Aside0.mk (Rg.lit RG.out hg hbox)
          replace hb := nb_ HB hb
          replace BKgr := kb_ BKgr hb
          replace RG := Aside0.mk (Rg.below RG.out hb)
          replace HB := bs_ HB hb
          clear hb hbox hg
          refine hK.out _ _ ⟨RG.out.cell0, RG.out.cell1, c3_ BKgr⟩ (fun hHeld => ?_)
          clear hK K
          refine nM_ ?_
          refine twM_ HT_ 10 (some 27) 65535 16 (some 33) 130047 (fun K hK => ?_) (fun K hK => ?_)
          · refine app_step (by rfl) (.tmp 22) (.tmp 26) 116 84 rfl Tryz.underlying116 info103 r1 (xs.take i) ra _ rfl rfl RG.out.o1 LIA.out.hl RG.out.hb HL1.out ?_
            intro u1 w7 ho hb hg hat
            obtain ⟨Au1, cu1, hu_⟩ := Kd.R_slice ho
            generalize hn_ : ((xs.take i) ++ [ra]).length = nu1 at hu_
            clear hn_
            subst hu_
            have n0_ := Aside0.mk (Rg.app1 (by decide) RG.out ho hb hg hat)
            have n1_ := Aside0.mk (Rg.other1 (by decide) RG.out BKgr.out hg)
            have n2_ := Aside0.mk hb
            clear RG BKgr HB LIA
            have RG := n0_
            have BKgr := n1_
            have HB := n2_
            clear n0_ n1_ n2_ ho hb hg hat
            refine hK.out _ _ ⟨RG.out.cell0, RG.out.cell1, c3_ BKgr⟩ (fun hHeld => ?_)
            clear hK K
            refine nM_ ?_
            refine oM_ HT_ 16 (some 33) 131071 (fun K hK => ?_)
            refine lS_ 33 (rd sm (i : Int)) 84 ?_
            intro gb hg w8 hbox hb
            have LIB := Aside0.mk (Rg.lit RG.out hg hbox)
            replace hb := nb_ HB hb
            replace BKgr := kb_ BKgr hb
            replace RG := Aside0.mk (Rg.below RG.out hb)
            replace HB := bs_ HB hb
            clear hb hbox hg
            refine hK.out _ _ ⟨RG.out.cell0, RG.out.cell1, c3_ BKgr⟩ (fun hHeld => ?_)
            clear hK K
            refine nM_ ?_
            refine oM_ HT_ 17 (some 34) 262143 (fun K hK => ?_)
            refine app_step (by rfl) (.tmp 31) (.tmp 33) 116 84 rfl Tryz.underlying116 info103 r2 (sm.take i) (rd sm (i : Int)) _ rfl rfl RG.out.o2 LIB.out.hl RG.out.hb HL2.out ?_
            intro u2 w10 ho hb hg hat
            obtain ⟨Au2, cu2, hu_⟩ := Kd.R_slice ho
            generalize hn_ : ((sm.take i) ++ [(rd sm (i : Int))]).length = nu2 at hu_
            clear hn_
            subst hu_
            have n0_ := Aside0.mk (Rg.app2 (by decide) RG.out ho hb hg hat)
            have n1_ := Aside0.mk (Rg.other2 (by decide) RG.out BKgr.out hg)
            have n2_ := Aside0.mk hb
            clear RG BKgr HB LIB
            have RG := n0_
            have BKgr := n1_
            have HB := n2_
            clear n0_ n1_ n2_ ho hb hg hat
            refine hK.out _ _ ⟨RG.out.cell0, RG.out.cell1, c3_ BKgr⟩ (fun hHeld => ?_)
            clear hK K
            refine nM_ ?_
            refine pM_ HT_ 18 35 524287 ?_
            refine pM_ HT_ 19 36 1048575 ?_
            refine lM_ HT_ 20 none 2097151 (fun K hK => ?_)
            have hs_ := RG.out.cell0
            have hf_ := blk_frozen RG.out.hs 0
            refine sk1_0_ ?_
            intro w11 hp_
            clear hs_ hf_
            replace BKgr := rgo0_ RG BKgr hp_
            replace RG := rgs0_ RG hp_
            replace HB := Aside0.mk RG.out.hb
            clear hp_
            refine hK.out _ _ ?_
            clear hK K
            refine pM_ HT_ 21 37 4194303 ?_
            refine pM_ HT_ 22 38 8388607 ?_
            refine lM_ HT_ 23 none 16777215 (fun K hK => ?_)
            have hs_ := RG.out.cell1
            have hf_ := blk_frozen RG.out.hs 1
            refine sk1_1_ ?_
            intro w12 hp_
            clear hs_ hf_
            replace BKgr := rgo1_ RG BKgr hp_
            replace RG := rgs1_ RG hp_
            replace HB := Aside0.mk RG.out.hb
            clear hp_
            refine hK.out _ _ ?_
            clear hK K
            refine dM_ HT_ ?_
            have hib : i ≤ 1000 := by have := HIJ.out; have := HN.out; omega
            obtain ⟨o0, o1, o2⟩ := c3_ BKgr
            go_wp2_with (first | ((with_reducible refine gate_dst (N := 42) rfl ?_); refine goesVL_ (some 42) rfl rfl Tryz.func70 (by kernel_rfl) rfl #[.agg #[.int .i64 ra, .int .i64 rb, .int .i64 rc]] rfl rfl (by (try simp only [List.map_toArray, List.map_cons, List.map_nil]); first | done | rfl) ?_; (with_reducible refine (vessel_heightOf.calls ra rb rc ra _ rfl).mono ?_); rintro e w9 ⟨rfl, hb⟩; refine ⟨_, rfl, ?_⟩; replace hb := nb_ HB hb; replace BKgr := kb_ BKgr hb; replace RG := Aside0.mk (Rg.below RG.out hb); replace HB := bs_ HB hb; clear hb))
            have hx := HXL.out
            have hs := HSL.out
            have hsd := HSD.out i HIJ.out
            have hyy := HY.out
            have ht1 := take_rd xs i (by omega)
            have ht2 := take_rd sm i (by omega)
            rw [hyy] at ht1 hsd
            rw [ht1, ht2] at RG
            have HH := Aside0.mk hsd
            clear hsd hyy ht1 ht2 hx hs o0 o1 o2
            go_roundg (gk - 1)
            case measure => have := HI.out; have := HIJ.out; omega
            case rel => exact ⟨i + 1, _, _, by rw [show ((i + 1 : Nat) : Int) = (i : Int) + 1 from by omega, HH.out], by go_num, ⟨by have := HI.out; have := HIJ.out; omega⟩, RG⟩
          · refine lS_ 33 (rd sm (i : Int)) 84 ?_
            intro gb hg w8 hbox hb
            have LIB := Aside0.mk (Rg.lit RG.out hg hbox)
            replace hb := nb_ HB hb
            replace BKgr := kb_ BKgr hb
            replace RG := Aside0.mk (Rg.below RG.out hb)
            replace LIA := Aside0.mk (Li.below LIA.out hb)
            replace HB := bs_ HB hb
            clear hb hbox hg
            refine hK.out _ _ ⟨RG.out.cell0, RG.out.cell1, c3_ BKgr⟩ (fun hHeld => ?_)
            clear hK K
            refine nM_ ?_
            refine oM_ HT_ 10 (some 27) 131071 (fun K hK => ?_)
            refine app_step (by rfl) (.tmp 22) (.tmp 26) 116 84 rfl Tryz.underlying116 info103 r1 (xs.take i) ra _ rfl rfl RG.out.o1 LIA.out.hl RG.out.hb HL1.out ?_
            intro u1 w7 ho hb hg hat
            obtain ⟨Au1, cu1, hu_⟩ := Kd.R_slice ho
            generalize hn_ : ((xs.take i) ++ [ra]).length = nu1 at hu_
            clear hn_
            subst hu_
            have n0_ := Aside0.mk (Rg.app1 (by decide) RG.out ho hb hg hat)
            have n1_ := Aside0.mk (Rg.other1 (by decide) RG.out BKgr.out hg)
            have n2_ := Aside0.mk hb
            have n3_ := Aside0.mk (Li.app1 LIB.out hg hat)
            clear RG BKgr HB LIA LIB
            have RG := n0_
            have BKgr := n1_
            have HB := n2_
            have LIB := n3_
            clear n0_ n1_ n2_ n3_ ho hb hg hat
            refine hK.out _ _ ⟨RG.out.cell0, RG.out.cell1, c3_ BKgr⟩ (fun hHeld => ?_)
            clear hK K
            refine nM_ ?_
            refine oM_ HT_ 17 (some 34) 262143 (fun K hK => ?_)
            refine app_step (by rfl) (.tmp 31) (.tmp 33) 116 84 rfl Tryz.underlying116 info103 r2 (sm.take i) (rd sm (i : Int)) _ rfl rfl RG.out.o2 LIB.out.hl RG.out.hb HL2.out ?_
            intro u2 w10 ho hb hg hat
            obtain ⟨Au2, cu2, hu_⟩ := Kd.R_slice ho
            generalize hn_ : ((sm.take i) ++ [(rd sm (i : Int))]).length = nu2 at hu_
            clear hn_
            subst hu_
            have n0_ := Aside0.mk (Rg.app2 (by decide) RG.out ho hb hg hat)
            have n1_ := Aside0.mk (Rg.other2 (by decide) RG.out BKgr.out hg)
            have n2_ := Aside0.mk hb
            clear RG BKgr HB LIB
            have RG := n0_
            have BKgr := n1_
            have HB := n2_
            clear n0_ n1_ n2_ ho hb hg hat
            refine hK.out _ _ ⟨RG.out.cell0, RG.out.cell1, c3_ BKgr⟩ (fun hHeld => ?_)
            clear hK K
            refine nM_ ?_
            refine pM_ HT_ 18 35 524287 ?_
            refine pM_ HT_ 19 36 1048575 ?_
            refine lM_ HT_ 20 none 2097151 (fun K hK => ?_)
            have hs_ := RG.out.cell0
            have hf_ := blk_frozen RG.out.hs 0
            refine sk1_0_ ?_
            intro w11 hp_
            clear hs_ hf_
            replace BKgr := rgo0_ RG BKgr hp_
            replace RG := rgs0_ RG hp_
            replace HB := Aside0.mk RG.out.hb
            clear hp_
            refine hK.out _ _ ?_
            clear hK K
            refine pM_ HT_ 21 37 4194303 ?_
            refine pM_ HT_ 22 38 8388607 ?_
            refine lM_ HT_ 23 none 16777215 (fun K hK => ?_)
            have hs_ := RG.out.cell1
            have hf_ := blk_frozen RG.out.hs 1
            refine sk1_1_ ?_
            intro w12 hp_
            clear hs_ hf_
            replace BKgr := rgo1_ RG BKgr hp_
            replace RG := rgs1_ RG hp_
            replace HB := Aside0.mk RG.out.hb
            clear hp_
            refine hK.out _ _ ?_
            clear hK K
            refine dM_ HT_ ?_
            have hib : i ≤ 1000 := by have := HIJ.out; have := HN.out; omega
            obtain ⟨o0, o1, o2⟩ := c3_ BKgr
            go_wp2_with (first | ((with_reducible refine gate_dst (N := 42) rfl ?_); refine goesVL_ (some 42) rfl rfl Tryz.func70 (by kernel_rfl) rfl #[.agg #[.int .i64 ra, .int .i64 rb, .int .i64 rc]] rfl rfl (by (try simp only [List.map_toArray, List.map_cons, List.map_nil]); first | done | rfl) ?_; (with_reducible refine (vessel_heightOf.calls ra rb rc ra _ rfl).mono ?_); rintro e w9 ⟨rfl, hb⟩; refine ⟨_, rfl, ?_⟩; replace hb := nb_ HB hb; replace BKgr := kb_ BKgr hb; replace RG := Aside0.mk (Rg.below RG.out hb); replace HB := bs_ HB hb; clear hb))
            have hx := HXL.out
            have hs := HSL.out
            have hsd := HSD.out i HIJ.out
            have hyy := HY.out
            have ht1 := take_rd xs i (by omega)
            have ht2 := take_rd sm i (by omega)
            rw [hyy] at ht1 hsd
            rw [ht1, ht2] at RG
            have HH := Aside0.mk hsd
            clear hsd hyy ht1 ht2 hx hs o0 o1 o2
            go_roundg (gk - 1)
            case measure => have := HI.out; have := HIJ.out; omega
            case rel => exact ⟨i + 1, _, _, by rw [show ((i + 1 : Nat) : Int) = (i : Int) + 1 from by omega, HH.out], by go_num, ⟨by have := HI.out; have := HIJ.out; omega⟩, RG⟩
        · refine lS_ 33 (rd sm (i : Int)) 84 ?_
          intro gb hg w8 hbox hb
          have LIB := Aside0.mk (Rg.lit RG.out hg hbox)
          replace hb := nb_ HB hb
          replace BKgr := kb_ BKgr hb
          replace RG := Aside0.mk (Rg.below RG.out hb)
          replace HB := bs_ HB hb
          clear hb hbox hg
          refine hK.out _ _ ⟨RG.out.cell0, RG.out.cell1, c3_ BKgr⟩ (fun hHeld => ?_)
          clear hK K
          refine nM_ ?_
          refine oM_ HT_ 9 (some 26) 130047 (fun K hK => ?_)
          refine lS_ 26 ra 84 ?_
          intro ga hg w6 hbox hb
          have LIA := Aside0.mk (Rg.lit RG.out hg hbox)
          replace hb := nb_ HB hb
          replace BKgr := kb_ BKgr hb
          replace RG := Aside0.mk (Rg.below RG.out hb)
          replace LIB := Aside0.mk (Li.below LIB.out hb)
          replace HB := bs_ HB hb
          clear hb hbox hg
          refine hK.out _ _ ⟨RG.out.cell0, RG.out.cell1, c3_ BKgr⟩ (fun hHeld => ?_)
          clear hK K
          refine nM_ ?_
          refine oM_ HT_ 10 (some 27) 131071 (fun K hK => ?_)
          refine app_step (by rfl) (.tmp 22) (.tmp 26) 116 84 rfl Tryz.underlying116 info103 r1 (xs.take i) ra _ rfl rfl RG.out.o1 LIA.out.hl RG.out.hb HL1.out ?_
          intro u1 w7 ho hb hg hat
          obtain ⟨Au1, cu1, hu_⟩ := Kd.R_slice ho
          generalize hn_ : ((xs.take i) ++ [ra]).length = nu1 at hu_
          clear hn_
          subst hu_
          have n0_ := Aside0.mk (Rg.app1 (by decide) RG.out ho hb hg hat)
          have n1_ := Aside0.mk (Rg.other1 (by decide) RG.out BKgr.out hg)
          have n2_ := Aside0.mk hb
          have n3_ := Aside0.mk (Li.app1 LIB.out hg hat)
          clear RG BKgr HB LIA LIB
          have RG := n0_
          have BKgr := n1_
          have HB := n2_
          have LIB := n3_
          clear n0_ n1_ n2_ n3_ ho hb hg hat
          refine hK.out _ _ ⟨RG.out.cell0, RG.out.cell1, c3_ BKgr⟩ (fun hHeld => ?_)
          clear hK K
          refine nM_ ?_
          refine oM_ HT_ 17 (some 34) 262143 (fun K hK => ?_)
          refine app_step (by rfl) (.tmp 31) (.tmp 33) 116 84 rfl Tryz.underlying116 info103 r2 (sm.take i) (rd sm (i : Int)) _ rfl rfl RG.out.o2 LIB.out.hl RG.out.hb HL2.out ?_
          intro u2 w10 ho hb hg hat
          obtain ⟨Au2, cu2, hu_⟩ := Kd.R_slice ho
          generalize hn_ : ((sm.take i) ++ [(rd sm (i : Int))]).length = nu2 at hu_
          clear hn_
          subst hu_
          have n0_ := Aside0.mk (Rg.app2 (by decide) RG.out ho hb hg hat)
          have n1_ := Aside0.mk (Rg.other2 (by decide) RG.out BKgr.out hg)
          have n2_ := Aside0.mk hb
          clear RG BKgr HB LIB
          have RG := n0_
          have BKgr := n1_
          have HB := n2_
          clear n0_ n1_ n2_ ho hb hg hat
          refine hK.out _ _ ⟨RG.out.cell0, RG.out.cell1, c3_ BKgr⟩ (fun hHeld => ?_)
          clear hK K
          refine nM_ ?_
          refine pM_ HT_ 18 35 524287 ?_
          refine pM_ HT_ 19 36 1048575 ?_
          refine lM_ HT_ 20 none 2097151 (fun K hK => ?_)
          have hs_ := RG.out.cell0
          have hf_ := blk_frozen RG.out.hs 0
          refine sk1_0_ ?_
          intro w11 hp_
          clear hs_ hf_
          replace BKgr := rgo0_ RG BKgr hp_
          replace RG := rgs0_ RG hp_
          replace HB := Aside0.mk RG.out.hb
          clear hp_
          refine hK.out _ _ ?_
          clear hK K
          refine pM_ HT_ 21 37 4194303 ?_
          refine pM_ HT_ 22 38 8388607 ?_
          refine lM_ HT_ 23 none 16777215 (fun K hK => ?_)
          have hs_ := RG.out.cell1
          have hf_ := blk_frozen RG.out.hs 1
          refine sk1_1_ ?_
          intro w12 hp_
          clear hs_ hf_
          replace BKgr := rgo1_ RG BKgr hp_
          replace RG := rgs1_ RG hp_
          replace HB := Aside0.mk RG.out.hb
          clear hp_
          refine hK.out _ _ ?_
          clear hK K
          refine dM_ HT_ ?_
          have hib : i ≤ 1000 := by have := HIJ.out; have := HN.out; omega
          obtain ⟨o0, o1, o2⟩ := c3_ BKgr
          go_wp2_with (first | ((with_reducible refine gate_dst (N := 42) rfl ?_); refine goesVL_ (some 42) rfl rfl Tryz.func70 (by kernel_rfl) rfl #[.agg #[.int .i64 ra, .int .i64 rb, .int .i64 rc]] rfl rfl (by (try simp only [List.map_toArray, List.map_cons, List.map_nil]); first | done | rfl) ?_; (with_reducible refine (vessel_heightOf.calls ra rb rc ra _ rfl).mono ?_); rintro e w9 ⟨rfl, hb⟩; refine ⟨_, rfl, ?_⟩; replace hb := nb_ HB hb; replace BKgr := kb_ BKgr hb; replace RG := Aside0.mk (Rg.below RG.out hb); replace HB := bs_ HB hb; clear hb))
          have hx := HXL.out
          have hs := HSL.out
          have hsd := HSD.out i HIJ.out
          have hyy := HY.out
          have ht1 := take_rd xs i (by omega)
          have ht2 := take_rd sm i (by omega)
          rw [hyy] at ht1 hsd
          rw [ht1, ht2] at RG
          have HH := Aside0.mk hsd
          clear hsd hyy ht1 ht2 hx hs o0 o1 o2
          go_roundg (gk - 1)
          case measure => have := HI.out; have := HIJ.out; omega
          case rel => exact ⟨i + 1, _, _, by rw [show ((i + 1 : Nat) : Int) = (i : Int) + 1 from by omega, HH.out], by go_num, ⟨by have := HI.out; have := HIJ.out; omega⟩, RG⟩
      · refine lS_ 33 (rd sm (i : Int)) 84 ?_
        intro gb hg w8 hbox hb
        have LIB := Aside0.mk (Rg.lit RG.out hg hbox)
        replace hb := nb_ HB hb
        replace BKgr := kb_ BKgr hb
        replace RG := Aside0.mk (Rg.below RG.out hb)
        replace HB := bs_ HB hb
        clear hb hbox hg
        refine hK.out _ _ ⟨RG.out.cell0, RG.out.cell1, c3_ BKgr⟩ (fun hHeld => ?_)
        clear hK K
        refine nM_ ?_
        refine oM_ HT_ 8 (some 25) 129535 (fun K hK => ?_)
        refine gV_ Tryz.func70 (vessel_heightOf.calls ra rb rc ra _ rfl) ?_
        rintro e w5 ⟨rfl, hb⟩
        refine ⟨_, rfl, ?_⟩
        replace hb := nb_ HB hb
        replace BKgr := kb_ BKgr hb
        replace RG := Aside0.mk (Rg.below RG.out hb)
        replace LIB := Aside0.mk (Li.below LIB.out hb)
        replace HB := bs_ HB hb
        (try clear hb)
        refine hK.out _ _ ⟨RG.out.cell0, RG.out.cell1, c3_ BKgr⟩ (fun hHeld => ?_)
        clear hK K
        refine nM_ ?_
        refine oM_ HT_ 9 (some 26) 130047 (fun K hK => ?_)
        refine lS_ 26 ra 84 ?_
        intro ga hg w6 hbox hb
        have LIA := Aside0.mk (Rg.lit RG.out hg hbox)
        replace hb := nb_ HB hb
        replace BKgr := kb_ BKgr hb
        replace RG := Aside0.mk (Rg.below RG.out hb)
        replace LIB := Aside0.mk (Li.below LIB.out hb)
        replace HB := bs_ HB hb
        clear hb hbox hg
        refine hK.out _ _ ⟨RG.out.cell0, RG.out.cell1, c3_ BKgr⟩ (fun hHeld => ?_)
        clear hK K
        refine nM_ ?_
        refine oM_ HT_ 10 (some 27) 131071 (fun K hK => ?_)
        refine app_step (by rfl) (.tmp 22) (.tmp 26) 116 84 rfl Tryz.underlying116 info103 r1 (xs.take i) ra _ rfl rfl RG.out.o1 LIA.out.hl RG.out.hb HL1.out ?_
        intro u1 w7 ho hb hg hat
        obtain ⟨Au1, cu1, hu_⟩ := Kd.R_slice ho
        generalize hn_ : ((xs.take i) ++ [ra]).length = nu1 at hu_
        clear hn_
        subst hu_
        have n0_ := Aside0.mk (Rg.app1 (by decide) RG.out ho hb hg hat)
        have n1_ := Aside0.mk (Rg.other1 (by decide) RG.out BKgr.out hg)
        have n2_ := Aside0.mk hb
        have n3_ := Aside0.mk (Li.app1 LIB.out hg hat)
        clear RG BKgr HB LIA LIB
        have RG := n0_
        have BKgr := n1_
        have HB := n2_
        have LIB := n3_
        clear n0_ n1_ n2_ n3_ ho hb hg hat
        refine hK.out _ _ ⟨RG.out.cell0, RG.out.cell1, c3_ BKgr⟩ (fun hHeld => ?_)
        clear hK K
        refine nM_ ?_
        refine oM_ HT_ 17 (some 34) 262143 (fun K hK => ?_)
        refine app_step (by rfl) (.tmp 31) (.tmp 33) 116 84 rfl Tryz.underlying116 info103 r2 (sm.take i) (rd sm (i : Int)) _ rfl rfl RG.out.o2 LIB.out.hl RG.out.hb HL2.out ?_
        intro u2 w10 ho hb hg hat
        obtain ⟨Au2, cu2, hu_⟩ := Kd.R_slice ho
        generalize hn_ : ((sm.take i) ++ [(rd sm (i : Int))]).length = nu2 at hu_
        clear hn_
        subst hu_
        have n0_ := Aside0.mk (Rg.app2 (by decide) RG.out ho hb hg hat)
        have n1_ := Aside0.mk (Rg.other2 (by decide) RG.out BKgr.out hg)
        have n2_ := Aside0.mk hb
        clear RG BKgr HB LIB
        have RG := n0_
        have BKgr := n1_
        have HB := n2_
        clear n0_ n1_ n2_ ho hb hg hat
        refine hK.out _ _ ⟨RG.out.cell0, RG.out.cell1, c3_ BKgr⟩ (fun hHeld => ?_)
        clear hK K
        refine nM_ ?_
        refine pM_ HT_ 18 35 524287 ?_
        refine pM_ HT_ 19 36 1048575 ?_
        refine lM_ HT_ 20 none 2097151 (fun K hK => ?_)
        have hs_ := RG.out.cell0
        have hf_ := blk_frozen RG.out.hs 0
        refine sk1_0_ ?_
        intro w11 hp_
        clear hs_ hf_
        replace BKgr := rgo0_ RG BKgr hp_
        replace RG := rgs0_ RG hp_
        replace HB := Aside0.mk RG.out.hb
        clear hp_
        refine hK.out _ _ ?_
        clear hK K
        refine pM_ HT_ 21 37 4194303 ?_
        refine pM_ HT_ 22 38 8388607 ?_
        refine lM_ HT_ 23 none 16777215 (fun K hK => ?_)
        have hs_ := RG.out.cell1
        have hf_ := blk_frozen RG.out.hs 1
        refine sk1_1_ ?_
        intro w12 hp_
        clear hs_ hf_
        replace BKgr := rgo1_ RG BKgr hp_
        replace RG := rgs1_ RG hp_
        replace HB := Aside0.mk RG.out.hb
        clear hp_
        refine hK.out _ _ ?_
        clear hK K
        refine dM_ HT_ ?_
        have hib : i ≤ 1000 := by have := HIJ.out; have := HN.out; omega
        obtain ⟨o0, o1, o2⟩ := c3_ BKgr
        go_wp2_with (first | ((with_reducible refine gate_dst (N := 42) rfl ?_); refine goesVL_ (some 42) rfl rfl Tryz.func70 (by kernel_rfl) rfl #[.agg #[.int .i64 ra, .int .i64 rb, .int .i64 rc]] rfl rfl (by (try simp only [List.map_toArray, List.map_cons, List.map_nil]); first | done | rfl) ?_; (with_reducible refine (vessel_heightOf.calls ra rb rc ra _ rfl).mono ?_); rintro e w9 ⟨rfl, hb⟩; refine ⟨_, rfl, ?_⟩; replace hb := nb_ HB hb; replace BKgr := kb_ BKgr hb; replace RG := Aside0.mk (Rg.below RG.out hb); replace HB := bs_ HB hb; clear hb))
        have hx := HXL.out
        have hs := HSL.out
        have hsd := HSD.out i HIJ.out
        have hyy := HY.out
        have ht1 := take_rd xs i (by omega)
        have ht2 := take_rd sm i (by omega)
        rw [hyy] at ht1 hsd
        rw [ht1, ht2] at RG
        have HH := Aside0.mk hsd
        clear hsd hyy ht1 ht2 hx hs o0 o1 o2
        go_roundg (gk - 1)
        case measure => have := HI.out; have := HIJ.out; omega
        case rel => exact ⟨i + 1, _, _, by rw [show ((i + 1 : Nat) : Int) = (i : Int) + 1 from by omega, HH.out], by go_num, ⟨by have := HI.out; have := HIJ.out; omega⟩, RG⟩
    · have hd : decide ((i : Int) < (l0.length : Int)) = false := decide_eq_false (by omega)
      have hd2 : decide (i < l0.length) = false := decide_eq_false hij
      have hx := HXL.out
      have hs := HSL.out
      have hbd := HN.out
      have hx2 : xs.take i = xs := List.take_of_length_le (by omega)
      have ht2 := take_rd sm i (by omega)
      have hx3 : sm.take (i + 1) = sm := List.take_of_length_le (by omega)
      have hl2 : (sm.take i).length ≤ 1000 := by rw [List.length_take]; omega
      rw [hx3] at ht2
      rw [hx2] at RG
      have HT2 := Aside0.mk ht2
      have HL2 := Aside0.mk hl2
      have HB := Aside0.mk RG.out.hb
      clear hx hs hbd hx2 ht2 hx3 hl2
      have hc1 := RG.out.cell1
      go_wp2_with (first | ((with_reducible refine gate_dst (N := 51) rfl ?_); refine lit_list ?hg (N := 51) ?hd (y := rd sm (i : Int)) (E := 84) ?hr ?_; (case hd => rfl); (case hg => rfl); (case hr => first | (go_simp; done) | (go_simp; rfl)); intro ga hg w5 hbox hb; have LI := Aside0.mk (Rg.lit RG.out hg hbox); have n0_ := Aside0.mk (Rg.below RG.out hb); clear RG; have RG := n0_; clear n0_ hb hbox hg) | ((with_reducible refine gate_dst (N := 52) rfl ?_); refine app_list ?hg (.tmp 49) (.tmp 51) 116 84 ?ho Tryz.underlying116 info103 r2 (sm.take i) (rd sm (i : Int)) ga ?hs ?hx RG.out.o2 LI.out.hl RG.out.hb HL2.out ?_; (case hg => rfl); (case ho => rfl); (case hs => rfl); (case hx => rfl); intro u2 w6 ho hb hg hat; obtain ⟨Au2, cu2, hu_⟩ := Kd.R_slice ho; generalize hn_ : (sm.take i ++ [rd sm (i : Int)]).length = nu2 at hu_; clear hn_; subst hu_; have n0_ := Aside0.mk (Rg.app2 (by decide) RG.out ho hb hg hat); clear RG; have RG := n0_; clear n0_ ho hb hg hat; have hs1 := RG.out.cell1; have hf1 := blk_frozen RG.out.hs 1))
      rw [HT2.out] at RG
      have n0_ := Aside0.mk (Rg.set1 (u := .slice Au2 nu2 cu2) (by decide) RG.out)
      go_ret
      exact ⟨gs, rfl, n0_.out.scx, n0_.out.hb⟩
def minute_scaled.T6 : Bool × List (List Nat × List Nat) := (true, [([], []), ([], []), ([], []), ([2], [2]), ([3], [3]), ([4], [4]), ([], []), ([], []), ([6, 7], [6, 7]), ([8], [8]), ([5, 9, 8], [5, 9]), ([], []), ([11], [11]), ([12], [12]), ([13], [13]), ([], []), ([15], [15]), ([14, 16, 10], [14, 16]), ([0, 0, 2, 3, 4, 5, 6, 7, 8, 9, 10, 14, 17], [0]), ([18, 0, 2, 3, 4, 5, 6, 7, 8, 9, 10, 14, 17], [18]), ([19, 10, 17, 0, 2, 3, 4, 5, 6, 7, 8, 9, 10, 14, 17], [10, 19]), ([1, 0, 1, 2, 3, 4, 5, 6, 7, 8, 9, 10, 11, 12, 13, 14, 15, 16, 17, 18, 19, 20], [1]), ([21, 0, 1, 2, 3, 4, 5, 6, 7, 8, 9, 10, 11, 12, 13, 14, 15, 16, 17, 18, 19, 20], [21]), ([22, 17, 20, 0, 1, 2, 3, 4, 5, 6, 7, 8, 9, 10, 11, 12, 13, 14, 15, 16, 17, 18, 19, 20], [17, 22])])
def minute_scaled.B6 : List Nat := [0, 0, 0, 4, 12, 28, 0, 0, 192, 448, 1020, 0, 2048, 6144, 14336, 0, 32768, 131068, 262141, 524285, 1048573, 2097151, 4194303, 8388607]
theorem minute_scaled.tab6 : rtab .any (opsOf Tryz.f73 6) = minute_scaled.T6 := by kernel_rfl
theorem minute_scaled.bits6 : waitsOk minute_scaled.T6.2 minute_scaled.B6 = true := by kernel_rfl
set_option maxHeartbeats 1600000 in
set_option maxRecDepth 100000 in
theorem minute_scaled.calls (A0 : Option Addr) (c0 : Nat) (l0 : List S79) (w : World) (hr0 : Kd.C k79 w A0 l0.length l0) (hn : l0.length ≤ 900) :
    Calls Tryz.prog 73 #[.slice A0 l0.length c0, .func (.func 58) #[] #[]] w (ScRet w (l0.map (·.f2)) (sums 0 (l0.map (·.f2)))) := by
  have hu79 := Tryz.underlying35
  have hu153 := Tryz.underlying121
  have HR0 := Aside0.mk hr0
  have HN := Aside0.mk hn
  clear hr0
  have hxl : (l0.map (·.f2)).length = l0.length := List.length_map _
  have hrd : ∀ i : Nat, i < l0.length → rd (l0.map (·.f2)) (i : Int) = (rd_T79 l0 (i : Int)).f2 := by
    intro i hi
    simp [rd, rd_T79, List.getD_eq_getElem?_getD, List.getElem?_map, List.getElem?_eq_getElem hi]
  have hsl := sums_length (l0.map (·.f2)) 0
  have hsd : ∀ i : Nat, i < l0.length → rd (sums 0 (l0.map (·.f2))) ((i : Int) + 1) = wrap64 (rd (sums 0 (l0.map (·.f2))) (i : Int) + rd (l0.map (·.f2)) (i : Int)) := fun i hi => rd_sums _ 0 i (by rw [hxl]; exact hi)
  have hs0 : rd (sums 0 (l0.map (·.f2))) 0 = 0 := by cases l0 <;> simp [rd, sums]
  generalize hSM : sums 0 (l0.map (·.f2)) = sm at *
  generalize hXS : l0.map (·.f2) = xs at *
  clear hSM hXS
  have HXL := Aside0.mk hxl
  have HRD := Aside0.mk hrd
  have HSL := Aside0.mk hsl
  have HSD := Aside0.mk hsd
  have HS0 := Aside0.mk hs0
  clear hxl hrd hsl hsd hs0 hn
  have HB := Aside0.mk (Below.refl w.heap.size w)
  go_enter Tryz.func73, Tryz.ntmps73
  go_wp2_with (first | ((with_reducible refine gate_dst (N := 10) rfl ?_); refine bx_ 10 #[.slice none 0 0, .slice none 0 0] 121 ?_; intro gs hg w1 hbox hb; have GEgs := ge_ hg HB; replace hb := nb_ HB hb; replace HB := bs_ HB hb; have BKgs := Aside0.mk hbox; clear hb hbox hg))
  have RG : Aside0 (Rg w w1 121 89 gs (.slice none 0 0) (.slice none 0 0) (.slice none 0 0) (.slice none 0 0) (xs.take 0) (sm.take 0)) := ⟨⟨HB.out, GEgs.out, BKgs.out, Kd.R_nil _ _ _ _ _, Kd.R_nil _ _ _ _ _, fun k hk => by simp [Value.ownBlock] at hk⟩⟩
  clear HB BKgs
  go_loopg [6, 13] l0.length (fun kq v6 v13 w' => ∃ (i : Nat) (r1 r2 : Value), v6 = .int .i64 (rd sm (i : Int)) ∧ v13 = .int .i64 (i : Int) ∧ Aside0 (i + kq = l0.length) ∧ Aside0 (Rg w w' 121 89 gs r1 r2 r1 r2 (xs.take i) (sm.take i)))
  case atStart => exact ⟨0, .slice none 0 0, .slice none 0 0, by first | (rw [show ((0 : Nat) : Int) = 0 from rfl, HS0.out]; done) | (simp [HS0.out]; done), rfl, ⟨by omega⟩, RG⟩
  case round =>
    clear RG
    obtain ⟨i, r1, r2, rfl, rfl, HI, RG⟩ := hrel
    have hik := HI.out
    by_cases hij : i < l0.length
    · have hd : decide ((i : Int) < (l0.length : Int)) = true := decide_eq_true (by omega)
      have hd2 : decide (i < l0.length) = true := decide_eq_true hij
      clear hik
      have p1 : (0 : Int) ≤ (i : Int) := by omega
      have q1 : (i : Int) < (l0.length : Int) := by omega
      obtain ⟨ad, e9, x0, x1, x2⟩ := at_T79 HR0.out (i : Int) p1 q1
      cases e9
      simp only [Int.toNat_natCast] at x0 x1 x2
      replace x0 := pw_cell_below RG.out.hb x0
      replace x1 := pw_cell_below RG.out.hb x1
      replace x2 := pw_cell_below RG.out.hb x2
      have HB := Aside0.mk RG.out.hb
      have hy := HRD.out i hij
      have hbd := HN.out
      have HIJ := Aside0.mk hij
      have hl1 : (xs.take i).length ≤ 1000 := by rw [List.length_take]; have := HXL.out; omega
      have hl2 : (sm.take i).length ≤ 1000 := by rw [List.length_take]; omega
      have HL1 := Aside0.mk hl1
      have HL2 := Aside0.mk hl2
      have HY := Aside0.mk hy
      clear hl1 hl2 hy hbd
      generalize hra : (rd_T79 l0 (i : Int)).f0 = ra at x0 HY
      generalize hrb : (rd_T79 l0 (i : Int)).f1 = rb at x1 HY
      generalize hrc : (rd_T79 l0 (i : Int)).f2 = rc at x2 HY
      clear hra hrb hrc
      go_wp2_with (first | ((with_reducible refine gate_dst (N := 8) rfl ?_); refine bx_ 8 #[.int .i64 0, .int .i64 0, .int .i64 0] 35 ?_; intro gr hg w2 hbox hb; have GEgr := ge_ hg HB; replace hb := nb_ HB hb; replace RG := Aside0.mk (Rg.below RG.out hb); replace HB := bs_ HB hb; have BKgr := Aside0.mk hbox; replace x0 := pw_cell_below hb x0; replace x1 := pw_cell_below hb x1; replace x2 := pw_cell_below hb x2; clear hb hbox hg) | ((with_reducible refine gate_store (t := 35) (p := 8) rfl ?_); have hc_ := cf3_ BKgr; refine st3_ ?_; intro w3 hp_; clear hc_; replace RG : Aside0 (Rg w w3 121 89 gs r1 r2 r1 r2 (xs.take i) (sm.take i)) := ⟨by rw [← hp_.e]; exact Rg.set3 (by decide) (by decide) GEgr.out RG.out BKgr.out⟩; replace BKgr := pp3_ BKgr hp_; replace HB := pb3_ GEgr HB hp_; clear hp_))
      clear x0 x1 x2
      replace BKgr := kd_ BKgr
      replace RG := Aside0.mk (Rg.drew RG.out)
      replace HB := bd_ HB
      refine sM_ [20, 23] (fun w' => w'.cell? ⟨gs, 0, none⟩ = some r1 ∧ w'.cell? ⟨gs, 1, none⟩ = some r2 ∧ (w'.cell? ⟨gr, 0, none⟩ = some (.int .i64 ra) ∧ w'.cell? ⟨gr, 1, none⟩ = some (.int .i64 rb) ∧ w'.cell? ⟨gr, 2, none⟩ = some (.int .i64 rc))) minute_scaled.tab6 minute_scaled.bits6 ⟨RG.out.cell0, RG.out.cell1, c3_ BKgr⟩ (fun hHeld HT_ HW_ => ?_)
      generalize w3.drew = w4 at BKgr RG HB hHeld ⊢
      refine pM_ HT_ 0 17 1 ?_
      refine pM_ HT_ 1 18 3 ?_
      refine pM_ HT_ 2 19 7 ?_
      refine pM_ HT_ 3 20 15 ?_
      refine pM_ HT_ 4 21 31 ?_
      refine pM_ HT_ 6 23 95 ?_
      refine pM_ HT_ 11 28 2143 ?_
      refine pM_ HT_ 12 29 6239 ?_
      refine pM_ HT_ 13 30 14431 ?_
      refine pM_ HT_ 15 32 47199 ?_
      refine tM_ HT_ HW_ hHeld 5 22 47231 ?_
      refine tM_ HT_ HW_ hHeld 7 24 47359 ?_
      refine tM_ HT_ HW_ hHeld 14 31 63743 ?_
      refine twM_ HT_ 8 (some 25) 63999 16 (some 33) 129279 (fun K hK => ?_) (fun K hK => ?_)
      · refine gV_ Tryz.func58 (vessel_minuteOf.calls ra rb rc rc _ rfl) ?_
        rintro e w5 ⟨rfl, hb⟩
        refine ⟨_, rfl, ?_⟩
        replace hb := nb_ HB hb
        replace BKgr := kb_ BKgr hb
        replace RG := Aside0.mk (Rg.below RG.out hb)
        replace HB := bs_ HB hb
        (try clear hb)
        refine hK.out _ _ ⟨RG.out.cell0, RG.out.cell1, c3_ BKgr⟩ (fun hHeld => ?_)
        clear hK K
        refine nM_ ?_
        refine twM_ HT_ 9 (some 26) 64511 16 (some 33) 129535 (fun K hK => ?_) (fun K hK => ?_)
        · refine lS_ 26 rc 89 ?_
          intro ga hg w6 hbox hb
          have LIA := Aside0.mk (Rg.lit RG.out hg hbox)
          replace hb := nb_ HB hb
          replace BKgr := kb_ BKgr hb
          replace RG := Aside0.mk (Rg.below RG.out hb)
          replace HB := bs_ HB hb
          clear hb hbox hg
          refine hK.out _ _ ⟨RG.out.cell0, RG.out.cell1, c3_ BKgr⟩ (fun hHeld => ?_)
          clear hK K
          refine nM_ ?_
          refine twM_ HT_ 10 (some 27) 65535 16 (some 33) 130047 (fun K hK => ?_) (fun K hK => ?_)
          · refine app_step (by rfl) (.tmp 22) (.tmp 26) 119 89 rfl Tryz.underlying119 info109 r1 (xs.take i) rc _ rfl rfl RG.out.o1 LIA.out.hl RG.out.hb HL1.out ?_
            intro u1 w7 ho hb hg hat
            obtain ⟨Au1, cu1, hu_⟩ := Kd.R_slice ho
            generalize hn_ : ((xs.take i) ++ [rc]).length = nu1 at hu_
            clear hn_
            subst hu_
            have n0_ := Aside0.mk (Rg.app1 (by decide) RG.out ho hb hg hat)
            have n1_ := Aside0.mk (Rg.other1 (by decide) RG.out BKgr.out hg)
            have n2_ := Aside0.mk hb
            clear RG BKgr HB LIA
            have RG := n0_
            have BKgr := n1_
            have HB := n2_
            clear n0_ n1_ n2_ ho hb hg hat
            refine hK.out _ _ ⟨RG.out.cell0, RG.out.cell1, c3_ BKgr⟩ (fun hHeld => ?_)
            clear hK K
            refine nM_ ?_
            refine oM_ HT_ 16 (some 33) 131071 (fun K hK => ?_)
            refine lS_ 33 (rd sm (i : Int)) 89 ?_
            intro gb hg w8 hbox hb
            have LIB := Aside0.mk (Rg.lit RG.out hg hbox)
            replace hb := nb_ HB hb
            replace BKgr := kb_ BKgr hb
            replace RG := Aside0.mk (Rg.below RG.out hb)
            replace HB := bs_ HB hb
            clear hb hbox hg
            refine hK.out _ _ ⟨RG.out.cell0, RG.out.cell1, c3_ BKgr⟩ (fun hHeld => ?_)
            clear hK K
            refine nM_ ?_
            refine oM_ HT_ 17 (some 34) 262143 (fun K hK => ?_)
            refine app_step (by rfl) (.tmp 31) (.tmp 33) 119 89 rfl Tryz.underlying119 info109 r2 (sm.take i) (rd sm (i : Int)) _ rfl rfl RG.out.o2 LIB.out.hl RG.out.hb HL2.out ?_
            intro u2 w10 ho hb hg hat
            obtain ⟨Au2, cu2, hu_⟩ := Kd.R_slice ho
            generalize hn_ : ((sm.take i) ++ [(rd sm (i : Int))]).length = nu2 at hu_
            clear hn_
            subst hu_
            have n0_ := Aside0.mk (Rg.app2 (by decide) RG.out ho hb hg hat)
            have n1_ := Aside0.mk (Rg.other2 (by decide) RG.out BKgr.out hg)
            have n2_ := Aside0.mk hb
            clear RG BKgr HB LIB
            have RG := n0_
            have BKgr := n1_
            have HB := n2_
            clear n0_ n1_ n2_ ho hb hg hat
            refine hK.out _ _ ⟨RG.out.cell0, RG.out.cell1, c3_ BKgr⟩ (fun hHeld => ?_)
            clear hK K
            refine nM_ ?_
            refine pM_ HT_ 18 35 524287 ?_
            refine pM_ HT_ 19 36 1048575 ?_
            refine lM_ HT_ 20 none 2097151 (fun K hK => ?_)
            have hs_ := RG.out.cell0
            have hf_ := blk_frozen RG.out.hs 0
            refine sk1_0_ ?_
            intro w11 hp_
            clear hs_ hf_
            replace BKgr := rgo0_ RG BKgr hp_
            replace RG := rgs0_ RG hp_
            replace HB := Aside0.mk RG.out.hb
            clear hp_
            refine hK.out _ _ ?_
            clear hK K
            refine pM_ HT_ 21 37 4194303 ?_
            refine pM_ HT_ 22 38 8388607 ?_
            refine lM_ HT_ 23 none 16777215 (fun K hK => ?_)
            have hs_ := RG.out.cell1
            have hf_ := blk_frozen RG.out.hs 1
            refine sk1_1_ ?_
            intro w12 hp_
            clear hs_ hf_
            replace BKgr := rgo1_ RG BKgr hp_
            replace RG := rgs1_ RG hp_
            replace HB := Aside0.mk RG.out.hb
            clear hp_
            refine hK.out _ _ ?_
            clear hK K
            refine dM_ HT_ ?_
            have hib : i ≤ 1000 := by have := HIJ.out; have := HN.out; omega
            obtain ⟨o0, o1, o2⟩ := c3_ BKgr
            go_wp2_with (first | ((with_reducible refine gate_dst (N := 42) rfl ?_); refine goesVL_ (some 42) rfl rfl Tryz.func58 (by kernel_rfl) rfl #[.agg #[.int .i64 ra, .int .i64 rb, .int .i64 rc]] rfl rfl (by (try simp only [List.map_toArray, List.map_cons, List.map_nil]); first | done | rfl) ?_; (with_reducible refine (vessel_minuteOf.calls ra rb rc rc _ rfl).mono ?_); rintro e w9 ⟨rfl, hb⟩; refine ⟨_, rfl, ?_⟩; replace hb := nb_ HB hb; replace BKgr := kb_ BKgr hb; replace RG := Aside0.mk (Rg.below RG.out hb); replace HB := bs_ HB hb; clear hb))
            have hx := HXL.out
            have hs := HSL.out
            have hsd := HSD.out i HIJ.out
            have hyy := HY.out
            have ht1 := take_rd xs i (by omega)
            have ht2 := take_rd sm i (by omega)
            rw [hyy] at ht1 hsd
            rw [ht1, ht2] at RG
            have HH := Aside0.mk hsd
            clear hsd hyy ht1 ht2 hx hs o0 o1 o2
            go_roundg (gk - 1)
            case measure => have := HI.out; have := HIJ.out; omega
            case rel => exact ⟨i + 1, _, _, by rw [show ((i + 1 : Nat) : Int) = (i : Int) + 1 from by omega, HH.out], by go_num, ⟨by have := HI.out; have := HIJ.out; omega⟩, RG⟩
          · refine lS_ 33 (rd sm (i : Int)) 89 ?_
            intro gb hg w8 hbox hb
            have LIB := Aside0.mk (Rg.lit RG.out hg hbox)
            replace hb := nb_ HB hb
            replace BKgr := kb_ BKgr hb
            replace RG := Aside0.mk (Rg.below RG.out hb)
            replace LIA := Aside0.mk (Li.below LIA.out hb)
            replace HB := bs_ HB hb
            clear hb hbox hg
            refine hK.out _ _ ⟨RG.out.cell0, RG.out.cell1, c3_ BKgr⟩ (fun hHeld => ?_)
            clear hK K
            refine nM_ ?_
            refine oM_ HT_ 10 (some 27) 131071 (fun K hK => ?_)
            refine app_step (by rfl) (.tmp 22) (.tmp 26) 119 89 rfl Tryz.underlying119 info109 r1 (xs.take i) rc _ rfl rfl RG.out.o1 LIA.out.hl RG.out.hb HL1.out ?_
            intro u1 w7 ho hb hg hat
            obtain ⟨Au1, cu1, hu_⟩ := Kd.R_slice ho
            generalize hn_ : ((xs.take i) ++ [rc]).length = nu1 at hu_
            clear hn_
            subst hu_
            have n0_ := Aside0.mk (Rg.app1 (by decide) RG.out ho hb hg hat)
            have n1_ := Aside0.mk (Rg.other1 (by decide) RG.out BKgr.out hg)
            have n2_ := Aside0.mk hb
            have n3_ := Aside0.mk (Li.app1 LIB.out hg hat)
            clear RG BKgr HB LIA LIB
            have RG := n0_
            have BKgr := n1_
            have HB := n2_
            have LIB := n3_
            clear n0_ n1_ n2_ n3_ ho hb hg hat
            refine hK.out _ _ ⟨RG.out.cell0, RG.out.cell1, c3_ BKgr⟩ (fun hHeld => ?_)
            clear hK K
            refine nM_ ?_
            refine oM_ HT_ 17 (some 34) 262143 (fun K hK => ?_)
            refine app_step (by rfl) (.tmp 31) (.tmp 33) 119 89 rfl Tryz.underlying119 info109 r2 (sm.take i) (rd sm (i : Int)) _ rfl rfl RG.out.o2 LIB.out.hl RG.out.hb HL2.out ?_
            intro u2 w10 ho hb hg hat
            obtain ⟨Au2, cu2, hu_⟩ := Kd.R_slice ho
            generalize hn_ : ((sm.take i) ++ [(rd sm (i : Int))]).length = nu2 at hu_
            clear hn_
            subst hu_
            have n0_ := Aside0.mk (Rg.app2 (by decide) RG.out ho hb hg hat)
            have n1_ := Aside0.mk (Rg.other2 (by decide) RG.out BKgr.out hg)
            have n2_ := Aside0.mk hb
            clear RG BKgr HB LIB
            have RG := n0_
            have BKgr := n1_
            have HB := n2_
            clear n0_ n1_ n2_ ho hb hg hat
            refine hK.out _ _ ⟨RG.out.cell0, RG.out.cell1, c3_ BKgr⟩ (fun hHeld => ?_)
            clear hK K
            refine nM_ ?_
            refine pM_ HT_ 18 35 524287 ?_
            refine pM_ HT_ 19 36 1048575 ?_
            refine lM_ HT_ 20 none 2097151 (fun K hK => ?_)
            have hs_ := RG.out.cell0
            have hf_ := blk_frozen RG.out.hs 0
            refine sk1_0_ ?_
            intro w11 hp_
            clear hs_ hf_
            replace BKgr := rgo0_ RG BKgr hp_
            replace RG := rgs0_ RG hp_
            replace HB := Aside0.mk RG.out.hb
            clear hp_
            refine hK.out _ _ ?_
            clear hK K
            refine pM_ HT_ 21 37 4194303 ?_
            refine pM_ HT_ 22 38 8388607 ?_
            refine lM_ HT_ 23 none 16777215 (fun K hK => ?_)
            have hs_ := RG.out.cell1
            have hf_ := blk_frozen RG.out.hs 1
            refine sk1_1_ ?_
            intro w12 hp_
            clear hs_ hf_
            replace BKgr := rgo1_ RG BKgr hp_
            replace RG := rgs1_ RG hp_
            replace HB := Aside0.mk RG.out.hb
            clear hp_
            refine hK.out _ _ ?_
            clear hK K
            refine dM_ HT_ ?_
            have hib : i ≤ 1000 := by have := HIJ.out; have := HN.out; omega
            obtain ⟨o0, o1, o2⟩ := c3_ BKgr
            go_wp2_with (first | ((with_reducible refine gate_dst (N := 42) rfl ?_); refine goesVL_ (some 42) rfl rfl Tryz.func58 (by kernel_rfl) rfl #[.agg #[.int .i64 ra, .int .i64 rb, .int .i64 rc]] rfl rfl (by (try simp only [List.map_toArray, List.map_cons, List.map_nil]); first | done | rfl) ?_; (with_reducible refine (vessel_minuteOf.calls ra rb rc rc _ rfl).mono ?_); rintro e w9 ⟨rfl, hb⟩; refine ⟨_, rfl, ?_⟩; replace hb := nb_ HB hb; replace BKgr := kb_ BKgr hb; replace RG := Aside0.mk (Rg.below RG.out hb); replace HB := bs_ HB hb; clear hb))
            have hx := HXL.out
            have hs := HSL.out
            have hsd := HSD.out i HIJ.out
            have hyy := HY.out
            have ht1 := take_rd xs i (by omega)
            have ht2 := take_rd sm i (by omega)
            rw [hyy] at ht1 hsd
            rw [ht1, ht2] at RG
            have HH := Aside0.mk hsd
            clear hsd hyy ht1 ht2 hx hs o0 o1 o2
            go_roundg (gk - 1)
            case measure => have := HI.out; have := HIJ.out; omega
            case rel => exact ⟨i + 1, _, _, by rw [show ((i + 1 : Nat) : Int) = (i : Int) + 1 from by omega, HH.out], by go_num, ⟨by have := HI.out; have := HIJ.out; omega⟩, RG⟩
        · refine lS_ 33 (rd sm (i : Int)) 89 ?_
          intro gb hg w8 hbox hb
          have LIB := Aside0.mk (Rg.lit RG.out hg hbox)
          replace hb := nb_ HB hb
          replace BKgr := kb_ BKgr hb
          replace RG := Aside0.mk (Rg.below RG.out hb)
          replace HB := bs_ HB hb
          clear hb hbox hg
          refine hK.out _ _ ⟨RG.out.cell0, RG.out.cell1, c3_ BKgr⟩ (fun hHeld => ?_)
          clear hK K
          refine nM_ ?_
          refine oM_ HT_ 9 (some 26) 130047 (fun K hK => ?_)
          refine lS_ 26 rc 89 ?_
          intro ga hg w6 hbox hb
          have LIA := Aside0.mk (Rg.lit RG.out hg hbox)
          replace hb := nb_ HB hb
          replace BKgr := kb_ BKgr hb
          replace RG := Aside0.mk (Rg.below RG.out hb)
          replace LIB := Aside0.mk (Li.below LIB.out hb)
          replace HB := bs_ HB hb
          clear hb hbox hg
          refine hK.out _ _ ⟨RG.out.cell0, RG.out.cell1, c3_ BKgr⟩ (fun hHeld => ?_)
          clear hK K
          refine nM_ ?_
          refine oM_ HT_ 10 (some 27) 131071 (fun K hK => ?_)
          refine app_step (by rfl) (.tmp 22) (.tmp 26) 119 89 rfl Tryz.underlying119 info109 r1 (xs.take i) rc _ rfl rfl RG.out.o1 LIA.out.hl RG.out.hb HL1.out ?_
          intro u1 w7 ho hb hg hat
          obtain ⟨Au1, cu1, hu_⟩ := Kd.R_slice ho
          generalize hn_ : ((xs.take i) ++ [rc]).length = nu1 at hu_
          clear hn_
          subst hu_
          have n0_ := Aside0.mk (Rg.app1 (by decide) RG.out ho hb hg hat)
          have n1_ := Aside0.mk (Rg.other1 (by decide) RG.out BKgr.out hg)
          have n2_ := Aside0.mk hb
          have n3_ := Aside0.mk (Li.app1 LIB.out hg hat)
          clear RG BKgr HB LIA LIB
          have RG := n0_
          have BKgr := n1_
          have HB := n2_
          have LIB := n3_
          clear n0_ n1_ n2_ n3_ ho hb hg hat
          refine hK.out _ _ ⟨RG.out.cell0, RG.out.cell1, c3_ BKgr⟩ (fun hHeld => ?_)
          clear hK K
          refine nM_ ?_
          refine oM_ HT_ 17 (some 34) 262143 (fun K hK => ?_)
          refine app_step (by rfl) (.tmp 31) (.tmp 33) 119 89 rfl Tryz.underlying119 info109 r2 (sm.take i) (rd sm (i : Int)) _ rfl rfl RG.out.o2 LIB.out.hl RG.out.hb HL2.out ?_
          intro u2 w10 ho hb hg hat
          obtain ⟨Au2, cu2, hu_⟩ := Kd.R_slice ho
          generalize hn_ : ((sm.take i) ++ [(rd sm (i : Int))]).length = nu2 at hu_
          clear hn_
          subst hu_
          have n0_ := Aside0.mk (Rg.app2 (by decide) RG.out ho hb hg hat)
          have n1_ := Aside0.mk (Rg.other2 (by decide) RG.out BKgr.out hg)
          have n2_ := Aside0.mk hb
          clear RG BKgr HB LIB
          have RG := n0_
          have BKgr := n1_
          have HB := n2_
          clear n0_ n1_ n2_ ho hb hg hat
          refine hK.out _ _ ⟨RG.out.cell0, RG.out.cell1, c3_ BKgr⟩ (fun hHeld => ?_)
          clear hK K
          refine nM_ ?_
          refine pM_ HT_ 18 35 524287 ?_
          refine pM_ HT_ 19 36 1048575 ?_
          refine lM_ HT_ 20 none 2097151 (fun K hK => ?_)
          have hs_ := RG.out.cell0
          have hf_ := blk_frozen RG.out.hs 0
          refine sk1_0_ ?_
          intro w11 hp_
          clear hs_ hf_
          replace BKgr := rgo0_ RG BKgr hp_
          replace RG := rgs0_ RG hp_
          replace HB := Aside0.mk RG.out.hb
          clear hp_
          refine hK.out _ _ ?_
          clear hK K
          refine pM_ HT_ 21 37 4194303 ?_
          refine pM_ HT_ 22 38 8388607 ?_
          refine lM_ HT_ 23 none 16777215 (fun K hK => ?_)
          have hs_ := RG.out.cell1
          have hf_ := blk_frozen RG.out.hs 1
          refine sk1_1_ ?_
          intro w12 hp_
          clear hs_ hf_
          replace BKgr := rgo1_ RG BKgr hp_
          replace RG := rgs1_ RG hp_
          replace HB := Aside0.mk RG.out.hb
          clear hp_
          refine hK.out _ _ ?_
          clear hK K
          refine dM_ HT_ ?_
          have hib : i ≤ 1000 := by have := HIJ.out; have := HN.out; omega
          obtain ⟨o0, o1, o2⟩ := c3_ BKgr
          go_wp2_with (first | ((with_reducible refine gate_dst (N := 42) rfl ?_); refine goesVL_ (some 42) rfl rfl Tryz.func58 (by kernel_rfl) rfl #[.agg #[.int .i64 ra, .int .i64 rb, .int .i64 rc]] rfl rfl (by (try simp only [List.map_toArray, List.map_cons, List.map_nil]); first | done | rfl) ?_; (with_reducible refine (vessel_minuteOf.calls ra rb rc rc _ rfl).mono ?_); rintro e w9 ⟨rfl, hb⟩; refine ⟨_, rfl, ?_⟩; replace hb := nb_ HB hb; replace BKgr := kb_ BKgr hb; replace RG := Aside0.mk (Rg.below RG.out hb); replace HB := bs_ HB hb; clear hb))
          have hx := HXL.out
          have hs := HSL.out
          have hsd := HSD.out i HIJ.out
          have hyy := HY.out
          have ht1 := take_rd xs i (by omega)
          have ht2 := take_rd sm i (by omega)
          rw [hyy] at ht1 hsd
          rw [ht1, ht2] at RG
          have HH := Aside0.mk hsd
          clear hsd hyy ht1 ht2 hx hs o0 o1 o2
          go_roundg (gk - 1)
          case measure => have := HI.out; have := HIJ.out; omega
          case rel => exact ⟨i + 1, _, _, by rw [show ((i + 1 : Nat) : Int) = (i : Int) + 1 from by omega, HH.out], by go_num, ⟨by have := HI.out; have := HIJ.out; omega⟩, RG⟩
      · refine lS_ 33 (rd sm (i : Int)) 89 ?_
        intro gb hg w8 hbox hb
        have LIB := Aside0.mk (Rg.lit RG.out hg hbox)
        replace hb := nb_ HB hb
        replace BKgr := kb_ BKgr hb
        replace RG := Aside0.mk (Rg.below RG.out hb)
        replace HB := bs_ HB hb
        clear hb hbox hg
        refine hK.out _ _ ⟨RG.out.cell0, RG.out.cell1, c3_ BKgr⟩ (fun hHeld => ?_)
        clear hK K
        refine nM_ ?_
        refine oM_ HT_ 8 (some 25) 129535 (fun K hK => ?_)
        refine gV_ Tryz.func58 (vessel_minuteOf.calls ra rb rc rc _ rfl) ?_
        rintro e w5 ⟨rfl, hb⟩
        refine ⟨_, rfl, ?_⟩
        replace hb := nb_ HB hb
        replace BKgr := kb_ BKgr hb
        replace RG := Aside0.mk (Rg.below RG.out hb)
        replace LIB := Aside0.mk (Li.below LIB.out hb)
        replace HB := bs_ HB hb
        (try clear hb)
        refine hK.out _ _ ⟨RG.out.cell0, RG.out.cell1, c3_ BKgr⟩ (fun hHeld => ?_)
        clear hK K
        refine nM_ ?_
        refine oM_ HT_ 9 (some 26) 130047 (fun K hK => ?_)
        refine lS_ 26 rc 89 ?_
        intro ga hg w6 hbox hb
        have LIA := Aside0.mk (Rg.lit RG.out hg hbox)
        replace hb := nb_ HB hb
        replace BKgr := kb_ BKgr hb
        replace RG := Aside0.mk (Rg.below RG.out hb)
        replace LIB := Aside0.mk (Li.below LIB.out hb)
        replace HB := bs_ HB hb
        clear hb hbox hg
        refine hK.out _ _ ⟨RG.out.cell0, RG.out.cell1, c3_ BKgr⟩ (fun hHeld => ?_)
        clear hK K
        refine nM_ ?_
        refine oM_ HT_ 10 (some 27) 131071 (fun K hK => ?_)
        refine app_step (by rfl) (.tmp 22) (.tmp 26) 119 89 rfl Tryz.underlying119 info109 r1 (xs.take i) rc _ rfl rfl RG.out.o1 LIA.out.hl RG.out.hb HL1.out ?_
        intro u1 w7 ho hb hg hat
        obtain ⟨Au1, cu1, hu_⟩ := Kd.R_slice ho
        generalize hn_ : ((xs.take i) ++ [rc]).length = nu1 at hu_
        clear hn_
        subst hu_
        have n0_ := Aside0.mk (Rg.app1 (by decide) RG.out ho hb hg hat)
        have n1_ := Aside0.mk (Rg.other1 (by decide) RG.out BKgr.out hg)
        have n2_ := Aside0.mk hb
        have n3_ := Aside0.mk (Li.app1 LIB.out hg hat)
        clear RG BKgr HB LIA LIB
        have RG := n0_
        have BKgr := n1_
        have HB := n2_
        have LIB := n3_
        clear n0_ n1_ n2_ n3_ ho hb hg hat
        refine hK.out _ _ ⟨RG.out.cell0, RG.out.cell1, c3_ BKgr⟩ (fun hHeld => ?_)
        clear hK K
        refine nM_ ?_
        refine oM_ HT_ 17 (some 34) 262143 (fun K hK => ?_)
        refine app_step (by rfl) (.tmp 31) (.tmp 33) 119 89 rfl Tryz.underlying119 info109 r2 (sm.take i) (rd sm (i : Int)) _ rfl rfl RG.out.o2 LIB.out.hl RG.out.hb HL2.out ?_
        intro u2 w10 ho hb hg hat
        obtain ⟨Au2, cu2, hu_⟩ := Kd.R_slice ho
        generalize hn_ : ((sm.take i) ++ [(rd sm (i : Int))]).length = nu2 at hu_
        clear hn_
        subst hu_
        have n0_ := Aside0.mk (Rg.app2 (by decide) RG.out ho hb hg hat)
        have n1_ := Aside0.mk (Rg.other2 (by decide) RG.out BKgr.out hg)
        have n2_ := Aside0.mk hb
        clear RG BKgr HB LIB
        have RG := n0_
        have BKgr := n1_
        have HB := n2_
        clear n0_ n1_ n2_ ho hb hg hat
        refine hK.out _ _ ⟨RG.out.cell0, RG.out.cell1, c3_ BKgr⟩ (fun hHeld => ?_)
        clear hK K
        refine nM_ ?_
        refine pM_ HT_ 18 35 524287 ?_
        refine pM_ HT_ 19 36 1048575 ?_
        refine lM_ HT_ 20 none 2097151 (fun K hK => ?_)
        have hs_ := RG.out.cell0
        have hf_ := blk_frozen RG.out.hs 0
        refine sk1_0_ ?_
        intro w11 hp_
        clear hs_ hf_
        replace BKgr := rgo0_ RG BKgr hp_
        replace RG := rgs0_ RG hp_
        replace HB := Aside0.mk RG.out.hb
        clear hp_
        refine hK.out _ _ ?_
        clear hK K
        refine pM_ HT_ 21 37 4194303 ?_
        refine pM_ HT_ 22 38 8388607 ?_
        refine lM_ HT_ 23 none 16777215 (fun K hK => ?_)
        have hs_ := RG.out.cell1
        have hf_ := blk_frozen RG.out.hs 1
        refine sk1_1_ ?_
        intro w12 hp_
        clear hs_ hf_
        replace BKgr := rgo1_ RG BKgr hp_
        replace RG := rgs1_ RG hp_
        replace HB := Aside0.mk RG.out.hb
        clear hp_
        refine hK.out _ _ ?_
        clear hK K
        refine dM_ HT_ ?_
        have hib : i ≤ 1000 := by have := HIJ.out; have := HN.out; omega
        obtain ⟨o0, o1, o2⟩ := c3_ BKgr
        go_wp2_with (first | ((with_reducible refine gate_dst (N := 42) rfl ?_); refine goesVL_ (some 42) rfl rfl Tryz.func58 (by kernel_rfl) rfl #[.agg #[.int .i64 ra, .int .i64 rb, .int .i64 rc]] rfl rfl (by (try simp only [List.map_toArray, List.map_cons, List.map_nil]); first | done | rfl) ?_; (with_reducible refine (vessel_minuteOf.calls ra rb rc rc _ rfl).mono ?_); rintro e w9 ⟨rfl, hb⟩; refine ⟨_, rfl, ?_⟩; replace hb := nb_ HB hb; replace BKgr := kb_ BKgr hb; replace RG := Aside0.mk (Rg.below RG.out hb); replace HB := bs_ HB hb; clear hb))
        have hx := HXL.out
        have hs := HSL.out
        have hsd := HSD.out i HIJ.out
        have hyy := HY.out
        have ht1 := take_rd xs i (by omega)
        have ht2 := take_rd sm i (by omega)
        rw [hyy] at ht1 hsd
        rw [ht1, ht2] at RG
        have HH := Aside0.mk hsd
        clear hsd hyy ht1 ht2 hx hs o0 o1 o2
        go_roundg (gk - 1)
        case measure => have := HI.out; have := HIJ.out; omega
        case rel => exact ⟨i + 1, _, _, by rw [show ((i + 1 : Nat) : Int) = (i : Int) + 1 from by omega, HH.out], by go_num, ⟨by have := HI.out; have := HIJ.out; omega⟩, RG⟩
    · have hd : decide ((i : Int) < (l0.length : Int)) = false := decide_eq_false (by omega)
      have hd2 : decide (i < l0.length) = false := decide_eq_false hij
      have hx := HXL.out
      have hs := HSL.out
      have hbd := HN.out
      have hx2 : xs.take i = xs := List.take_of_length_le (by omega)
      have ht2 := take_rd sm i (by omega)
      have hx3 : sm.take (i + 1) = sm := List.take_of_length_le (by omega)
      have hl2 : (sm.take i).length ≤ 1000 := by rw [List.length_take]; omega
      rw [hx3] at ht2
      rw [hx2] at RG
      have HT2 := Aside0.mk ht2
      have HL2 := Aside0.mk hl2
      have HB := Aside0.mk RG.out.hb
      clear hx hs hbd hx2 ht2 hx3 hl2
      have hc1 := RG.out.cell1
      go_wp2_with (first | ((with_reducible refine gate_dst (N := 51) rfl ?_); refine lit_list ?hg (N := 51) ?hd (y := rd sm (i : Int)) (E := 89) ?hr ?_; (case hd => rfl); (case hg => rfl); (case hr => first | (go_simp; done) | (go_simp; rfl)); intro ga hg w5 hbox hb; have LI := Aside0.mk (Rg.lit RG.out hg hbox); have n0_ := Aside0.mk (Rg.below RG.out hb); clear RG; have RG := n0_; clear n0_ hb hbox hg) | ((with_reducible refine gate_dst (N := 52) rfl ?_); refine app_list ?hg (.tmp 49) (.tmp 51) 119 89 ?ho Tryz.underlying119 info109 r2 (sm.take i) (rd sm (i : Int)) ga ?hs ?hx RG.out.o2 LI.out.hl RG.out.hb HL2.out ?_; (case hg => rfl); (case ho => rfl); (case hs => rfl); (case hx => rfl); intro u2 w6 ho hb hg hat; obtain ⟨Au2, cu2, hu_⟩ := Kd.R_slice ho; generalize hn_ : (sm.take i ++ [rd sm (i : Int)]).length = nu2 at hu_; clear hn_; subst hu_; have n0_ := Aside0.mk (Rg.app2 (by decide) RG.out ho hb hg hat); clear RG; have RG := n0_; clear n0_ ho hb hg hat; have hs1 := RG.out.cell1; have hf1 := blk_frozen RG.out.hs 1))
      rw [HT2.out] at RG
      have n0_ := Aside0.mk (Rg.set1 (u := .slice Au2 nu2 cu2) (by decide) RG.out)
      go_ret
      exact ⟨gs, rfl, n0_.out.scx, n0_.out.hb⟩
def volume_scaled.T6 : Bool × List (List Nat × List Nat) := (true, [([], []), ([], []), ([], []), ([2], [2]), ([3], [3]), ([4], [4]), ([], []), ([], []), ([6, 7], [6, 7]), ([8], [8]), ([5, 9, 8], [5, 9]), ([], []), ([11], [11]), ([12], [12]), ([13], [13]), ([], []), ([15], [15]), ([14, 16, 10], [14, 16]), ([0, 0, 2, 3, 4, 5, 6, 7, 8, 9, 10, 14, 17], [0]), ([18, 0, 2, 3, 4, 5, 6, 7, 8, 9, 10, 14, 17], [18]), ([19, 10, 17, 0, 2, 3, 4, 5, 6, 7, 8, 9, 10, 14, 17], [10, 19]), ([1, 0, 1, 2, 3, 4, 5, 6, 7, 8, 9, 10, 11, 12, 13, 14, 15, 16, 17, 18, 19, 20], [1]), ([21, 0, 1, 2, 3, 4, 5, 6, 7, 8, 9, 10, 11, 12, 13, 14, 15, 16, 17, 18, 19, 20], [21]), ([22, 17, 20, 0, 1, 2, 3, 4, 5, 6, 7, 8, 9, 10, 11, 12, 13, 14, 15, 16, 17, 18, 19, 20], [17, 22])])
def volume_scaled.B6 : List Nat := [0, 0, 0, 4, 12, 28, 0, 0, 192, 448, 1020, 0, 2048, 6144, 14336, 0, 32768, 131068, 262141, 524285, 1048573, 2097151, 4194303, 8388607]
theorem volume_scaled.tab6 : rtab .any (opsOf Tryz.f71 6) = volume_scaled.T6 := by kernel_rfl
theorem volume_scaled.bits6 : waitsOk volume_scaled.T6.2 volume_scaled.B6 = true := by kernel_rfl
set_option maxHeartbeats 1600000 in
set_option maxRecDepth 100000 in
theorem volume_scaled.calls (A0 : Option Addr) (c0 : Nat) (l0 : List S79) (w : World) (hr0 : Kd.C k79 w A0 l0.length l0) (hn : l0.length ≤ 900) :
    Calls Tryz.prog 71 #[.slice A0 l0.length c0, .func (.func 72) #[] #[]] w (ScRet w (l0.map (·.f1)) (sums 0 (l0.map (·.f1)))) := by
  have hu79 := Tryz.underlying35
  have hu157 := Tryz.underlying125
  have HR0 := Aside0.mk hr0
  have HN := Aside0.mk hn
  clear hr0
  have hxl : (l0.map (·.f1)).length = l0.length := List.length_map _
  have hrd : ∀ i : Nat, i < l0.length → rd (l0.map (·.f1)) (i : Int) = (rd_T79 l0 (i : Int)).f1 := by
    intro i hi
    simp [rd, rd_T79, List.getD_eq_getElem?_getD, List.getElem?_map, List.getElem?_eq_getElem hi]
  have hsl := sums_length (l0.map (·.f1)) 0
  have hsd : ∀ i : Nat, i < l0.length → rd (sums 0 (l0.map (·.f1))) ((i : Int) + 1) = wrap64 (rd (sums 0 (l0.map (·.f1))) (i : Int) + rd (l0.map (·.f1)) (i : Int)) := fun i hi => rd_sums _ 0 i (by rw [hxl]; exact hi)
  have hs0 : rd (sums 0 (l0.map (·.f1))) 0 = 0 := by cases l0 <;> simp [rd, sums]
  generalize hSM : sums 0 (l0.map (·.f1)) = sm at *
  generalize hXS : l0.map (·.f1) = xs at *
  clear hSM hXS
  have HXL := Aside0.mk hxl
  have HRD := Aside0.mk hrd
  have HSL := Aside0.mk hsl
  have HSD := Aside0.mk hsd
  have HS0 := Aside0.mk hs0
  clear hxl hrd hsl hsd hs0 hn
  have HB := Aside0.mk (Below.refl w.heap.size w)
  go_enter Tryz.func71, Tryz.ntmps71
  go_wp2_with (first | ((with_reducible refine gate_dst (N := 10) rfl ?_); refine bx_ 10 #[.slice none 0 0, .slice none 0 0] 125 ?_; intro gs hg w1 hbox hb; have GEgs := ge_ hg HB; replace hb := nb_ HB hb; replace HB := bs_ HB hb; have BKgs := Aside0.mk hbox; clear hb hbox hg))
  have RG : Aside0 (Rg w w1 125 94 gs (.slice none 0 0) (.slice none 0 0) (.slice none 0 0) (.slice none 0 0) (xs.take 0) (sm.take 0)) := ⟨⟨HB.out, GEgs.out, BKgs.out, Kd.R_nil _ _ _ _ _, Kd.R_nil _ _ _ _ _, fun k hk => by simp [Value.ownBlock] at hk⟩⟩
  clear HB BKgs
  go_loopg [6, 13] l0.length (fun kq v6 v13 w' => ∃ (i : Nat) (r1 r2 : Value), v6 = .int .i64 (rd sm (i : Int)) ∧ v13 = .int .i64 (i : Int) ∧ Aside0 (i + kq = l0.length) ∧ Aside0 (Rg w w' 125 94 gs r1 r2 r1 r2 (xs.take i) (sm.take i)))
  case atStart => exact ⟨0, .slice none 0 0, .slice none 0 0, by first | (rw [show ((0 : Nat) : Int) = 0 from rfl, HS0.out]; done) | (simp [HS0.out]; done), rfl, ⟨by omega⟩, RG⟩
  case round =>
    clear RG
    obtain ⟨i, r1, r2, rfl, rfl, HI, RG⟩ := hrel
    have hik := HI.out
    by_cases hij : i < l0.length
    · have hd : decide ((i : Int) < (l0.length : Int)) = true := decide_eq_true (by omega)
      have hd2 : decide (i < l0.length) = true := decide_eq_true hij
      clear hik
      have p1 : (0 : Int) ≤ (i : Int) := by omega
      have q1 : (i : Int) < (l0.length : Int) := by omega
      obtain ⟨ad, e9, x0, x1, x2⟩ := at_T79 HR0.out (i : Int) p1 q1
      cases e9
      simp only [Int.toNat_natCast] at x0 x1 x2
      replace x0 := pw_cell_below RG.out.hb x0
      replace x1 := pw_cell_below RG.out.hb x1
      replace x2 := pw_cell_below RG.out.hb x2
      have HB := Aside0.mk RG.out.hb
      have hy := HRD.out i hij
      have hbd := HN.out
      have HIJ := Aside0.mk hij
      have hl1 : (xs.take i).length ≤ 1000 := by rw [List.length_take]; have := HXL.out; omega
      have hl2 : (sm.take i).length ≤ 1000 := by rw [List.length_take]; omega
      have HL1 := Aside0.mk hl1
      have HL2 := Aside0.mk hl2
      have HY := Aside0.mk hy
      clear hl1 hl2 hy hbd
      generalize hra : (rd_T79 l0 (i : Int)).f0 = ra at x0 HY
      generalize hrb : (rd_T79 l0 (i : Int)).f1 = rb at x1 HY
      generalize hrc : (rd_T79 l0 (i : Int)).f2 = rc at x2 HY
      clear hra hrb hrc
      go_wp2_with (first | ((with_reducible refine gate_dst (N := 8) rfl ?_); refine bx_ 8 #[.int .i64 0, .int .i64 0, .int .i64 0] 35 ?_; intro gr hg w2 hbox hb; have GEgr := ge_ hg HB; replace hb := nb_ HB hb; replace RG := Aside0.mk (Rg.below RG.out hb); replace HB := bs_ HB hb; have BKgr := Aside0.mk hbox; replace x0 := pw_cell_below hb x0; replace x1 := pw_cell_below hb x1; replace x2 := pw_cell_below hb x2; clear hb hbox hg) | ((with_reducible refine gate_store (t := 35) (p := 8) rfl ?_); have hc_ := cf3_ BKgr; refine st3_ ?_; intro w3 hp_; clear hc_; replace RG : Aside0 (Rg w w3 125 94 gs r1 r2 r1 r2 (xs.take i) (sm.take i)) := ⟨by rw [← hp_.e]; exact Rg.set3 (by decide) (by decide) GEgr.out RG.out BKgr.out⟩; replace BKgr := pp3_ BKgr hp_; replace HB := pb3_ GEgr HB hp_; clear hp_))
      clear x0 x1 x2
      replace BKgr := kd_ BKgr
      replace RG := Aside0.mk (Rg.drew RG.out)
      replace HB := bd_ HB
      refine sM_ [20, 23] (fun w' => w'.cell? ⟨gs, 0, none⟩ = some r1 ∧ w'.cell? ⟨gs, 1, none⟩ = some r2 ∧ (w'.cell? ⟨gr, 0, none⟩ = some (.int .i64 ra) ∧ w'.cell? ⟨gr, 1, none⟩ = some (.int .i64 rb) ∧ w'.cell? ⟨gr, 2, none⟩ = some (.int .i64 rc))) volume_scaled.tab6 volume_scaled.bits6 ⟨RG.out.cell0, RG.out.cell1, c3_ BKgr⟩ (fun hHeld HT_ HW_ => ?_)
      generalize w3.drew = w4 at BKgr RG HB hHeld ⊢
      refine pM_ HT_ 0 17 1 ?_
      refine pM_ HT_ 1 18 3 ?_
      refine pM_ HT_ 2 19 7 ?_
      refine pM_ HT_ 3 20 15 ?_
      refine pM_ HT_ 4 21 31 ?_
      refine pM_ HT_ 6 23 95 ?_
      refine pM_ HT_ 11 28 2143 ?_
      refine pM_ HT_ 12 29 6239 ?_
      refine pM_ HT_ 13 30 14431 ?_
      refine pM_ HT_ 15 32 47199 ?_
      refine tM_ HT_ HW_ hHeld 5 22 47231 ?_
      refine tM_ HT_ HW_ hHeld 7 24 47359 ?_
      refine tM_ HT_ HW_ hHeld 14 31 63743 ?_
      refine twM_ HT_ 8 (some 25) 63999 16 (some 33) 129279 (fun K hK => ?_) (fun K hK => ?_)
      · refine gV_ Tryz.func72 (vessel_volumeOf.calls ra rb rc rb _ rfl) ?_
        rintro e w5 ⟨rfl, hb⟩
        refine ⟨_, rfl, ?_⟩
        replace hb := nb_ HB hb
        replace BKgr := kb_ BKgr hb
        replace RG := Aside0.mk (Rg.below RG.out hb)
        replace HB := bs_ HB hb
        (try clear hb)
        refine hK.out _ _ ⟨RG.out.cell0, RG.out.cell1, c3_ BKgr⟩ (fun hHeld => ?_)
        clear hK K
        refine nM_ ?_
        refine twM_ HT_ 9 (some 26) 64511 16 (some 33) 129535 (fun K hK => ?_) (fun K hK => ?_)
        · refine lS_ 26 rb 94 ?_
          intro ga hg w6 hbox hb
          have LIA := Aside0.mk (Rg.lit RG.out hg hbox)
          replace hb := nb_ HB hb
          replace BKgr := kb_ BKgr hb
          replace RG := Aside0.mk (Rg.below RG.out hb)
          replace HB := bs_ HB hb
          clear hb hbox hg
          refine hK.out _ _ ⟨RG.out.cell0, RG.out.cell1, c3_ BKgr⟩ (fun hHeld => ?_)
          clear hK K
          refine nM_ ?_
          refine twM_ HT_ 10 (some 27) 65535 16 (some 33) 130047 (fun K hK => ?_) (fun K hK => ?_)
          · refine app_step (by rfl) (.tmp 22) (.tmp 26) 123 94 rfl Tryz.underlying123 info115 r1 (xs.take i) rb _ rfl rfl RG.out.o1 LIA.out.hl RG.out.hb HL1.out ?_
            intro u1 w7 ho hb hg hat
            obtain ⟨Au1, cu1, hu_⟩ := Kd.R_slice ho
            generalize hn_ : ((xs.take i) ++ [rb]).length = nu1 at hu_
            clear hn_
            subst hu_
            have n0_ := Aside0.mk (Rg.app1 (by decide) RG.out ho hb hg hat)
            have n1_ := Aside0.mk (Rg.other1 (by decide) RG.out BKgr.out hg)
            have n2_ := Aside0.mk hb
            clear RG BKgr HB LIA
            have RG := n0_
            have BKgr := n1_
            have HB := n2_
            clear n0_ n1_ n2_ ho hb hg hat
            refine hK.out _ _ ⟨RG.out.cell0, RG.out.cell1, c3_ BKgr⟩ (fun hHeld => ?_)
            clear hK K
            refine nM_ ?_
            refine oM_ HT_ 16 (some 33) 131071 (fun K hK => ?_)
            refine lS_ 33 (rd sm (i : Int)) 94 ?_
            intro gb hg w8 hbox hb
            have LIB := Aside0.mk (Rg.lit RG.out hg hbox)
            replace hb := nb_ HB hb
            replace BKgr := kb_ BKgr hb
            replace RG := Aside0.mk (Rg.below RG.out hb)
            replace HB := bs_ HB hb
            clear hb hbox hg
            refine hK.out _ _ ⟨RG.out.cell0, RG.out.cell1, c3_ BKgr⟩ (fun hHeld => ?_)
            clear hK K
            refine nM_ ?_
            refine oM_ HT_ 17 (some 34) 262143 (fun K hK => ?_)
            refine app_step (by rfl) (.tmp 31) (.tmp 33) 123 94 rfl Tryz.underlying123 info115 r2 (sm.take i) (rd sm (i : Int)) _ rfl rfl RG.out.o2 LIB.out.hl RG.out.hb HL2.out ?_
            intro u2 w10 ho hb hg hat
            obtain ⟨Au2, cu2, hu_⟩ := Kd.R_slice ho
            generalize hn_ : ((sm.take i) ++ [(rd sm (i : Int))]).length = nu2 at hu_
            clear hn_
            subst hu_
            have n0_ := Aside0.mk (Rg.app2 (by decide) RG.out ho hb hg hat)
            have n1_ := Aside0.mk (Rg.other2 (by decide) RG.out BKgr.out hg)
            have n2_ := Aside0.mk hb
            clear RG BKgr HB LIB
            have RG := n0_
            have BKgr := n1_
            have HB := n2_
            clear n0_ n1_ n2_ ho hb hg hat
            refine hK.out _ _ ⟨RG.out.cell0, RG.out.cell1, c3_ BKgr⟩ (fun hHeld => ?_)
            clear hK K
            refine nM_ ?_
            refine pM_ HT_ 18 35 524287 ?_
            refine pM_ HT_ 19 36 1048575 ?_
            refine lM_ HT_ 20 none 2097151 (fun K hK => ?_)
            have hs_ := RG.out.cell0
            have hf_ := blk_frozen RG.out.hs 0
            refine sk1_0_ ?_
            intro w11 hp_
            clear hs_ hf_
            replace BKgr := rgo0_ RG BKgr hp_
            replace RG := rgs0_ RG hp_
            replace HB := Aside0.mk RG.out.hb
            clear hp_
            refine hK.out _ _ ?_
            clear hK K
            refine pM_ HT_ 21 37 4194303 ?_
            refine pM_ HT_ 22 38 8388607 ?_
            refine lM_ HT_ 23 none 16777215 (fun K hK => ?_)
            have hs_ := RG.out.cell1
            have hf_ := blk_frozen RG.out.hs 1
            refine sk1_1_ ?_
            intro w12 hp_
            clear hs_ hf_
            replace BKgr := rgo1_ RG BKgr hp_
            replace RG := rgs1_ RG hp_
            replace HB := Aside0.mk RG.out.hb
            clear hp_
            refine hK.out _ _ ?_
            clear hK K
            refine dM_ HT_ ?_
            have hib : i ≤ 1000 := by have := HIJ.out; have := HN.out; omega
            obtain ⟨o0, o1, o2⟩ := c3_ BKgr
            go_wp2_with (first | ((with_reducible refine gate_dst (N := 42) rfl ?_); refine goesVL_ (some 42) rfl rfl Tryz.func72 (by kernel_rfl) rfl #[.agg #[.int .i64 ra, .int .i64 rb, .int .i64 rc]] rfl rfl (by (try simp only [List.map_toArray, List.map_cons, List.map_nil]); first | done | rfl) ?_; (with_reducible refine (vessel_volumeOf.calls ra rb rc rb _ rfl).mono ?_); rintro e w9 ⟨rfl, hb⟩; refine ⟨_, rfl, ?_⟩; replace hb := nb_ HB hb; replace BKgr := kb_ BKgr hb; replace RG := Aside0.mk (Rg.below RG.out hb); replace HB := bs_ HB hb; clear hb))
            have hx := HXL.out
            have hs := HSL.out
            have hsd := HSD.out i HIJ.out
            have hyy := HY.out
            have ht1 := take_rd xs i (by omega)
            have ht2 := take_rd sm i (by omega)
            rw [hyy] at ht1 hsd
            rw [ht1, ht2] at RG
            have HH := Aside0.mk hsd
            clear hsd hyy ht1 ht2 hx hs o0 o1 o2
            go_roundg (gk - 1)
            case measure => have := HI.out; have := HIJ.out; omega
            case rel => exact ⟨i + 1, _, _, by rw [show ((i + 1 : Nat) : Int) = (i : Int) + 1 from by omega, HH.out], by go_num, ⟨by have := HI.out; have := HIJ.out; omega⟩, RG⟩
          · refine lS_ 33 (rd sm (i : Int)) 94 ?_
            intro gb hg w8 hbox hb
            have LIB := Aside0.mk (Rg.lit RG.out hg hbox)
            replace hb := nb_ HB hb
            replace BKgr := kb_ BKgr hb
            replace RG := Aside0.mk (Rg.below RG.out hb)
            replace LIA := Aside0.mk (Li.below LIA.out hb)
            replace HB := bs_ HB hb
            clear hb hbox hg
            refine hK.out _ _ ⟨RG.out.cell0, RG.out.cell1, c3_ BKgr⟩ (fun hHeld => ?_)
            clear hK K
            refine nM_ ?_
            refine oM_ HT_ 10 (some 27) 131071 (fun K hK => ?_)
            refine app_step (by rfl) (.tmp 22) (.tmp 26) 123 94 rfl Tryz.underlying123 info115 r1 (xs.take i) rb _ rfl rfl RG.out.o1 LIA.out.hl RG.out.hb HL1.out ?_
            intro u1 w7 ho hb hg hat
            obtain ⟨Au1, cu1, hu_⟩ := Kd.R_slice ho
            generalize hn_ : ((xs.take i) ++ [rb]).length = nu1 at hu_
            clear hn_
            subst hu_
            have n0_ := Aside0.mk (Rg.app1 (by decide) RG.out ho hb hg hat)
            have n1_ := Aside0.mk (Rg.other1 (by decide) RG.out BKgr.out hg)
            have n2_ := Aside0.mk hb
            have n3_ := Aside0.mk (Li.app1 LIB.out hg hat)
            clear RG BKgr HB LIA LIB
            have RG := n0_
            have BKgr := n1_
            have HB := n2_
            have LIB := n3_
            clear n0_ n1_ n2_ n3_ ho hb hg hat
            refine hK.out _ _ ⟨RG.out.cell0, RG.out.cell1, c3_ BKgr⟩ (fun hHeld => ?_)
            clear hK K
            refine nM_ ?_
            refine oM_ HT_ 17 (some 34) 262143 (fun K hK => ?_)
            refine app_step (by rfl) (.tmp 31) (.tmp 33) 123 94 rfl Tryz.underlying123 info115 r2 (sm.take i) (rd sm (i : Int)) _ rfl rfl RG.out.o2 LIB.out.hl RG.out.hb HL2.out ?_
            intro u2 w10 ho hb hg hat
            obtain ⟨Au2, cu2, hu_⟩ := Kd.R_slice ho
            generalize hn_ : ((sm.take i) ++ [(rd sm (i : Int))]).length = nu2 at hu_
            clear hn_
            subst hu_
            have n0_ := Aside0.mk (Rg.app2 (by decide) RG.out ho hb hg hat)
            have n1_ := Aside0.mk (Rg.other2 (by decide) RG.out BKgr.out hg)
            have n2_ := Aside0.mk hb
            clear RG BKgr HB LIB
            have RG := n0_
            have BKgr := n1_
            have HB := n2_
            clear n0_ n1_ n2_ ho hb hg hat
            refine hK.out _ _ ⟨RG.out.cell0, RG.out.cell1, c3_ BKgr⟩ (fun hHeld => ?_)
            clear hK K
            refine nM_ ?_
            refine pM_ HT_ 18 35 524287 ?_
            refine pM_ HT_ 19 36 1048575 ?_
            refine lM_ HT_ 20 none 2097151 (fun K hK => ?_)
            have hs_ := RG.out.cell0
            have hf_ := blk_frozen RG.out.hs 0
            refine sk1_0_ ?_
            intro w11 hp_
            clear hs_ hf_
            replace BKgr := rgo0_ RG BKgr hp_
            replace RG := rgs0_ RG hp_
            replace HB := Aside0.mk RG.out.hb
            clear hp_
            refine hK.out _ _ ?_
            clear hK K
            refine pM_ HT_ 21 37 4194303 ?_
            refine pM_ HT_ 22 38 8388607 ?_
            refine lM_ HT_ 23 none 16777215 (fun K hK => ?_)
            have hs_ := RG.out.cell1
            have hf_ := blk_frozen RG.out.hs 1
            refine sk1_1_ ?_
            intro w12 hp_
            clear hs_ hf_
            replace BKgr := rgo1_ RG BKgr hp_
            replace RG := rgs1_ RG hp_
            replace HB := Aside0.mk RG.out.hb
            clear hp_
            refine hK.out _ _ ?_
            clear hK K
            refine dM_ HT_ ?_
            have hib : i ≤ 1000 := by have := HIJ.out; have := HN.out; omega
            obtain ⟨o0, o1, o2⟩ := c3_ BKgr
            go_wp2_with (first | ((with_reducible refine gate_dst (N := 42) rfl ?_); refine goesVL_ (some 42) rfl rfl Tryz.func72 (by kernel_rfl) rfl #[.agg #[.int .i64 ra, .int .i64 rb, .int .i64 rc]] rfl rfl (by (try simp only [List.map_toArray, List.map_cons, List.map_nil]); first | done | rfl) ?_; (with_reducible refine (vessel_volumeOf.calls ra rb rc rb _ rfl).mono ?_); rintro e w9 ⟨rfl, hb⟩; refine ⟨_, rfl, ?_⟩; replace hb := nb_ HB hb; replace BKgr := kb_ BKgr hb; replace RG := Aside0.mk (Rg.below RG.out hb); replace HB := bs_ HB hb; clear hb))
            have hx := HXL.out
            have hs := HSL.out
            have hsd := HSD.out i HIJ.out
            have hyy := HY.out
            have ht1 := take_rd xs i (by omega)
            have ht2 := take_rd sm i (by omega)
            rw [hyy] at ht1 hsd
            rw [ht1, ht2] at RG
            have HH := Aside0.mk hsd
            clear hsd hyy ht1 ht2 hx hs o0 o1 o2
            go_roundg (gk - 1)
            case measure => have := HI.out; have := HIJ.out; omega
            case rel => exact ⟨i + 1, _, _, by rw [show ((i + 1 : Nat) : Int) = (i : Int) + 1 from by omega, HH.out], by go_num, ⟨by have := HI.out; have := HIJ.out; omega⟩, RG⟩
        · refine lS_ 33 (rd sm (i : Int)) 94 ?_
          intro gb hg w8 hbox hb
          have LIB := Aside0.mk (Rg.lit RG.out hg hbox)
          replace hb := nb_ HB hb
          replace BKgr := kb_ BKgr hb
          replace RG := Aside0.mk (Rg.below RG.out hb)
          replace HB := bs_ HB hb
          clear hb hbox hg
          refine hK.out _ _ ⟨RG.out.cell0, RG.out.cell1, c3_ BKgr⟩ (fun hHeld => ?_)
          clear hK K
          refine nM_ ?_
          refine oM_ HT_ 9 (some 26) 130047 (fun K hK => ?_)
          refine lS_ 26 rb 94 ?_
          intro ga hg w6 hbox hb
          have LIA := Aside0.mk (Rg.lit RG.out hg hbox)
          replace hb := nb_ HB hb
          replace BKgr := kb_ BKgr hb
          replace RG := Aside0.mk (Rg.below RG.out hb)
          replace LIB := Aside0.mk (Li.below LIB.out hb)
          replace HB := bs_ HB hb
          clear hb hbox hg
          refine hK.out _ _ ⟨RG.out.cell0, RG.out.cell1, c3_ BKgr⟩ (fun hHeld => ?_)
          clear hK K
          refine nM_ ?_
          refine oM_ HT_ 10 (some 27) 131071 (fun K hK => ?_)
          refine app_step (by rfl) (.tmp 22) (.tmp 26) 123 94 rfl Tryz.underlying123 info115 r1 (xs.take i) rb _ rfl rfl RG.out.o1 LIA.out.hl RG.out.hb HL1.out ?_
          intro u1 w7 ho hb hg hat
          obtain ⟨Au1, cu1, hu_⟩ := Kd.R_slice ho
          generalize hn_ : ((xs.take i) ++ [rb]).length = nu1 at hu_
          clear hn_
          subst hu_
          have n0_ := Aside0.mk (Rg.app1 (by decide) RG.out ho hb hg hat)
          have n1_ := Aside0.mk (Rg.other1 (by decide) RG.out BKgr.out hg)
          have n2_ := Aside0.mk hb
          have n3_ := Aside0.mk (Li.app1 LIB.out hg hat)
          clear RG BKgr HB LIA LIB
          have RG := n0_
          have BKgr := n1_
          have HB := n2_
          have LIB := n3_
          clear n0_ n1_ n2_ n3_ ho hb hg hat
          refine hK.out _ _ ⟨RG.out.cell0, RG.out.cell1, c3_ BKgr⟩ (fun hHeld => ?_)
          clear hK K
          refine nM_ ?_
          refine oM_ HT_ 17 (some 34) 262143 (fun K hK => ?_)
          refine app_step (by rfl) (.tmp 31) (.tmp 33) 123 94 rfl Tryz.underlying123 info115 r2 (sm.take i) (rd sm (i : Int)) _ rfl rfl RG.out.o2 LIB.out.hl RG.out.hb HL2.out ?_
          intro u2 w10 ho hb hg hat
          obtain ⟨Au2, cu2, hu_⟩ := Kd.R_slice ho
          generalize hn_ : ((sm.take i) ++ [(rd sm (i : Int))]).length = nu2 at hu_
          clear hn_
          subst hu_
          have n0_ := Aside0.mk (Rg.app2 (by decide) RG.out ho hb hg hat)
          have n1_ := Aside0.mk (Rg.other2 (by decide) RG.out BKgr.out hg)
          have n2_ := Aside0.mk hb
          clear RG BKgr HB LIB
          have RG := n0_
          have BKgr := n1_
          have HB := n2_
          clear n0_ n1_ n2_ ho hb hg hat
          refine hK.out _ _ ⟨RG.out.cell0, RG.out.cell1, c3_ BKgr⟩ (fun hHeld => ?_)
          clear hK K
          refine nM_ ?_
          refine pM_ HT_ 18 35 524287 ?_
          refine pM_ HT_ 19 36 1048575 ?_
          refine lM_ HT_ 20 none 2097151 (fun K hK => ?_)
          have hs_ := RG.out.cell0
          have hf_ := blk_frozen RG.out.hs 0
          refine sk1_0_ ?_
          intro w11 hp_
          clear hs_ hf_
          replace BKgr := rgo0_ RG BKgr hp_
          replace RG := rgs0_ RG hp_
          replace HB := Aside0.mk RG.out.hb
          clear hp_
          refine hK.out _ _ ?_
          clear hK K
          refine pM_ HT_ 21 37 4194303 ?_
          refine pM_ HT_ 22 38 8388607 ?_
          refine lM_ HT_ 23 none 16777215 (fun K hK => ?_)
          have hs_ := RG.out.cell1
          have hf_ := blk_frozen RG.out.hs 1
          refine sk1_1_ ?_
          intro w12 hp_
          clear hs_ hf_
          replace BKgr := rgo1_ RG BKgr hp_
          replace RG := rgs1_ RG hp_
          replace HB := Aside0.mk RG.out.hb
          clear hp_
          refine hK.out _ _ ?_
          clear hK K
          refine dM_ HT_ ?_
          have hib : i ≤ 1000 := by have := HIJ.out; have := HN.out; omega
          obtain ⟨o0, o1, o2⟩ := c3_ BKgr
          go_wp2_with (first | ((with_reducible refine gate_dst (N := 42) rfl ?_); refine goesVL_ (some 42) rfl rfl Tryz.func72 (by kernel_rfl) rfl #[.agg #[.int .i64 ra, .int .i64 rb, .int .i64 rc]] rfl rfl (by (try simp only [List.map_toArray, List.map_cons, List.map_nil]); first | done | rfl) ?_; (with_reducible refine (vessel_volumeOf.calls ra rb rc rb _ rfl).mono ?_); rintro e w9 ⟨rfl, hb⟩; refine ⟨_, rfl, ?_⟩; replace hb := nb_ HB hb; replace BKgr := kb_ BKgr hb; replace RG := Aside0.mk (Rg.below RG.out hb); replace HB := bs_ HB hb; clear hb))
          have hx := HXL.out
          have hs := HSL.out
          have hsd := HSD.out i HIJ.out
          have hyy := HY.out
          have ht1 := take_rd xs i (by omega)
          have ht2 := take_rd sm i (by omega)
          rw [hyy] at ht1 hsd
          rw [ht1, ht2] at RG
          have HH := Aside0.mk hsd
          clear hsd hyy ht1 ht2 hx hs o0 o1 o2
          go_roundg (gk - 1)
          case measure => have := HI.out; have := HIJ.out; omega
          case rel => exact ⟨i + 1, _, _, by rw [show ((i + 1 : Nat) : Int) = (i : Int) + 1 from by omega, HH.out], by go_num, ⟨by have := HI.out; have := HIJ.out; omega⟩, RG⟩
      · refine lS_ 33 (rd sm (i : Int)) 94 ?_
        intro gb hg w8 hbox hb
        have LIB := Aside0.mk (Rg.lit RG.out hg hbox)
        replace hb := nb_ HB hb
        replace BKgr := kb_ BKgr hb
        replace RG := Aside0.mk (Rg.below RG.out hb)
        replace HB := bs_ HB hb
        clear hb hbox hg
        refine hK.out _ _ ⟨RG.out.cell0, RG.out.cell1, c3_ BKgr⟩ (fun hHeld => ?_)
        clear hK K
        refine nM_ ?_
        refine oM_ HT_ 8 (some 25) 129535 (fun K hK => ?_)
        refine gV_ Tryz.func72 (vessel_volumeOf.calls ra rb rc rb _ rfl) ?_
        rintro e w5 ⟨rfl, hb⟩
        refine ⟨_, rfl, ?_⟩
        replace hb := nb_ HB hb
        replace BKgr := kb_ BKgr hb
        replace RG := Aside0.mk (Rg.below RG.out hb)
        replace LIB := Aside0.mk (Li.below LIB.out hb)
        replace HB := bs_ HB hb
        (try clear hb)
        refine hK.out _ _ ⟨RG.out.cell0, RG.out.cell1, c3_ BKgr⟩ (fun hHeld => ?_)
        clear hK K
        refine nM_ ?_
        refine oM_ HT_ 9 (some 26) 130047 (fun K hK => ?_)
        refine lS_ 26 rb 94 ?_
        intro ga hg w6 hbox hb
        have LIA := Aside0.mk (Rg.lit RG.out hg hbox)
        replace hb := nb_ HB hb
        replace BKgr := kb_ BKgr hb
        replace RG := Aside0.mk (Rg.below RG.out hb)
        replace LIB := Aside0.mk (Li.below LIB.out hb)
        replace HB := bs_ HB hb
        clear hb hbox hg
        refine hK.out _ _ ⟨RG.out.cell0, RG.out.cell1, c3_ BKgr⟩ (fun hHeld => ?_)
        clear hK K
        refine nM_ ?_
        refine oM_ HT_ 10 (some 27) 131071 (fun K hK => ?_)
        refine app_step (by rfl) (.tmp 22) (.tmp 26) 123 94 rfl Tryz.underlying123 info115 r1 (xs.take i) rb _ rfl rfl RG.out.o1 LIA.out.hl RG.out.hb HL1.out ?_
        intro u1 w7 ho hb hg hat
        obtain ⟨Au1, cu1, hu_⟩ := Kd.R_slice ho
        generalize hn_ : ((xs.take i) ++ [rb]).length = nu1 at hu_
        clear hn_
        subst hu_
        have n0_ := Aside0.mk (Rg.app1 (by decide) RG.out ho hb hg hat)
        have n1_ := Aside0.mk (Rg.other1 (by decide) RG.out BKgr.out hg)
        have n2_ := Aside0.mk hb
        have n3_ := Aside0.mk (Li.app1 LIB.out hg hat)
        clear RG BKgr HB LIA LIB
        have RG := n0_
        have BKgr := n1_
        have HB := n2_
        have LIB := n3_
        clear n0_ n1_ n2_ n3_ ho hb hg hat
        refine hK.out _ _ ⟨RG.out.cell0, RG.out.cell1, c3_ BKgr⟩ (fun hHeld => ?_)
        clear hK K
        refine nM_ ?_
        refine oM_ HT_ 17 (some 34) 262143 (fun K hK => ?_)
        refine app_step (by rfl) (.tmp 31) (.tmp 33) 123 94 rfl Tryz.underlying123 info115 r2 (sm.take i) (rd sm (i : Int)) _ rfl rfl RG.out.o2 LIB.out.hl RG.out.hb HL2.out ?_
        intro u2 w10 ho hb hg hat
        obtain ⟨Au2, cu2, hu_⟩ := Kd.R_slice ho
        generalize hn_ : ((sm.take i) ++ [(rd sm (i : Int))]).length = nu2 at hu_
        clear hn_
        subst hu_
        have n0_ := Aside0.mk (Rg.app2 (by decide) RG.out ho hb hg hat)
        have n1_ := Aside0.mk (Rg.other2 (by decide) RG.out BKgr.out hg)
        have n2_ := Aside0.mk hb
        clear RG BKgr HB LIB
        have RG := n0_
        have BKgr := n1_
        have HB := n2_
        clear n0_ n1_ n2_ ho hb hg hat
        refine hK.out _ _ ⟨RG.out.cell0, RG.out.cell1, c3_ BKgr⟩ (fun hHeld => ?_)
        clear hK K
        refine nM_ ?_
        refine pM_ HT_ 18 35 524287 ?_
        refine pM_ HT_ 19 36 1048575 ?_
        refine lM_ HT_ 20 none 2097151 (fun K hK => ?_)
        have hs_ := RG.out.cell0
        have hf_ := blk_frozen RG.out.hs 0
        refine sk1_0_ ?_
        intro w11 hp_
        clear hs_ hf_
        replace BKgr := rgo0_ RG BKgr hp_
        replace RG := rgs0_ RG hp_
        replace HB := Aside0.mk RG.out.hb
        clear hp_
        refine hK.out _ _ ?_
        clear hK K
        refine pM_ HT_ 21 37 4194303 ?_
        refine pM_ HT_ 22 38 8388607 ?_
        refine lM_ HT_ 23 none 16777215 (fun K hK => ?_)
        have hs_ := RG.out.cell1
        have hf_ := blk_frozen RG.out.hs 1
        refine sk1_1_ ?_
        intro w12 hp_
        clear hs_ hf_
        replace BKgr := rgo1_ RG BKgr hp_
        replace RG := rgs1_ RG hp_
        replace HB := Aside0.mk RG.out.hb
        clear hp_
        refine hK.out _ _ ?_
        clear hK K
        refine dM_ HT_ ?_
        have hib : i ≤ 1000 := by have := HIJ.out; have := HN.out; omega
        obtain ⟨o0, o1, o2⟩ := c3_ BKgr
        go_wp2_with (first | ((with_reducible refine gate_dst (N := 42) rfl ?_); refine goesVL_ (some 42) rfl rfl Tryz.func72 (by kernel_rfl) rfl #[.agg #[.int .i64 ra, .int .i64 rb, .int .i64 rc]] rfl rfl (by (try simp only [List.map_toArray, List.map_cons, List.map_nil]); first | done | rfl) ?_; (with_reducible refine (vessel_volumeOf.calls ra rb rc rb _ rfl).mono ?_); rintro e w9 ⟨rfl, hb⟩; refine ⟨_, rfl, ?_⟩; replace hb := nb_ HB hb; replace BKgr := kb_ BKgr hb; replace RG := Aside0.mk (Rg.below RG.out hb); replace HB := bs_ HB hb; clear hb))
        have hx := HXL.out
        have hs := HSL.out
        have hsd := HSD.out i HIJ.out
        have hyy := HY.out
        have ht1 := take_rd xs i (by omega)
        have ht2 := take_rd sm i (by omega)
        rw [hyy] at ht1 hsd
        rw [ht1, ht2] at RG
        have HH := Aside0.mk hsd
        clear hsd hyy ht1 ht2 hx hs o0 o1 o2
        go_roundg (gk - 1)
        case measure => have := HI.out; have := HIJ.out; omega
        case rel => exact ⟨i + 1, _, _, by rw [show ((i + 1 : Nat) : Int) = (i : Int) + 1 from by omega, HH.out], by go_num, ⟨by have := HI.out; have := HIJ.out; omega⟩, RG⟩
    · have hd : decide ((i : Int) < (l0.length : Int)) = false := decide_eq_false (by omega)
      have hd2 : decide (i < l0.length) = false := decide_eq_false hij
      have hx := HXL.out
      have hs := HSL.out
      have hbd := HN.out
      have hx2 : xs.take i = xs := List.take_of_length_le (by omega)
      have ht2 := take_rd sm i (by omega)
      have hx3 : sm.take (i + 1) = sm := List.take_of_length_le (by omega)
      have hl2 : (sm.take i).length ≤ 1000 := by rw [List.length_take]; omega
      rw [hx3] at ht2
      rw [hx2] at RG
      have HT2 := Aside0.mk ht2
      have HL2 := Aside0.mk hl2
      have HB := Aside0.mk RG.out.hb
      clear hx hs hbd hx2 ht2 hx3 hl2
      have hc1 := RG.out.cell1
      go_wp2_with (first | ((with_reducible refine gate_dst (N := 51) rfl ?_); refine lit_list ?hg (N := 51) ?hd (y := rd sm (i : Int)) (E := 94) ?hr ?_; (case hd => rfl); (case hg => rfl); (case hr => first | (go_simp; done) | (go_simp; rfl)); intro ga hg w5 hbox hb; have LI := Aside0.mk (Rg.lit RG.out hg hbox); have n0_ := Aside0.mk (Rg.below RG.out hb); clear RG; have RG := n0_; clear n0_ hb hbox hg) | ((with_reducible refine gate_dst (N := 52) rfl ?_); refine app_list ?hg (.tmp 49) (.tmp 51) 123 94 ?ho Tryz.underlying123 info115 r2 (sm.take i) (rd sm (i : Int)) ga ?hs ?hx RG.out.o2 LI.out.hl RG.out.hb HL2.out ?_; (case hg => rfl); (case ho => rfl); (case hs => rfl); (case hx => rfl); intro u2 w6 ho hb hg hat; obtain ⟨Au2, cu2, hu_⟩ := Kd.R_slice ho; generalize hn_ : (sm.take i ++ [rd sm (i : Int)]).length = nu2 at hu_; clear hn_; subst hu_; have n0_ := Aside0.mk (Rg.app2 (by decide) RG.out ho hb hg hat); clear RG; have RG := n0_; clear n0_ ho hb hg hat; have hs1 := RG.out.cell1; have hf1 := blk_frozen RG.out.hs 1))
      rw [HT2.out] at RG
      have n0_ := Aside0.mk (Rg.set1 (u := .slice Au2 nu2 cu2) (by decide) RG.out)
      go_ret
      exact ⟨gs, rfl, n0_.out.scx, n0_.out.hb⟩
end Go.Proofs.YtlhfclpbodfmcaaGreatDoor.Pr
