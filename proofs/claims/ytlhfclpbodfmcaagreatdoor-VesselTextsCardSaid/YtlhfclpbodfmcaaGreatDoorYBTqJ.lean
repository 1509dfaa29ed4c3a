/- A part of the proof: TqJ. -/
import Derived.Test.YtlhfclpbodfmcaaGreatDoorYBTp
import Derived.Outline
namespace Go.Proofs.YtlhfclpbodfmcaaGreatDoor.Pr
open Go.RowKit Go.Proofs.YtlhfclpbodfmcaaGreatDoorW.PrintWords Go.Proofs.YtlhfclpbodfmcaaGreatDoorW.PrintLast Go.Proofs.YtlhfclpbodfmcaaGreatDoorW.PrintMore
open Go.Proofs.YtlhfclpbodfmcaaGreatDoor.Vm
set_option linter.unusedVariables false
set_option linter.unusedSimpArgs false
def vessel_Cut.f (l0 : List S79) (a1 : Int) : Option (List S79 × Int) := some (CutF l0 a1)
attribute [local go_sem] min2_int min_two
set_option maxHeartbeats 1600000 in
set_option maxRecDepth 100000 in
theorem vessel_Cut.calls (A0 : Option Addr) (c0 : Nat) (l0 : List S79) (a1 : Int) (r1 : List S79) (r2 : Int) (w : World) (hr0 : Kd.C k79 w A0 l0.length l0) (hc0 : l0.length ≤ c0) (h : vessel_Cut.f l0 a1 = some (r1, r2)) :
    Calls Tryz.prog 22 #[.slice A0 l0.length c0, .int .i64 a1] w fun e w' => ∃ v0_ : Value, e = .returned (.tuple #[v0_, .int .i64 r2]) ∧ Kd.R k79 35 w' w.heap.size (fun _ => True) v0_ r1 ∧ Below w.heap.size w w' := by
  have hu79 := Tryz.underlying35
  have HR0 := Aside0.mk hr0
  have HC0 := Aside0.mk hc0
  clear hr0 hc0
  replace h : CutF l0 a1 = (r1, r2) := Option.some.inj h
  have HB := Aside0.mk (Below.refl w.heap.size w)
  unfold CutF at h
  by_cases hv : validB l0 = true
  · rw [if_pos hv] at h
    have hG : GV (hsO l0) (vsO l0) (dsO l0) := valid_GV hv
    have HK : Aside0 (vessel_Check.f 30 l0 = some 0) := ⟨by rw [vCheck]; unfold checkF; rw [hv]; rfl⟩
    have HN : Aside0 (l0.length ≤ 900) := ⟨by have := hG.h.ln; rw [List.length_map] at this; omega⟩
    by_cases hz0 : a1 = 0
    · rw [if_neg (by omega)] at h
      obtain ⟨rfl, rfl⟩ : ([] : List S79) = r1 ∧ (1 : Int) = r2 := by simpa using h
      clear h
      have hz : (a1 == 0) = true := beq_iff_eq.2 hz0
      clear hG hv
      go_enter Tryz.func22, Tryz.ntmps22
      go_wp2_with (first | ((with_reducible refine gate_callee (f := 26) rfl ?_); refine gL_ (some 13) Tryz.func26 (vessel_Check.calls 30 A0 c0 l0 0 _ (Kd.C_below HR0.out HB.out) HC0.out HK.out) ?_; rintro e w2 ⟨rfl, hb⟩; refine ⟨.int .i64 0, rfl, ?_⟩; replace hb := nb_ HB hb; replace HB := bs_ HB hb; clear hb))
      go_ret2
      exact ⟨_, rfl, Kd.R_nil _ _ _ _ _, HB.out⟩
    · cases hl : lvB l0 a1 with
      | false =>
        rw [if_neg (by rw [hl]; simp)] at h
        obtain ⟨rfl, rfl⟩ : ([] : List S79) = r1 ∧ (1 : Int) = r2 := by simpa using h
        clear h
        have hz : (a1 == 0) = false := beq_eq_false_iff_ne.2 hz0
        have C1 : Aside0 (∀ W g1 g2 g3, VeAt W (hsO l0) (vsO l0) (dsO l0) g1 g2 g3 → Calls Tryz.prog 37 #[.agg #[.pointer (some ⟨g1, 0, none⟩), .pointer (some ⟨g2, 0, none⟩), .pointer (some ⟨g3, 0, none⟩)], .int .i64 a1] W fun e w' => e = .returned (.bool false) ∧ Below W.heap.size W w') := ⟨fun W g1 g2 g3 hV => by have hh := vessel_isLevel.calls _ _ _ g1 g2 g3 a1 W hV hG; rwa [show decide (0 ≤ a1 ∧ a1 ≤ sm (hsO l0)) = false from hl] at hh⟩
        clear hG hv hl
        go_enter Tryz.func22, Tryz.ntmps22
        go_wp2_with (first | ((with_reducible refine gate_callee (f := 26) rfl ?_); refine gL_ (some 13) Tryz.func26 (vessel_Check.calls 30 A0 c0 l0 0 _ (Kd.C_below HR0.out HB.out) HC0.out HK.out) ?_; rintro e w2 ⟨rfl, hb⟩; refine ⟨.int .i64 0, rfl, ?_⟩; replace hb := nb_ HB hb; replace HB := bs_ HB hb; clear hb))
        refine (vessel_open.calls A0 c0 l0 _ (Kd.C_below HR0.out HB.out) HN.out).mono ?_
        rintro e w3 ⟨g1, g2, g3, rfl, s_, hb⟩
        have VE := Aside0.mk s_.at_
        clear s_
        replace hb := nb_ HB hb
        replace HB := bs_ HB hb
        clear hb
        go_wp2_with fail
        refine (C1.out _ _ _ _ VE.out).mono ?_
        rintro e w4 ⟨rfl, hb⟩
        replace hb := nb_ HB hb
        replace HB := bs_ HB hb
        clear hb VE
        go_wp2
        go_ret2
        exact ⟨_, rfl, Kd.R_nil _ _ _ _ _, HB.out⟩
      | true =>
        rw [if_pos ⟨hz0, hl⟩] at h
        have hl2 := of_decide_eq_true hl
        have hS := hG.sums
        have hlen := hG.h.ln
        rw [List.length_map] at hlen
        have hring : ∀ r, r ∈ l0 → ringB r = true := chain_ring (by unfold validB at hv; rw [Bool.and_eq_true] at hv; exact hv.2)
        have h9 : ∀ x, cutGo l0 a1 = some x → r1 = x ∧ r2 = 0 := by intro x hx; rw [hx] at h; simp only [Prod.mk.injEq] at h; exact ⟨h.1.symm, h.2.symm⟩
        have h10 : cutGo l0 a1 = none → r1 = [] ∧ r2 = 11 := by intro hx; rw [hx] at h; simp only [Prod.mk.injEq] at h; exact ⟨h.1.symm, h.2.symm⟩
        have H9 := Aside0.mk h9
        have H10 := Aside0.mk h10
        have HRING := Aside0.mk hring
        have HLEN := Aside0.mk hlen
        have HA1 : Aside0 (1 ≤ a1 ∧ a1 ≤ 24000) := ⟨by omega⟩
        clear h h9 h10 hring hlen hl2 hS
        have hz : (a1 == 0) = false := beq_eq_false_iff_ne.2 hz0
        have C1 : Aside0 (∀ W g1 g2 g3, VeAt W (hsO l0) (vsO l0) (dsO l0) g1 g2 g3 → Calls Tryz.prog 37 #[.agg #[.pointer (some ⟨g1, 0, none⟩), .pointer (some ⟨g2, 0, none⟩), .pointer (some ⟨g3, 0, none⟩)], .int .i64 a1] W fun e w' => e = .returned (.bool true) ∧ Below W.heap.size W w') := ⟨fun W g1 g2 g3 hV => by have hh := vessel_isLevel.calls _ _ _ g1 g2 g3 a1 W hV hG; rwa [show decide (0 ≤ a1 ∧ a1 ≤ sm (hsO l0)) = true from hl] at hh⟩
        clear hG hv hl
        go_enter Tryz.func22, Tryz.ntmps22
        go_wp2_with (first | ((with_reducible refine gate_callee (f := 26) rfl ?_); refine gL_ (some 13) Tryz.func26 (vessel_Check.calls 30 A0 c0 l0 0 _ (Kd.C_below HR0.out HB.out) HC0.out HK.out) ?_; rintro e w2 ⟨rfl, hb⟩; refine ⟨.int .i64 0, rfl, ?_⟩; replace hb := nb_ HB hb; replace HB := bs_ HB hb; clear hb))
        refine (vessel_open.calls A0 c0 l0 _ (Kd.C_below HR0.out HB.out) HN.out).mono ?_
        rintro e w3 ⟨g1, g2, g3, rfl, s_, hb⟩
        have VE := Aside0.mk s_.at_
        clear s_
        replace hb := nb_ HB hb
        replace HB := bs_ HB hb
        clear hb
        go_wp2_with fail
        refine (C1.out _ _ _ _ VE.out).mono ?_
        rintro e w4 ⟨rfl, hb⟩
        replace hb := nb_ HB hb
        replace HB := bs_ HB hb
        clear hb VE
        have RO : Aside0 (Kd.R k79 35 w4 w.heap.size (fun _ => True) (.slice none 0 0) ([] : List S79)) := ⟨Kd.R_nil _ _ _ _ _⟩
        go_wp2
        go_loopg [1, 7, 28] l0.length (fun kq v1 v7 v28 w' => ∃ (n : Nat) (lv : Int) (done : List S79), v1 = .int .i64 lv ∧ v28 = .int .i64 (n : Int) ∧ Aside0 (n + kq = l0.length ∧ 1 ≤ lv ∧ lv ≤ 24000 ∧ done.length = n ∧ cutGo l0 a1 = (cutGo (l0.drop n) lv).map (done ++ ·)) ∧ Aside0 (Kd.R k79 35 w' w.heap.size (fun _ => True) v7 done) ∧ Aside0 (Below w.heap.size w w'))
        case atStart => exact ⟨0, a1, [], rfl, rfl, ⟨by omega, HA1.out.1, HA1.out.2, rfl, by simp⟩, RO, HB⟩
        case round =>
          clear RO HB
          obtain ⟨n, lv, done, rfl, rfl, HI, RO, HB⟩ := hrel
          obtain ⟨hi1, hi2, hi3, hi4, hi5⟩ := HI.out
          have HI5 := Aside0.mk hi5
          have HI4 := Aside0.mk hi4
          have HI1 := Aside0.mk hi1
          clear HI hi5 hi4
          by_cases hij : n < l0.length
          · have hd : decide ((n : Int) < (l0.length : Int)) = true := decide_eq_true (by omega)
            have hd2 : decide (n < l0.length) = true := decide_eq_true hij
            have p1 : (0 : Int) ≤ (n : Int) := by omega
            have q1 : (n : Int) < (l0.length : Int) := by omega
            obtain ⟨ad, e9, x0, x1, x2⟩ := at_T79 HR0.out (n : Int) p1 q1
            cases e9
            simp only [Int.toNat_natCast] at x0 x1 x2
            replace x0 := pw_cell_below HB.out x0
            replace x1 := pw_cell_below HB.out x1
            replace x2 := pw_cell_below HB.out x2
            have hdr : l0.drop n = rd_T79 l0 (n : Int) :: l0.drop (n + 1) := by rw [List.drop_eq_getElem_cons hij]; simp [rd_T79, List.getD_eq_getElem?_getD, List.getElem?_eq_getElem hij]
            have hrb : ringB (rd_T79 l0 (n : Int)) = true := HRING.out _ (List.mem_of_mem_drop (by rw [hdr]; simp))
            have hcg : cutGo (l0.drop n) lv = cutGo (rd_T79 l0 (n : Int) :: l0.drop (n + 1)) lv := by rw [hdr]
            clear hdr
            generalize rd_T79 l0 (n : Int) = rr at *
            obtain ⟨ra, rb, rc⟩ := rr
            simp only at x0 x1 x2
            have hbd := ringB_iff.1 hrb
            simp only at hbd
            have HRB := Aside0.mk hrb
            clear hrb
            obtain ⟨b1, b2, _, _, _, _⟩ := hbd
            have hn24 : n ≤ 24 := by have := HLEN.out; omega
            by_cases hless : ra < lv
            · have HCG : Aside0 (cutGo (l0.drop n) lv = if (partF ⟨ra, rb, rc⟩ (min lv ra)).2 then ((cutGo (l0.drop (n + 1)) (lv - ra)).map ((partF ⟨ra, rb, rc⟩ (min lv ra)).1 :: ·)) else none) := ⟨by rw [hcg]; simp only [cutGo]; congr 1; rw [if_neg (by omega)]⟩
              clear hcg
              have hmn : min lv ra = ra := by omega
              rw [hmn] at HCG
              have hpart := part_good ⟨ra, rb, rc⟩ ra
              have HPT : Aside0 (∀ W, Calls Tryz.prog 56 #[.agg #[.int .i64 ra, .int .i64 rb, .int .i64 rc], .int .i64 ra] W fun e w' => e = .returned (.tuple #[.agg #[.int .i64 (partF ⟨ra, rb, rc⟩ ra).1.f0, .int .i64 (partF ⟨ra, rb, rc⟩ ra).1.f1, .int .i64 (partF ⟨ra, rb, rc⟩ ra).1.f2], .bool (partF ⟨ra, rb, rc⟩ ra).2]) ∧ Below W.heap.size W w') := ⟨fun W => hpart W HRB.out (by omega) (by omega)⟩
              clear hpart hmn
              generalize hpx : (partF ⟨ra, rb, rc⟩ ra).1 = px at HCG HPT
              generalize hpy : (partF ⟨ra, rb, rc⟩ ra).2 = py at HCG HPT
              clear hpx hpy
              cases py with
              | false =>
                have hno : cutGo l0 a1 = none := by rw [HI5.out, HCG.out]; rfl
                obtain ⟨rfl, rfl⟩ := H10.out hno
                clear hno
                go_wp2_with (first | ((with_reducible refine gate_dst (N := 9) rfl ?_); refine bx_ 9 #[.int .i64 0, .int .i64 0, .int .i64 0] 35 ?_; intro gr hg w5 hbox hb; have NOgr := Aside0.mk (show ∀ k, u7.ownBlock = some k → k ≠ gr from fun k hk => by rw [hg]; exact Nat.ne_of_lt (Kd.R_lt RO.out k hk)); have GEgr := ge_ hg HB; replace hb := nb_ HB hb; replace RO := Aside0.mk (Kd.R_below RO.out hb); replace HB := bs_ HB hb; have BKgr := Aside0.mk hbox; obtain ⟨Ogr_0, Ogr_1, Ogr_2⟩ := c3_ BKgr; replace x0 := pw_cell_below hb x0; replace x1 := pw_cell_below hb x1; replace x2 := pw_cell_below hb x2; clear hb hbox hg) | ((with_reducible refine gate_store (t := 35) (p := 9) rfl ?_); have hc_ := cf3_ BKgr; refine st3_ ?_; intro w6 hp_; clear x0 x1 x2; clear hc_; clear Ogr_0 Ogr_1 Ogr_2; replace RO : Aside0 (Kd.R k79 35 w6 w.heap.size (fun _ => True) u7 done) := ⟨by rw [← hp_.e]; exact row_other3 NOgr.out RO.out⟩; replace BKgr := pp3_ BKgr hp_; replace HB := pb3_ GEgr HB hp_; clear hp_; obtain ⟨Ogr_0, Ogr_1, Ogr_2⟩ := c3_ BKgr) | ((with_reducible refine gate_callee (f := 56) rfl ?_); refine gL_ (some 38) Tryz.func56 (HPT.out _) ?_; rintro e w7 ⟨rfl, hb⟩; refine ⟨.tuple #[.agg #[.int .i64 px.f0, .int .i64 px.f1, .int .i64 px.f2], .bool false], rfl, ?_⟩; replace hb := nb_ HB hb; replace BKgr := kb_ BKgr hb; replace RO := Aside0.mk (Kd.R_below RO.out hb); replace HB := bs_ HB hb; clear Ogr_0 Ogr_1 Ogr_2; obtain ⟨Ogr_0, Ogr_1, Ogr_2⟩ := c3_ BKgr; clear hb) | ((with_reducible refine gate_dst (N := 10) rfl ?_); refine bx_ 10 #[.int .i64 0, .int .i64 0, .int .i64 0] 35 ?_; intro gp hg w8 hbox hb; have NOgp := Aside0.mk (show ∀ k, u7.ownBlock = some k → k ≠ gp from fun k hk => by rw [hg]; exact Nat.ne_of_lt (Kd.R_lt RO.out k hk)); have GEgp := ge_ hg HB; have NEgr_gp := ne_ hg BKgr; replace hb := nb_ HB hb; replace BKgr := kb_ BKgr hb; replace RO := Aside0.mk (Kd.R_below RO.out hb); replace HB := bs_ HB hb; clear Ogr_0 Ogr_1 Ogr_2; obtain ⟨Ogr_0, Ogr_1, Ogr_2⟩ := c3_ BKgr; have BKgp := Aside0.mk hbox; clear Ogr_0 Ogr_1 Ogr_2; obtain ⟨Ogr_0, Ogr_1, Ogr_2⟩ := c3_ BKgr; obtain ⟨Ogp_0, Ogp_1, Ogp_2⟩ := c3_ BKgp; clear hb hbox hg) | ((with_reducible refine gate_store (t := 35) (p := 10) rfl ?_); have hc_ := cf3_ BKgp; refine st3_ ?_; intro w9 hp_; clear hc_; clear Ogr_0 Ogr_1 Ogr_2 Ogp_0 Ogp_1 Ogp_2; replace RO : Aside0 (Kd.R k79 35 w9 w.heap.size (fun _ => True) u7 done) := ⟨by rw [← hp_.e]; exact row_other3 NOgp.out RO.out⟩; replace BKgr := pf3_ NEgr_gp BKgr hp_; replace BKgp := pp3_ BKgp hp_; replace HB := pb3_ GEgp HB hp_; clear hp_; obtain ⟨Ogr_0, Ogr_1, Ogr_2⟩ := c3_ BKgr; obtain ⟨Ogp_0, Ogp_1, Ogp_2⟩ := c3_ BKgp))
                go_ret2
                exact ⟨_, rfl, Kd.R_nil _ _ _ _ _, HB.out⟩
              | true =>
                have HDL : Aside0 (done.length ≤ 1000) := ⟨by have := HI4.out; have := HLEN.out; omega⟩
                have hlv : decide (lv - ra ≤ 0) = false := decide_eq_false (by omega)
                go_wp2_with (first | ((with_reducible refine gate_dst (N := 9) rfl ?_); refine bx_ 9 #[.int .i64 0, .int .i64 0, .int .i64 0] 35 ?_; intro gr hg w5 hbox hb; have NOgr := Aside0.mk (show ∀ k, u7.ownBlock = some k → k ≠ gr from fun k hk => by rw [hg]; exact Nat.ne_of_lt (Kd.R_lt RO.out k hk)); have GEgr := ge_ hg HB; replace hb := nb_ HB hb; replace RO := Aside0.mk (Kd.R_below RO.out hb); replace HB := bs_ HB hb; have BKgr := Aside0.mk hbox; obtain ⟨Ogr_0, Ogr_1, Ogr_2⟩ := c3_ BKgr; replace x0 := pw_cell_below hb x0; replace x1 := pw_cell_below hb x1; replace x2 := pw_cell_below hb x2; clear hb hbox hg) | ((with_reducible refine gate_store (t := 35) (p := 9) rfl ?_); have hc_ := cf3_ BKgr; refine st3_ ?_; intro w6 hp_; clear x0 x1 x2; clear hc_; clear Ogr_0 Ogr_1 Ogr_2; replace RO : Aside0 (Kd.R k79 35 w6 w.heap.size (fun _ => True) u7 done) := ⟨by rw [← hp_.e]; exact row_other3 NOgr.out RO.out⟩; replace BKgr := pp3_ BKgr hp_; replace HB := pb3_ GEgr HB hp_; clear hp_; obtain ⟨Ogr_0, Ogr_1, Ogr_2⟩ := c3_ BKgr) | ((with_reducible refine gate_callee (f := 56) rfl ?_); refine gL_ (some 38) Tryz.func56 (HPT.out _) ?_; rintro e w7 ⟨rfl, hb⟩; refine ⟨.tuple #[.agg #[.int .i64 px.f0, .int .i64 px.f1, .int .i64 px.f2], .bool true], rfl, ?_⟩; replace hb := nb_ HB hb; replace BKgr := kb_ BKgr hb; replace RO := Aside0.mk (Kd.R_below RO.out hb); replace HB := bs_ HB hb; clear Ogr_0 Ogr_1 Ogr_2; obtain ⟨Ogr_0, Ogr_1, Ogr_2⟩ := c3_ BKgr; clear hb) | ((with_reducible refine gate_dst (N := 10) rfl ?_); refine bx_ 10 #[.int .i64 0, .int .i64 0, .int .i64 0] 35 ?_; intro gp hg w8 hbox hb; have NOgp := Aside0.mk (show ∀ k, u7.ownBlock = some k → k ≠ gp from fun k hk => by rw [hg]; exact Nat.ne_of_lt (Kd.R_lt RO.out k hk)); have GEgp := ge_ hg HB; have NEgr_gp := ne_ hg BKgr; replace hb := nb_ HB hb; replace BKgr := kb_ BKgr hb; replace RO := Aside0.mk (Kd.R_below RO.out hb); replace HB := bs_ HB hb; clear Ogr_0 Ogr_1 Ogr_2; obtain ⟨Ogr_0, Ogr_1, Ogr_2⟩ := c3_ BKgr; have BKgp := Aside0.mk hbox; clear Ogr_0 Ogr_1 Ogr_2; obtain ⟨Ogr_0, Ogr_1, Ogr_2⟩ := c3_ BKgr; obtain ⟨Ogp_0, Ogp_1, Ogp_2⟩ := c3_ BKgp; clear hb hbox hg) | ((with_reducible refine gate_store (t := 35) (p := 10) rfl ?_); have hc_ := cf3_ BKgp; refine st3_ ?_; intro w9 hp_; clear hc_; clear Ogr_0 Ogr_1 Ogr_2 Ogp_0 Ogp_1 Ogp_2; replace RO : Aside0 (Kd.R k79 35 w9 w.heap.size (fun _ => True) u7 done) := ⟨by rw [← hp_.e]; exact row_other3 NOgp.out RO.out⟩; replace BKgr := pf3_ NEgr_gp BKgr hp_; replace BKgp := pp3_ BKgp hp_; replace HB := pb3_ GEgp HB hp_; clear hp_; obtain ⟨Ogr_0, Ogr_1, Ogr_2⟩ := c3_ BKgr; obtain ⟨Ogp_0, Ogp_1, Ogp_2⟩ := c3_ BKgp) | ((with_reducible refine gate_dst (N := 45) rfl ?_); refine litv_list ?hg (N := 45) ?hd (cs := #[.int .i64 px.f0, .int .i64 px.f1, .int .i64 px.f2]) (E := 35) ?hr ?_; (case hd => rfl); (case hg => rfl); (case hr => first | (go_simp; done) | (go_simp; rfl)); intro ga hg w10 hbox hb; replace hb := nb_ HB hb; replace BKgr := kb_ BKgr hb; replace BKgp := kb_ BKgp hb; replace RO := Aside0.mk (Kd.R_below RO.out hb); replace HB := bs_ HB hb; clear Ogr_0 Ogr_1 Ogr_2 Ogp_0 Ogp_1 Ogp_2; obtain ⟨Ogr_0, Ogr_1, Ogr_2⟩ := c3_ BKgr; obtain ⟨Ogp_0, Ogp_1, Ogp_2⟩ := c3_ BKgp; have BKga := Aside0.mk hbox; clear hb hbox hg) | ((with_reducible refine gate_dst (N := 46) rfl ?_); refine app79_list (w := w) ?hg (.tmp 43) (.tmp 45) 23 35 ?ho Tryz.underlying23 info79 u7 done px ga ?hs ?hx RO.out BKga.out HB.out HDL.out ?_; (case hg => rfl); (case ho => rfl); (case hs => rfl); (case hx => rfl); intro u9_ w11 ho hb hg hat; have n0_ := Aside0.mk (blk_grown BKgr.out hg (fun e_ => NOgr.out gr e_.symm rfl)); have n1_ := Aside0.mk hb; have n2_ := Aside0.mk ho; clear Ogr_0 Ogr_1 Ogr_2 Ogp_0 Ogp_1 Ogp_2; clear BKgr BKgp HB RO BKga; have BKgr := n0_; have HB := n1_; have RO := n2_; clear n0_ n1_ n2_ ho hb hg hat; have O1_ := (blk_cell BKgr.out 0).trans rfl))
                go_roundg (gk - 1)
                case measure => have := HI1.out; omega
                case rel => exact ⟨n + 1, lv - ra, done ++ [px], by first | rfl | (simp; done), by go_num, ⟨by have := HI1.out; omega, by omega, by omega, by simp [HI4.out], by rw [HI5.out, HCG.out]; cases cutGo (l0.drop (n + 1)) (lv - ra) <;> simp⟩, RO, HB⟩
            · have HCG : Aside0 (cutGo (l0.drop n) lv = if (partF ⟨ra, rb, rc⟩ (min lv ra)).2 then (some [(partF ⟨ra, rb, rc⟩ (min lv ra)).1]) else none) := ⟨by rw [hcg]; simp only [cutGo]; congr 1; rw [if_pos (by omega)]⟩
              clear hcg
              have hmn : min lv ra = lv := by omega
              rw [hmn] at HCG
              have hpart := part_good ⟨ra, rb, rc⟩ lv
              have HPT : Aside0 (∀ W, Calls Tryz.prog 56 #[.agg #[.int .i64 ra, .int .i64 rb, .int .i64 rc], .int .i64 lv] W fun e w' => e = .returned (.tuple #[.agg #[.int .i64 (partF ⟨ra, rb, rc⟩ lv).1.f0, .int .i64 (partF ⟨ra, rb, rc⟩ lv).1.f1, .int .i64 (partF ⟨ra, rb, rc⟩ lv).1.f2], .bool (partF ⟨ra, rb, rc⟩ lv).2]) ∧ Below W.heap.size W w') := ⟨fun W => hpart W HRB.out (by omega) (by omega)⟩
              clear hpart hmn
              generalize hpx : (partF ⟨ra, rb, rc⟩ lv).1 = px at HCG HPT
              generalize hpy : (partF ⟨ra, rb, rc⟩ lv).2 = py at HCG HPT
              clear hpx hpy
              cases py with
              | false =>
                have hno : cutGo l0 a1 = none := by rw [HI5.out, HCG.out]; rfl
                obtain ⟨rfl, rfl⟩ := H10.out hno
                clear hno
                go_wp2_with (first | ((with_reducible refine gate_dst (N := 9) rfl ?_); refine bx_ 9 #[.int .i64 0, .int .i64 0, .int .i64 0] 35 ?_; intro gr hg w5 hbox hb; have NOgr := Aside0.mk (show ∀ k, u7.ownBlock = some k → k ≠ gr from fun k hk => by rw [hg]; exact Nat.ne_of_lt (Kd.R_lt RO.out k hk)); have GEgr := ge_ hg HB; replace hb := nb_ HB hb; replace RO := Aside0.mk (Kd.R_below RO.out hb); replace HB := bs_ HB hb; have BKgr := Aside0.mk hbox; obtain ⟨Ogr_0, Ogr_1, Ogr_2⟩ := c3_ BKgr; replace x0 := pw_cell_below hb x0; replace x1 := pw_cell_below hb x1; replace x2 := pw_cell_below hb x2; clear hb hbox hg) | ((with_reducible refine gate_store (t := 35) (p := 9) rfl ?_); have hc_ := cf3_ BKgr; refine st3_ ?_; intro w6 hp_; clear x0 x1 x2; clear hc_; clear Ogr_0 Ogr_1 Ogr_2; replace RO : Aside0 (Kd.R k79 35 w6 w.heap.size (fun _ => True) u7 done) := ⟨by rw [← hp_.e]; exact row_other3 NOgr.out RO.out⟩; replace BKgr := pp3_ BKgr hp_; replace HB := pb3_ GEgr HB hp_; clear hp_; obtain ⟨Ogr_0, Ogr_1, Ogr_2⟩ := c3_ BKgr) | ((with_reducible refine gate_callee (f := 56) rfl ?_); refine gL_ (some 38) Tryz.func56 (HPT.out _) ?_; rintro e w7 ⟨rfl, hb⟩; refine ⟨.tuple #[.agg #[.int .i64 px.f0, .int .i64 px.f1, .int .i64 px.f2], .bool false], rfl, ?_⟩; replace hb := nb_ HB hb; replace BKgr := kb_ BKgr hb; replace RO := Aside0.mk (Kd.R_below RO.out hb); replace HB := bs_ HB hb; clear Ogr_0 Ogr_1 Ogr_2; obtain ⟨Ogr_0, Ogr_1, Ogr_2⟩ := c3_ BKgr; clear hb) | ((with_reducible refine gate_dst (N := 10) rfl ?_); refine bx_ 10 #[.int .i64 0, .int .i64 0, .int .i64 0] 35 ?_; intro gp hg w8 hbox hb; have NOgp := Aside0.mk (show ∀ k, u7.ownBlock = some k → k ≠ gp from fun k hk => by rw [hg]; exact Nat.ne_of_lt (Kd.R_lt RO.out k hk)); have GEgp := ge_ hg HB; have NEgr_gp := ne_ hg BKgr; replace hb := nb_ HB hb; replace BKgr := kb_ BKgr hb; replace RO := Aside0.mk (Kd.R_below RO.out hb); replace HB := bs_ HB hb; clear Ogr_0 Ogr_1 Ogr_2; obtain ⟨Ogr_0, Ogr_1, Ogr_2⟩ := c3_ BKgr; have BKgp := Aside0.mk hbox; clear Ogr_0 Ogr_1 Ogr_2; obtain ⟨Ogr_0, Ogr_1, Ogr_2⟩ := c3_ BKgr; obtain ⟨Ogp_0, Ogp_1, Ogp_2⟩ := c3_ BKgp; clear hb hbox hg) | ((with_reducible refine gate_store (t := 35) (p := 10) rfl ?_); have hc_ := cf3_ BKgp; refine st3_ ?_; intro w9 hp_; clear hc_; clear Ogr_0 Ogr_1 Ogr_2 Ogp_0 Ogp_1 Ogp_2; replace RO : Aside0 (Kd.R k79 35 w9 w.heap.size (fun _ => True) u7 done) := ⟨by rw [← hp_.e]; exact row_other3 NOgp.out RO.out⟩; replace BKgr := pf3_ NEgr_gp BKgr hp_; replace BKgp := pp3_ BKgp hp_; replace HB := pb3_ GEgp HB hp_; clear hp_; obtain ⟨Ogr_0, Ogr_1, Ogr_2⟩ := c3_ BKgr; obtain ⟨Ogp_0, Ogp_1, Ogp_2⟩ := c3_ BKgp))
                go_ret2
                exact ⟨_, rfl, Kd.R_nil _ _ _ _ _, HB.out⟩
              | true =>
                have HDL : Aside0 (done.length ≤ 1000) := ⟨by have := HI4.out; have := HLEN.out; omega⟩
                have hlv : decide (lv - ra ≤ 0) = true := decide_eq_true (by omega)
                have hyes : cutGo l0 a1 = some (done ++ [px]) := by rw [HI5.out, HCG.out]; rfl
                obtain ⟨rfl, rfl⟩ := H9.out _ hyes
                clear hyes
                go_wp2_with (first | ((with_reducible refine gate_dst (N := 9) rfl ?_); refine bx_ 9 #[.int .i64 0, .int .i64 0, .int .i64 0] 35 ?_; intro gr hg w5 hbox hb; have NOgr := Aside0.mk (show ∀ k, u7.ownBlock = some k → k ≠ gr from fun k hk => by rw [hg]; exact Nat.ne_of_lt (Kd.R_lt RO.out k hk)); have GEgr := ge_ hg HB; replace hb := nb_ HB hb; replace RO := Aside0.mk (Kd.R_below RO.out hb); replace HB := bs_ HB hb; have BKgr := Aside0.mk hbox; obtain ⟨Ogr_0, Ogr_1, Ogr_2⟩ := c3_ BKgr; replace x0 := pw_cell_below hb x0; replace x1 := pw_cell_below hb x1; replace x2 := pw_cell_below hb x2; clear hb hbox hg) | ((with_reducible refine gate_store (t := 35) (p := 9) rfl ?_); have hc_ := cf3_ BKgr; refine st3_ ?_; intro w6 hp_; clear x0 x1 x2; clear hc_; clear Ogr_0 Ogr_1 Ogr_2; replace RO : Aside0 (Kd.R k79 35 w6 w.heap.size (fun _ => True) u7 done) := ⟨by rw [← hp_.e]; exact row_other3 NOgr.out RO.out⟩; replace BKgr := pp3_ BKgr hp_; replace HB := pb3_ GEgr HB hp_; clear hp_; obtain ⟨Ogr_0, Ogr_1, Ogr_2⟩ := c3_ BKgr) | ((with_reducible refine gate_callee (f := 56) rfl ?_); refine gL_ (some 38) Tryz.func56 (HPT.out _) ?_; rintro e w7 ⟨rfl, hb⟩; refine ⟨.tuple #[.agg #[.int .i64 px.f0, .int .i64 px.f1, .int .i64 px.f2], .bool true], rfl, ?_⟩; replace hb := nb_ HB hb; replace BKgr := kb_ BKgr hb; replace RO := Aside0.mk (Kd.R_below RO.out hb); replace HB := bs_ HB hb; clear Ogr_0 Ogr_1 Ogr_2; obtain ⟨Ogr_0, Ogr_1, Ogr_2⟩ := c3_ BKgr; clear hb) | ((with_reducible refine gate_dst (N := 10) rfl ?_); refine bx_ 10 #[.int .i64 0, .int .i64 0, .int .i64 0] 35 ?_; intro gp hg w8 hbox hb; have NOgp := Aside0.mk (show ∀ k, u7.ownBlock = some k → k ≠ gp from fun k hk => by rw [hg]; exact Nat.ne_of_lt (Kd.R_lt RO.out k hk)); have GEgp := ge_ hg HB; have NEgr_gp := ne_ hg BKgr; replace hb := nb_ HB hb; replace BKgr := kb_ BKgr hb; replace RO := Aside0.mk (Kd.R_below RO.out hb); replace HB := bs_ HB hb; clear Ogr_0 Ogr_1 Ogr_2; obtain ⟨Ogr_0, Ogr_1, Ogr_2⟩ := c3_ BKgr; have BKgp := Aside0.mk hbox; clear Ogr_0 Ogr_1 Ogr_2; obtain ⟨Ogr_0, Ogr_1, Ogr_2⟩ := c3_ BKgr; obtain ⟨Ogp_0, Ogp_1, Ogp_2⟩ := c3_ BKgp; clear hb hbox hg) | ((with_reducible refine gate_store (t := 35) (p := 10) rfl ?_); have hc_ := cf3_ BKgp; refine st3_ ?_; intro w9 hp_; clear hc_; clear Ogr_0 Ogr_1 Ogr_2 Ogp_0 Ogp_1 Ogp_2; replace RO : Aside0 (Kd.R k79 35 w9 w.heap.size (fun _ => True) u7 done) := ⟨by rw [← hp_.e]; exact row_other3 NOgp.out RO.out⟩; replace BKgr := pf3_ NEgr_gp BKgr hp_; replace BKgp := pp3_ BKgp hp_; replace HB := pb3_ GEgp HB hp_; clear hp_; obtain ⟨Ogr_0, Ogr_1, Ogr_2⟩ := c3_ BKgr; obtain ⟨Ogp_0, Ogp_1, Ogp_2⟩ := c3_ BKgp) | ((with_reducible refine gate_dst (N := 45) rfl ?_); refine litv_list ?hg (N := 45) ?hd (cs := #[.int .i64 px.f0, .int .i64 px.f1, .int .i64 px.f2]) (E := 35) ?hr ?_; (case hd => rfl); (case hg => rfl); (case hr => first | (go_simp; done) | (go_simp; rfl)); intro ga hg w10 hbox hb; replace hb := nb_ HB hb; replace BKgr := kb_ BKgr hb; replace BKgp := kb_ BKgp hb; replace RO := Aside0.mk (Kd.R_below RO.out hb); replace HB := bs_ HB hb; clear Ogr_0 Ogr_1 Ogr_2 Ogp_0 Ogp_1 Ogp_2; obtain ⟨Ogr_0, Ogr_1, Ogr_2⟩ := c3_ BKgr; obtain ⟨Ogp_0, Ogp_1, Ogp_2⟩ := c3_ BKgp; have BKga := Aside0.mk hbox; clear hb hbox hg) | ((with_reducible refine gate_dst (N := 46) rfl ?_); refine app79_list (w := w) ?hg (.tmp 43) (.tmp 45) 23 35 ?ho Tryz.underlying23 info79 u7 done px ga ?hs ?hx RO.out BKga.out HB.out HDL.out ?_; (case hg => rfl); (case ho => rfl); (case hs => rfl); (case hx => rfl); intro u9_ w11 ho hb hg hat; have n0_ := Aside0.mk (blk_grown BKgr.out hg (fun e_ => NOgr.out gr e_.symm rfl)); have n1_ := Aside0.mk hb; have n2_ := Aside0.mk ho; clear Ogr_0 Ogr_1 Ogr_2 Ogp_0 Ogp_1 Ogp_2; clear BKgr BKgp HB RO BKga; have BKgr := n0_; have HB := n1_; have RO := n2_; clear n0_ n1_ n2_ ho hb hg hat; have O1_ := (blk_cell BKgr.out 0).trans rfl))
                go_ret2
                exact ⟨_, rfl, RO.out, HB.out⟩
          · have hd : decide ((n : Int) < (l0.length : Int)) = false := decide_eq_false (by omega)
            have hd2 : decide (n < l0.length) = false := decide_eq_false hij
            have hdr : l0.drop n = [] := List.drop_of_length_le (by omega)
            have hyes : cutGo l0 a1 = some done := by rw [HI5.out, hdr]; simp [cutGo]
            obtain ⟨rfl, rfl⟩ := H9.out _ hyes
            clear hyes hdr
            go_wp2
            go_ret2
            exact ⟨_, rfl, RO.out, HB.out⟩
  · rw [if_neg hv] at h
    obtain ⟨rfl, rfl⟩ : ([] : List S79) = r1 ∧ (20 : Int) = r2 := by simpa using h
    clear h
    have HK : Aside0 (vessel_Check.f 30 l0 = some 20) := ⟨by rw [vCheck]; unfold checkF; rw [if_neg hv]⟩
    clear hv
    go_enter Tryz.func22, Tryz.ntmps22
    go_wp2_with (first | ((with_reducible refine gate_callee (f := 26) rfl ?_); refine gL_ (some 13) Tryz.func26 (vessel_Check.calls 30 A0 c0 l0 20 _ (Kd.C_below HR0.out HB.out) HC0.out HK.out) ?_; rintro e w2 ⟨rfl, hb⟩; refine ⟨.int .i64 20, rfl, ?_⟩; replace hb := nb_ HB hb; replace HB := bs_ HB hb; clear hb))
    go_ret2
    exact ⟨_, rfl, Kd.R_nil _ _ _ _ _, HB.out⟩
end Go.Proofs.YtlhfclpbodfmcaaGreatDoor.Pr
