/- A part of the proof: Ra. -/
import Derived.Test.YtlhfclpbodfmcaaGreatDoorYBCj
import Derived.Test.YtlhfclpbodfmcaaGreatDoorYBKq
import Derived.Test.YtlhfclpbodfmcaaGreatDoorYBPr6
import Derived.Test.YtlhfclpbodfmcaaGreatDoorYBTp
namespace Go.Proofs.YtlhfclpbodfmcaaGreatDoor.Pr
open Go.RowKit Go.Proofs.YtlhfclpbodfmcaaGreatDoorW.PrintWords Go.Proofs.YtlhfclpbodfmcaaGreatDoorW.PrintLast Go.Proofs.YtlhfclpbodfmcaaGreatDoorW.PrintMore
open Go.Proofs.YtlhfclpbodfmcaaGreatDoor.Vm
set_option linter.unusedVariables false
set_option linter.unusedSimpArgs false
def inB (n lo hi : Int) : Bool := decide (lo ≤ n) && decide (n ≤ hi)
theorem inB_iff {n lo hi : Int} : inB n lo hi = true ↔ lo ≤ n ∧ n ≤ hi := by unfold inB; simp
set_option maxHeartbeats 1600000 in
set_option maxRecDepth 100000 in
theorem ref_within.calls (n lo hi : Int) (w : World) : Calls Tryz.prog 86 #[.int .i64 n, .int .i64 lo, .int .i64 hi] w fun e w' => e = .returned (.bool (inB n lo hi)) ∧ Below w.heap.size w w' := by
  have HB := Aside0.mk (Below.refl w.heap.size w)
  unfold inB
  cases hd : decide (lo ≤ n)
  all_goals go_enter Tryz.func86, Tryz.ntmps86
  all_goals go_wp2
  all_goals go_ret
  all_goals exact ⟨by simp, HB.out⟩
set_option maxHeartbeats 1600000 in
set_option maxRecDepth 100000 in
theorem ref_isRing.calls (r : S79) (w : World) : Calls Tryz.prog 65 #[.agg #[.int .i64 r.f0, .int .i64 r.f1, .int .i64 r.f2]] w fun e w' => e = .returned (.bool (ringB r)) ∧ Below w.heap.size w w' := by
  have hu79 := Tryz.underlying35
  have HB := Aside0.mk (Below.refl w.heap.size w)
  have key : ringB r = (inB r.f0 1 1000 && (inB r.f1 1 100000 && inB r.f2 1 20000)) := by
    rw [Bool.eq_iff_iff, ringB_iff, Bool.and_eq_true, Bool.and_eq_true, inB_iff, inB_iff, inB_iff]; constructor <;> (intro h; omega)
  rw [key]
  clear key
  obtain ⟨b0, h0⟩ : ∃ b, inB r.f0 1 1000 = b := ⟨_, rfl⟩
  obtain ⟨b1, h1⟩ : ∃ b, inB r.f1 1 100000 = b := ⟨_, rfl⟩
  obtain ⟨b2, h2⟩ : ∃ b, inB r.f2 1 20000 = b := ⟨_, rfl⟩
  have C0 : Aside0 (∀ W, Calls Tryz.prog 86 #[.int .i64 r.f0, .int .i64 1, .int .i64 1000] W fun e w' => e = .returned (.bool b0) ∧ Below W.heap.size W w') := ⟨fun W => h0 ▸ ref_within.calls r.f0 1 1000 W⟩
  have C1 : Aside0 (∀ W, Calls Tryz.prog 86 #[.int .i64 r.f1, .int .i64 1, .int .i64 100000] W fun e w' => e = .returned (.bool b1) ∧ Below W.heap.size W w') := ⟨fun W => h1 ▸ ref_within.calls r.f1 1 100000 W⟩
  have C2 : Aside0 (∀ W, Calls Tryz.prog 86 #[.int .i64 r.f2, .int .i64 1, .int .i64 20000] W fun e w' => e = .returned (.bool b2) ∧ Below W.heap.size W w') := ⟨fun W => h2 ▸ ref_within.calls r.f2 1 20000 W⟩
  rw [h0, h1, h2]
  clear h0 h1 h2
  go_enter Tryz.func65, Tryz.ntmps65
  go_wp2_with (first | ((with_reducible refine gate_dst (N := 1) rfl ?_); refine bx_ 1 #[.int .i64 (r.f0), .int .i64 (r.f1), .int .i64 (r.f2)] 35 ?_; intro gx hg w1 hbox hb; have GEgx := ge_ hg HB; replace hb := nb_ HB hb; replace HB := bs_ HB hb; have BKgx := Aside0.mk hbox; obtain ⟨Ogx_0, Ogx_1, Ogx_2⟩ := c3_ BKgx; clear hb hbox hg))
  go_wp2_with fail
  refine (C0.out _).mono ?_
  rintro e w2 ⟨rfl, hb⟩
  replace hb := nb_ HB hb
  replace BKgx := kb_ BKgx hb
  replace HB := bs_ HB hb
  clear Ogx_0 Ogx_1 Ogx_2
  obtain ⟨Ogx_0, Ogx_1, Ogx_2⟩ := c3_ BKgx
  clear hb
  cases b0
  · go_wp2
    go_ret
    exact ⟨rfl, HB.out⟩
  go_wp2_with fail
  refine (C1.out _).mono ?_
  rintro e w3 ⟨rfl, hb⟩
  replace hb := nb_ HB hb
  replace BKgx := kb_ BKgx hb
  replace HB := bs_ HB hb
  clear Ogx_0 Ogx_1 Ogx_2
  obtain ⟨Ogx_0, Ogx_1, Ogx_2⟩ := c3_ BKgx
  clear hb
  cases b1
  · go_wp2
    go_ret
    exact ⟨rfl, HB.out⟩
  go_wp2_with fail
  refine (C2.out _).mono ?_
  rintro e w4 ⟨rfl, hb⟩
  replace hb := nb_ HB hb
  replace BKgx := kb_ BKgx hb
  replace HB := bs_ HB hb
  clear Ogx_0 Ogx_1 Ogx_2
  obtain ⟨Ogx_0, Ogx_1, Ogx_2⟩ := c3_ BKgx
  clear hb
  go_wp2
  go_ret
  exact ⟨rfl, HB.out⟩
theorem wrp_ {n : Int} (h0 : -9223372036854775808 ≤ n) (h1 : n ≤ 9223372036854775807) : wrap64 n = n := wr h0 h1
end Go.Proofs.YtlhfclpbodfmcaaGreatDoor.Pr
namespace Go.Proofs.YtlhfclpbodfmcaaGreatDoor.Pr
open Go.RowKit Go.Proofs.YtlhfclpbodfmcaaGreatDoorW.PrintWords Go.Proofs.YtlhfclpbodfmcaaGreatDoorW.PrintLast Go.Proofs.YtlhfclpbodfmcaaGreatDoorW.PrintMore
open Go.Proofs.YtlhfclpbodfmcaaGreatDoor.Vm
set_option linter.unusedVariables false
set_option linter.unusedSimpArgs false
attribute [local go_sem] fld79_0 fld79_1 fld79_2
def ref_Check.T6 : Bool × List (List Nat × List Nat) := (true, [([], []), ([], []), ([0, 1], [0, 1]), ([2], [2]), ([3], [3]), ([4], [4]), ([5, 4], [5]), ([6], [6]), ([7, 6], [6, 7]), ([8, 6, 6], [6, 8]), ([9], [9]), ([9], [9]), ([10, 11, 9], [9, 10, 11]), ([12, 9], [9, 12]), ([13, 9], [9, 13]), ([9], [9]), ([9], [9]), ([16, 9], [9, 16]), ([15, 17, 9], [9, 15, 17]), ([18, 9], [9, 18]), ([19, 9], [9, 19]), ([14, 20, 9], [9, 14, 20]), ([9], [9]), ([9], [9]), ([23, 9], [9, 23]), ([22, 24, 9], [9, 22, 24]), ([25, 9], [9, 25]), ([26, 9], [9, 26]), ([9], [9]), ([9], [9]), ([28, 29, 9], [9, 28, 29]), ([30, 9], [9, 30]), ([31, 9], [9, 31]), ([27, 32, 9], [9, 27, 32]), ([21, 33, 9], [9, 21, 33]), ([9, 34, 6], [6, 9, 34]), ([6, 35], [6, 35])])
def ref_Check.B6 : List Nat := [0, 0, 3, 7, 15, 31, 63, 127, 255, 511, 1023, 1023, 4095, 8191, 16383, 1023, 1023, 66559, 230399, 492543, 1016831, 2097151, 1023, 1023, 8389631, 29361151, 62915583, 130024447, 1023, 1023, 805307391, 1879049215, 4026532863, 8585741311, 17179869183, 34359738367, 68719476735]
theorem ref_Check.tab6 : rtab .any (opsOf Tryz.f31 6) = ref_Check.T6 := by kernel_rfl
theorem ref_Check.bits6 : waitsOk ref_Check.T6.2 ref_Check.B6 = true := by kernel_rfl
set_option maxHeartbeats 1600000 in
set_option maxRecDepth 100000 in
theorem ref_Check.calls (A0 : Option Addr) (c0 : Nat) (l0 : List S79) (w : World) (hr0 : Kd.C k79 w A0 l0.length l0) : Calls Tryz.prog 31 #[.slice A0 l0.length c0] w fun e w' => e = .returned (.int .i64 (checkF l0)) ∧ Below w.heap.size w w' := by
  have hu79 := Tryz.underlying35
  have HR0 := Aside0.mk hr0
  have HB := Aside0.mk (Below.refl w.heap.size w)
  clear hr0
  by_cases hL : 1 ≤ l0.length ∧ l0.length ≤ 24
  · have HE : Aside0 (checkF l0 = if chainB l0 then 0 else 20) := ⟨by unfold checkF validB; rw [decide_eq_true hL, Bool.true_and]⟩
    have HL := Aside0.mk hL
    have q1 : decide ((l0.length : Int) < 1) = false := decide_eq_false (by omega)
    have q2 : decide (24 < (l0.length : Int)) = false := decide_eq_false (by omega)
    have q3 : decide (24 < l0.length) = false := decide_eq_false (by omega)
    have q5 : ¬ l0.length = 0 := by omega
    clear hL
    go_enter Tryz.func31, Tryz.ntmps31
    go_wp2
    go_loopg [3] l0.length (fun kq v3 w' => ∃ j : Nat, v3 = .int .i64 (j : Int) ∧ Aside0 (j ≤ l0.length ∧ l0.length - j ≤ kq ∧ (j = 0 ∨ ringB (rd_T79 l0 ((j - 1 : Nat) : Int)) = true) ∧ chainB l0 = chainB (l0.drop (j - 1))) ∧ Aside0 (Below w.heap.size w w'))
    case atStart => exact ⟨0, rfl, ⟨Nat.zero_le _, by omega, .inl rfl, rfl⟩, HB⟩
    case round =>
      clear HB q1 q2 q3 q5
      obtain ⟨j, rfl, HJ, HB⟩ := hrel
      by_cases hj : j < l0.length
      · have hd : decide ((j : Int) < (l0.length : Int)) = true := decide_eq_true (by omega)
        have hd2 : decide (j < l0.length) = true := decide_eq_true hj
        have HJL := Aside0.mk hj
        have hi0 : (0 : Int) ≤ (j : Int) := by omega
        have hi1 : (j : Int) < (l0.length : Int) := by omega
        obtain ⟨ad, q_, x0_, x1_, x2_⟩ := at_T79 HR0.out (j : Int) hi0 hi1
        subst q_
        simp only [Int.toNat_natCast] at x0_ x1_ x2_
        have X0 := Aside0.mk x0_
        have X1 := Aside0.mk x1_
        have X2 := Aside0.mk x2_
        clear x0_ x1_ x2_
        have EW : Aside0 (wrap64 ((j : Int) + 1) = ((j + 1 : Nat) : Int)) := ⟨by have := HL.out; rw [wrp_ (by omega) (by omega)]; rfl⟩
        clear hj
        cases hr : ringB (rd_T79 l0 (j : Int))
        · have C1 : Aside0 (∀ W, Calls Tryz.prog 65 #[.agg #[.int .i64 (rd_T79 l0 (j : Int)).f0, .int .i64 (rd_T79 l0 (j : Int)).f1, .int .i64 (rd_T79 l0 (j : Int)).f2]] W fun e w' => e = .returned (.bool false) ∧ Below W.heap.size W w') := ⟨fun W => hr ▸ ref_isRing.calls (rd_T79 l0 (j : Int)) W⟩
          have HX : Aside0 (chainB l0 = false) := ⟨by
            have h := HJ.out
            have hj := HJL.out
            rw [h.2.2.2]
            rcases Nat.eq_zero_or_pos j with h0 | h0
            · subst h0
              by_cases he : 1 = l0.length
              · rw [show 0 - 1 = 0 from rfl, chain_last l0 0 (by omega)]; exact hr
              · rw [show 0 - 1 = 0 from rfl, chain_step l0 0 (by omega), show ringB (rd_T79 l0 ((0 : Nat) : Int)) = false from hr]; rfl
            · rw [test_step l0 j hj h0 (h.2.2.1.resolve_left (by omega)), hr]; rfl⟩
          clear hr
          go_wp2
          replace HB := bd_ HB
          refine sM_ [] (fun w' => w'.cell? (ad.add (j * 3)) = some (.int .i64 (rd_T79 l0 (j : Int)).f0) ∧ w'.cell? ⟨(ad.add (j * 3)).block, (ad.add (j * 3)).off + 1, none⟩ = some (.int .i64 (rd_T79 l0 (j : Int)).f1) ∧ w'.cell? ⟨(ad.add (j * 3)).block, (ad.add (j * 3)).off + 2, none⟩ = some (.int .i64 (rd_T79 l0 (j : Int)).f2)) ref_Check.tab6 ref_Check.bits6 ⟨pw_cell_below HB.out X0.out, pw_cell_below HB.out X1.out, pw_cell_below HB.out X2.out⟩ (fun hHeld HT_ HW_ => ?_)
          generalize wr.drew = w3 at HB hHeld ⊢
          refine pM_ HT_ 0 18 1 ?_
          refine pM_ HT_ 1 19 3 ?_
          refine pM_ HT_ 2 20 7 ?_
          refine tM_ HT_ HW_ hHeld 3 21 15 ?_
          refine oM_ HT_ 4 (some 22) 31 (fun K hK => ?_)
          refine gM_ Tryz.func65 (C1.out _) ?_
          rintro e w4 ⟨rfl, hb⟩
          refine ⟨.bool _, rfl, ?_⟩
          replace hb := nb_ HB hb
          replace HB := bs_ HB hb
          (try clear hb)
          refine hK.out _ _ ⟨pw_cell_below HB.out X0.out, pw_cell_below HB.out X1.out, pw_cell_below HB.out X2.out⟩ (fun hHeld => ?_)
          clear hK K
          refine nM_ ?_
          refine pM_ HT_ 5 23 63 ?_
          refine pM_ HT_ 6 24 127 ?_
          refine pU_ HT_ 7 (some 25) 255 ?_
          refine pU_ HT_ 8 (some 26) 511 ?_
          refine pU_ HT_ 9 (some 27) 1023 ?_
          refine pU_ HT_ 10 (some 28) 2047 ?_
          refine pU_ HT_ 11 (some 29) 4095 ?_
          refine pU_ HT_ 12 (some 30) 8191 ?_
          refine pU_ HT_ 13 (some 31) 16383 ?_
          refine pU_ HT_ 14 (some 32) 32767 ?_
          refine pU_ HT_ 15 (some 33) 65535 ?_
          refine pU_ HT_ 16 (some 34) 131071 ?_
          refine pU_ HT_ 17 (some 35) 262143 ?_
          refine pU_ HT_ 18 (some 36) 524287 ?_
          refine pU_ HT_ 19 (some 37) 1048575 ?_
          refine pU_ HT_ 20 (some 38) 2097151 ?_
          refine pU_ HT_ 21 (some 39) 4194303 ?_
          refine pU_ HT_ 22 (some 40) 8388607 ?_
          refine pU_ HT_ 23 (some 41) 16777215 ?_
          refine pU_ HT_ 24 (some 42) 33554431 ?_
          refine pU_ HT_ 25 (some 43) 67108863 ?_
          refine pU_ HT_ 26 (some 44) 134217727 ?_
          refine pU_ HT_ 27 (some 45) 268435455 ?_
          refine pU_ HT_ 28 (some 46) 536870911 ?_
          refine pU_ HT_ 29 (some 47) 1073741823 ?_
          refine pU_ HT_ 30 (some 48) 2147483647 ?_
          refine pU_ HT_ 31 (some 49) 4294967295 ?_
          refine pU_ HT_ 32 (some 50) 8589934591 ?_
          refine pU_ HT_ 33 (some 51) 17179869183 ?_
          refine pU_ HT_ 34 (some 52) 34359738367 ?_
          refine pU_ HT_ 35 (some 53) 68719476735 ?_
          refine pM_ HT_ 36 54 137438953471 ?_
          refine dM_ HT_ ?_
          go_wp2
          go_ret
          exact ⟨by rw [HE.out, HX.out]; rfl, HB.out⟩
        · have HRJ := Aside0.mk hr
          have C1 : Aside0 (∀ W, Calls Tryz.prog 65 #[.agg #[.int .i64 (rd_T79 l0 (j : Int)).f0, .int .i64 (rd_T79 l0 (j : Int)).f1, .int .i64 (rd_T79 l0 (j : Int)).f2]] W fun e w' => e = .returned (.bool true) ∧ Below W.heap.size W w') := ⟨fun W => hr ▸ ref_isRing.calls (rd_T79 l0 (j : Int)) W⟩
          clear hr
          rcases Nat.eq_zero_or_pos j with h0 | h0
          · have h1 : decide (0 < (j : Int)) = false := decide_eq_false (by omega)
            have h2 : decide (0 < j) = false := decide_eq_false (by omega)
            have HX : Aside0 (chainB l0 = chainB (l0.drop (j + 1 - 1))) := ⟨by rw [HJ.out.2.2.2, h0]⟩
            clear h0
            go_wp2
            replace HB := bd_ HB
            refine sM_ [] (fun w' => w'.cell? (ad.add (j * 3)) = some (.int .i64 (rd_T79 l0 (j : Int)).f0) ∧ w'.cell? ⟨(ad.add (j * 3)).block, (ad.add (j * 3)).off + 1, none⟩ = some (.int .i64 (rd_T79 l0 (j : Int)).f1) ∧ w'.cell? ⟨(ad.add (j * 3)).block, (ad.add (j * 3)).off + 2, none⟩ = some (.int .i64 (rd_T79 l0 (j : Int)).f2)) ref_Check.tab6 ref_Check.bits6 ⟨pw_cell_below HB.out X0.out, pw_cell_below HB.out X1.out, pw_cell_below HB.out X2.out⟩ (fun hHeld HT_ HW_ => ?_)
            generalize wr.drew = w3 at HB hHeld ⊢
            refine pM_ HT_ 0 18 1 ?_
            refine pM_ HT_ 1 19 3 ?_
            refine pM_ HT_ 2 20 7 ?_
            refine tM_ HT_ HW_ hHeld 3 21 15 ?_
            refine oM_ HT_ 4 (some 22) 31 (fun K hK => ?_)
            refine gM_ Tryz.func65 (C1.out _) ?_
            rintro e w4 ⟨rfl, hb⟩
            refine ⟨.bool _, rfl, ?_⟩
            replace hb := nb_ HB hb
            replace HB := bs_ HB hb
            (try clear hb)
            refine hK.out _ _ ⟨pw_cell_below HB.out X0.out, pw_cell_below HB.out X1.out, pw_cell_below HB.out X2.out⟩ (fun hHeld => ?_)
            clear hK K
            refine nM_ ?_
            refine pM_ HT_ 5 23 63 ?_
            refine pM_ HT_ 6 24 127 ?_
            refine pM_ HT_ 7 25 255 ?_
            refine pM_ HT_ 8 26 511 ?_
            refine pM_ HT_ 9 27 1023 ?_
            refine pU_ HT_ 10 (some 28) 2047 ?_
            refine pU_ HT_ 11 (some 29) 4095 ?_
            refine pU_ HT_ 12 (some 30) 8191 ?_
            refine pU_ HT_ 13 (some 31) 16383 ?_
            refine pU_ HT_ 14 (some 32) 32767 ?_
            refine pU_ HT_ 15 (some 33) 65535 ?_
            refine pU_ HT_ 16 (some 34) 131071 ?_
            refine pU_ HT_ 17 (some 35) 262143 ?_
            refine pU_ HT_ 18 (some 36) 524287 ?_
            refine pU_ HT_ 19 (some 37) 1048575 ?_
            refine pU_ HT_ 20 (some 38) 2097151 ?_
            refine pU_ HT_ 21 (some 39) 4194303 ?_
            refine pU_ HT_ 22 (some 40) 8388607 ?_
            refine pU_ HT_ 23 (some 41) 16777215 ?_
            refine pU_ HT_ 24 (some 42) 33554431 ?_
            refine pU_ HT_ 25 (some 43) 67108863 ?_
            refine pU_ HT_ 26 (some 44) 134217727 ?_
            refine pU_ HT_ 27 (some 45) 268435455 ?_
            refine pU_ HT_ 28 (some 46) 536870911 ?_
            refine pU_ HT_ 29 (some 47) 1073741823 ?_
            refine pU_ HT_ 30 (some 48) 2147483647 ?_
            refine pU_ HT_ 31 (some 49) 4294967295 ?_
            refine pU_ HT_ 32 (some 50) 8589934591 ?_
            refine pU_ HT_ 33 (some 51) 17179869183 ?_
            refine pU_ HT_ 34 (some 52) 34359738367 ?_
            refine pM_ HT_ 35 53 68719476735 ?_
            refine pM_ HT_ 36 54 137438953471 ?_
            refine dM_ HT_ ?_
            go_wp2
            go_roundg (gk - 1)
            case measure => have := HJ.out; have := HJL.out; omega
            case rel => exact ⟨j + 1, by rw [EW.out], ⟨by have := HJL.out; omega, by have := HJ.out; omega, .inr HRJ.out, HX.out⟩, HB⟩
          · obtain ⟨q, hq⟩ : ∃ q : Nat, q + 1 = j := ⟨j - 1, by omega⟩
            have h1 : decide (0 < (j : Int)) = true := decide_eq_true (by omega)
            have h2 : decide (0 < j) = true := decide_eq_true h0
            have hqj : wrap64 ((j : Int) - 1) = (q : Int) := by have := HL.out; have := HJL.out; rw [wrp_ (by omega) (by omega)]; omega
            have hql : q < l0.length := by have := HJL.out; omega
            have HQ : Aside0 (q + 1 = j) := ⟨hq⟩
            have HQR : Aside0 (ringB (rd_T79 l0 (q : Int)) = true) := ⟨by have h := HJ.out.2.2.1.resolve_left (by omega); rwa [show j - 1 = q by omega] at h⟩
            have gi0 : (0 : Int) ≤ (q : Int) := by omega
            have gi1 : (q : Int) < (l0.length : Int) := by omega
            obtain ⟨ad2, q_, x0_, x1_, x2_⟩ := at_T79 HR0.out (q : Int) gi0 gi1
            obtain rfl : ad = ad2 := Option.some.inj q_
            simp only [Int.toNat_natCast] at x0_ x1_ x2_
            have Y1 := Aside0.mk x1_
            have Y2 := Aside0.mk x2_
            clear x0_ x1_ x2_ q_ hq h0
            have HM : Aside0 (wrap64 ((rd_T79 l0 (j : Int)).f1 * (rd_T79 l0 (q : Int)).f2) = (rd_T79 l0 (j : Int)).f1 * (rd_T79 l0 (q : Int)).f2 ∧ wrap64 ((rd_T79 l0 (q : Int)).f1 * (rd_T79 l0 (j : Int)).f2) = (rd_T79 l0 (q : Int)).f1 * (rd_T79 l0 (j : Int)).f2) := ⟨by
              have r1 := ringB_iff.1 HRJ.out
              have r2 := ringB_iff.1 HQR.out
              have m1 := mul_b r1.2.2.1 r1.2.2.2.1 r2.2.2.2.2.1 r2.2.2.2.2.2
              have m2 := mul_b r2.2.2.1 r2.2.2.2.1 r1.2.2.2.2.1 r1.2.2.2.2.2
              exact ⟨wrp_ (by omega) (by omega), wrp_ (by omega) (by omega)⟩⟩
            have HTS : Aside0 (chainB (l0.drop (j - 1)) = (decide ((rd_T79 l0 (q : Int)).f1 * (rd_T79 l0 (j : Int)).f2 ≤ (rd_T79 l0 (j : Int)).f1 * (rd_T79 l0 (q : Int)).f2) && chainB (l0.drop j))) := ⟨by
              have h := test_step l0 j HJL.out (by have := HQ.out; omega) (by rw [show j - 1 = q by have := HQ.out; omega]; exact HQR.out)
              rw [HRJ.out, Bool.true_and, show j - 1 = q by have := HQ.out; omega] at h
              rw [show j - 1 = q by have := HQ.out; omega]; exact h⟩
            by_cases hc : (rd_T79 l0 (j : Int)).f1 * (rd_T79 l0 (q : Int)).f2 < (rd_T79 l0 (q : Int)).f1 * (rd_T79 l0 (j : Int)).f2
            · have hcd : decide (wrap64 ((rd_T79 l0 (j : Int)).f1 * (rd_T79 l0 (q : Int)).f2) < wrap64 ((rd_T79 l0 (q : Int)).f1 * (rd_T79 l0 (j : Int)).f2)) = true := by rw [HM.out.1, HM.out.2]; exact decide_eq_true hc
              have HX : Aside0 (chainB l0 = false) := ⟨by rw [HJ.out.2.2.2, HTS.out, decide_eq_false (by omega)]; rfl⟩
              clear hc
              go_wp2
              replace HB := bd_ HB
              refine sM_ [] (fun w' => w'.cell? (ad.add (j * 3)) = some (.int .i64 (rd_T79 l0 (j : Int)).f0) ∧ w'.cell? ⟨(ad.add (j * 3)).block, (ad.add (j * 3)).off + 1, none⟩ = some (.int .i64 (rd_T79 l0 (j : Int)).f1) ∧ w'.cell? ⟨(ad.add (j * 3)).block, (ad.add (j * 3)).off + 2, none⟩ = some (.int .i64 (rd_T79 l0 (j : Int)).f2) ∧ w'.cell? ⟨(ad.add (q * 3)).block, (ad.add (q * 3)).off + 1, none⟩ = some (.int .i64 (rd_T79 l0 (q : Int)).f1) ∧ w'.cell? ⟨(ad.add (q * 3)).block, (ad.add (q * 3)).off + 2, none⟩ = some (.int .i64 (rd_T79 l0 (q : Int)).f2)) ref_Check.tab6 ref_Check.bits6 ⟨pw_cell_below HB.out X0.out, pw_cell_below HB.out X1.out, pw_cell_below HB.out X2.out, pw_cell_below HB.out Y1.out, pw_cell_below HB.out Y2.out⟩ (fun hHeld HT_ HW_ => ?_)
              generalize wr.drew = w3 at HB hHeld ⊢
              refine pM_ HT_ 0 18 1 ?_
              refine pM_ HT_ 1 19 3 ?_
              refine pM_ HT_ 2 20 7 ?_
              refine tM_ HT_ HW_ hHeld 3 21 15 ?_
              refine oM_ HT_ 4 (some 22) 31 (fun K hK => ?_)
              refine gM_ Tryz.func65 (C1.out _) ?_
              rintro e w4 ⟨rfl, hb⟩
              refine ⟨.bool _, rfl, ?_⟩
              replace hb := nb_ HB hb
              replace HB := bs_ HB hb
              (try clear hb)
              refine hK.out _ _ ⟨pw_cell_below HB.out X0.out, pw_cell_below HB.out X1.out, pw_cell_below HB.out X2.out, pw_cell_below HB.out Y1.out, pw_cell_below HB.out Y2.out⟩ (fun hHeld => ?_)
              clear hK K
              refine nM_ ?_
              refine pM_ HT_ 5 23 63 ?_
              refine pM_ HT_ 6 24 127 ?_
              refine pM_ HT_ 7 25 255 ?_
              refine pM_ HT_ 8 26 511 ?_
              refine pM_ HT_ 9 27 1023 ?_
              refine pM_ HT_ 10 28 2047 ?_
              refine pM_ HT_ 11 29 4095 ?_
              refine pM_ HT_ 12 30 8191 ?_
              refine pM_ HT_ 13 31 16383 ?_
              refine pM_ HT_ 15 33 49151 ?_
              refine pM_ HT_ 16 34 114687 ?_
              refine pM_ HT_ 17 35 245759 ?_
              refine pM_ HT_ 18 36 507903 ?_
              refine pM_ HT_ 19 37 1032191 ?_
              refine pM_ HT_ 22 40 5226495 ?_
              refine pM_ HT_ 23 41 13615103 ?_
              refine pM_ HT_ 24 42 30392319 ?_
              refine pM_ HT_ 25 43 63946751 ?_
              refine pM_ HT_ 26 44 131055615 ?_
              refine pM_ HT_ 28 46 399491071 ?_
              refine pM_ HT_ 29 47 936361983 ?_
              refine pM_ HT_ 30 48 2010103807 ?_
              refine pM_ HT_ 31 49 4157587455 ?_
              refine tM_ HT_ HW_ hHeld 14 32 4157603839 ?_
              refine tM_ HT_ HW_ hHeld 20 38 4158652415 ?_
              refine pM_ HT_ 21 39 4160749567 ?_
              refine tM_ HT_ HW_ hHeld 27 45 4294967295 ?_
              refine tM_ HT_ HW_ hHeld 32 50 8589934591 ?_
              refine pM_ HT_ 33 51 17179869183 ?_
              refine pM_ HT_ 34 52 34359738367 ?_
              refine pM_ HT_ 35 53 68719476735 ?_
              refine pM_ HT_ 36 54 137438953471 ?_
              refine dM_ HT_ ?_
              go_wp2
              go_ret
              exact ⟨by rw [HE.out, HX.out]; rfl, HB.out⟩
            · have hcd : decide (wrap64 ((rd_T79 l0 (j : Int)).f1 * (rd_T79 l0 (q : Int)).f2) < wrap64 ((rd_T79 l0 (q : Int)).f1 * (rd_T79 l0 (j : Int)).f2)) = false := by rw [HM.out.1, HM.out.2]; exact decide_eq_false hc
              have HX : Aside0 (chainB l0 = chainB (l0.drop (j + 1 - 1))) := ⟨by rw [HJ.out.2.2.2, HTS.out, decide_eq_true (by omega)]; rfl⟩
              clear hc
              go_wp2
              replace HB := bd_ HB
              refine sM_ [] (fun w' => w'.cell? (ad.add (j * 3)) = some (.int .i64 (rd_T79 l0 (j : Int)).f0) ∧ w'.cell? ⟨(ad.add (j * 3)).block, (ad.add (j * 3)).off + 1, none⟩ = some (.int .i64 (rd_T79 l0 (j : Int)).f1) ∧ w'.cell? ⟨(ad.add (j * 3)).block, (ad.add (j * 3)).off + 2, none⟩ = some (.int .i64 (rd_T79 l0 (j : Int)).f2) ∧ w'.cell? ⟨(ad.add (q * 3)).block, (ad.add (q * 3)).off + 1, none⟩ = some (.int .i64 (rd_T79 l0 (q : Int)).f1) ∧ w'.cell? ⟨(ad.add (q * 3)).block, (ad.add (q * 3)).off + 2, none⟩ = some (.int .i64 (rd_T79 l0 (q : Int)).f2)) ref_Check.tab6 ref_Check.bits6 ⟨pw_cell_below HB.out X0.out, pw_cell_below HB.out X1.out, pw_cell_below HB.out X2.out, pw_cell_below HB.out Y1.out, pw_cell_below HB.out Y2.out⟩ (fun hHeld HT_ HW_ => ?_)
              generalize wr.drew = w3 at HB hHeld ⊢
              refine pM_ HT_ 0 18 1 ?_
              refine pM_ HT_ 1 19 3 ?_
              refine pM_ HT_ 2 20 7 ?_
              refine tM_ HT_ HW_ hHeld 3 21 15 ?_
              refine oM_ HT_ 4 (some 22) 31 (fun K hK => ?_)
              refine gM_ Tryz.func65 (C1.out _) ?_
              rintro e w4 ⟨rfl, hb⟩
              refine ⟨.bool _, rfl, ?_⟩
              replace hb := nb_ HB hb
              replace HB := bs_ HB hb
              (try clear hb)
              refine hK.out _ _ ⟨pw_cell_below HB.out X0.out, pw_cell_below HB.out X1.out, pw_cell_below HB.out X2.out, pw_cell_below HB.out Y1.out, pw_cell_below HB.out Y2.out⟩ (fun hHeld => ?_)
              clear hK K
              refine nM_ ?_
              refine pM_ HT_ 5 23 63 ?_
              refine pM_ HT_ 6 24 127 ?_
              refine pM_ HT_ 7 25 255 ?_
              refine pM_ HT_ 8 26 511 ?_
              refine pM_ HT_ 9 27 1023 ?_
              refine pM_ HT_ 10 28 2047 ?_
              refine pM_ HT_ 11 29 4095 ?_
              refine pM_ HT_ 12 30 8191 ?_
              refine pM_ HT_ 13 31 16383 ?_
              refine pM_ HT_ 15 33 49151 ?_
              refine pM_ HT_ 16 34 114687 ?_
              refine pM_ HT_ 17 35 245759 ?_
              refine pM_ HT_ 18 36 507903 ?_
              refine pM_ HT_ 19 37 1032191 ?_
              refine pM_ HT_ 22 40 5226495 ?_
              refine pM_ HT_ 23 41 13615103 ?_
              refine pM_ HT_ 24 42 30392319 ?_
              refine pM_ HT_ 25 43 63946751 ?_
              refine pM_ HT_ 26 44 131055615 ?_
              refine pM_ HT_ 28 46 399491071 ?_
              refine pM_ HT_ 29 47 936361983 ?_
              refine pM_ HT_ 30 48 2010103807 ?_
              refine pM_ HT_ 31 49 4157587455 ?_
              refine tM_ HT_ HW_ hHeld 14 32 4157603839 ?_
              refine tM_ HT_ HW_ hHeld 20 38 4158652415 ?_
              refine pM_ HT_ 21 39 4160749567 ?_
              refine tM_ HT_ HW_ hHeld 27 45 4294967295 ?_
              refine tM_ HT_ HW_ hHeld 32 50 8589934591 ?_
              refine pM_ HT_ 33 51 17179869183 ?_
              refine pM_ HT_ 34 52 34359738367 ?_
              refine pM_ HT_ 35 53 68719476735 ?_
              refine pM_ HT_ 36 54 137438953471 ?_
              refine dM_ HT_ ?_
              go_wp2
              go_roundg (gk - 1)
              case measure => have := HJ.out; have := HJL.out; omega
              case rel => exact ⟨j + 1, by rw [EW.out], ⟨by have := HJL.out; omega, by have := HJ.out; omega, .inr HRJ.out, HX.out⟩, HB⟩
      · have hd : decide ((j : Int) < (l0.length : Int)) = false := decide_eq_false (by omega)
        have hd2 : decide (j < l0.length) = false := decide_eq_false hj
        have HX : Aside0 (chainB l0 = true) := ⟨by have h := HJ.out; have := HL.out; rw [h.2.2.2, chain_last l0 (j - 1) (by omega)]; exact h.2.2.1.resolve_left (by omega)⟩
        clear hj
        go_wp2
        go_ret
        exact ⟨by rw [HE.out, HX.out]; rfl, HB.out⟩
  · have HE : Aside0 (checkF l0 = 20) := ⟨by unfold checkF validB; rw [decide_eq_false hL]; rfl⟩
    have hc : l0.length = 0 ∨ 0 < l0.length ∧ 24 < l0.length := by omega
    clear hL
    rcases hc with hc | ⟨hc1, hc2⟩
    · rw [HE.out]
      clear HE
      rw [hc]
      clear hc HR0
      go_enter Tryz.func31, Tryz.ntmps31
      go_wp2
      go_ret
      exact ⟨rfl, HB.out⟩
    · have q1 : decide ((l0.length : Int) < 1) = false := decide_eq_false (by omega)
      have q2 : decide (24 < (l0.length : Int)) = true := decide_eq_true (by omega)
      have q3 : decide (24 < l0.length) = true := decide_eq_true hc2
      have q4 : decide (l0.length = 0) = false := decide_eq_false (by omega)
      have q5 : ¬ l0.length = 0 := by omega
      rw [HE.out]
      clear HE hc1
      go_enter Tryz.func31, Tryz.ntmps31
      go_wp2
      go_ret
      exact ⟨rfl, HB.out⟩
end Go.Proofs.YtlhfclpbodfmcaaGreatDoor.Pr
