/- A part of the proof: Pp. -/
import Derived.Test.YtlhfclpbodfmcaaGreatDoorYBCj
namespace Go.Proofs.YtlhfclpbodfmcaaGreatDoor.Pr
open Go.RowKit Go.Proofs.YtlhfclpbodfmcaaGreatDoorW.PrintWords Go.Proofs.YtlhfclpbodfmcaaGreatDoorW.PrintLast Go.Proofs.YtlhfclpbodfmcaaGreatDoorW.PrintMore
open Go.Proofs.YtlhfclpbodfmcaaGreatDoor.Vm
set_option linter.unusedVariables false
set_option linter.unusedSimpArgs false
attribute [local go_sem] fld79_0 fld79_1 fld79_2
/-- The part of a ring that has a height; false: it is not whole. -/
def partF (r : S79) (m : Int) : S79 × Bool := (⟨m, r.f1 * m / r.f0, r.f2 * m / r.f0⟩, decide (r.f1 * m % r.f0 = 0 ∧ r.f2 * m % r.f0 = 0))
def ves_part.T1 : Bool × List (List Nat × List Nat) := (true, [([], []), ([0], [0]), ([], []), ([1, 2], [1, 2]), ([], []), ([4], [4]), ([], []), ([5, 6], [5, 6]), ([3, 0, 1, 2, 3], [3]), ([7, 8, 0, 1, 2, 3, 4, 5, 6, 7, 8], [7])])
def ves_part.B1 : List Nat := [0, 1, 0, 7, 0, 16, 0, 112, 15, 511]
theorem ves_part.tab1 : rtab .any (opsOf Tryz.f56 1) = ves_part.T1 := by kernel_rfl
theorem ves_part.bits1 : waitsOk ves_part.T1.2 ves_part.B1 = true := by kernel_rfl
def ves_part.T2 : Bool × List (List Nat × List Nat) := (true, [([], []), ([], []), ([], []), ([2], [2]), ([1, 3], [1, 3]), ([], []), ([], []), ([6], [6]), ([5, 7], [5, 7]), ([0, 4, 8], [0, 4, 8]), ([], []), ([], []), ([11], [11]), ([10, 12], [10, 12]), ([13], [13]), ([14], [14]), ([15], [15]), ([15], [15]), ([17, 15], [15, 17]), ([16, 18, 15], [15, 16, 18]), ([19, 15], [15, 19]), ([15, 20], [15, 20]), ([9, 15, 0, 1, 2, 3, 4, 5, 6, 7, 8, 9], [9]), ([21, 22, 0, 1, 2, 3, 4, 5, 6, 7, 8, 9, 10, 11, 12, 13, 14, 15, 16, 17, 18, 19, 20, 21, 22], [21])])
def ves_part.B2 : List Nat := [0, 0, 0, 4, 14, 0, 0, 64, 224, 511, 0, 0, 2048, 7168, 15360, 31744, 64512, 64512, 195584, 523264, 1047552, 2096128, 65535, 8388607]
theorem ves_part.tab2 : rtab .any (opsOf Tryz.f56 2) = ves_part.T2 := by kernel_rfl
theorem ves_part.bits2 : waitsOk ves_part.T2.2 ves_part.B2 = true := by kernel_rfl
set_option maxHeartbeats 1600000 in
set_option maxRecDepth 100000 in
theorem part_good (r : S79) (m : Int) (w : World) (hr : ringB r = true) (h0 : 1 ≤ m) (h1 : m ≤ 1000) :
    Calls Tryz.prog 56 #[.agg #[.int .i64 r.f0, .int .i64 r.f1, .int .i64 r.f2], .int .i64 m] w fun e w' => e = .returned (.tuple #[.agg #[.int .i64 (partF r m).1.f0, .int .i64 (partF r m).1.f1, .int .i64 (partF r m).1.f2], .bool (partF r m).2]) ∧ Below w.heap.size w w' := by
  have hu79 := Tryz.underlying35
  have HB := Aside0.mk (Below.refl w.heap.size w)
  have hh := ringB_iff.1 hr
  have m1 := mul_b hh.2.2.1 hh.2.2.2.1 h0 h1
  have m2 := mul_b hh.2.2.2.2.1 hh.2.2.2.2.2 h0 h1
  have q1 := Int.ediv_le_self r.f0 m1.1
  have q2 := Int.ediv_le_self r.f0 m2.1
  have q3 := Int.ediv_nonneg m1.1 (show 0 ≤ r.f0 by omega)
  have q4 := Int.ediv_nonneg m2.1 (show 0 ≤ r.f0 by omega)
  have w1 : wrap64 (r.f1 * m) = r.f1 * m := wr (by omega) (by omega)
  have w2 : wrap64 (r.f2 * m) = r.f2 * m := wr (by omega) (by omega)
  have t1 : (r.f1 * m).tdiv r.f0 = r.f1 * m / r.f0 := Int.tdiv_eq_ediv_of_nonneg m1.1
  have t2 : (r.f2 * m).tdiv r.f0 = r.f2 * m / r.f0 := Int.tdiv_eq_ediv_of_nonneg m2.1
  have t3 : (r.f1 * m).tmod r.f0 = r.f1 * m % r.f0 := Int.tmod_eq_emod_of_nonneg m1.1
  have t4 : (r.f2 * m).tmod r.f0 = r.f2 * m % r.f0 := Int.tmod_eq_emod_of_nonneg m2.1
  have w3 : wrap64 (r.f1 * m / r.f0) = r.f1 * m / r.f0 := wr (by omega) (by omega)
  have w4 : wrap64 (r.f2 * m / r.f0) = r.f2 * m / r.f0 := wr (by omega) (by omega)
  have n1 := Int.emod_nonneg (r.f1 * m) (show r.f0 ≠ 0 by omega)
  have n2 := Int.emod_nonneg (r.f2 * m) (show r.f0 ≠ 0 by omega)
  have l1 := Int.emod_lt_of_pos (r.f1 * m) (show 0 < r.f0 by omega)
  have l2 := Int.emod_lt_of_pos (r.f2 * m) (show 0 < r.f0 by omega)
  have w5 : wrap64 (r.f1 * m % r.f0) = r.f1 * m % r.f0 := wr (by omega) (by omega)
  have w6 : wrap64 (r.f2 * m % r.f0) = r.f2 * m % r.f0 := wr (by omega) (by omega)
  have z1 : (r.f0 == 0) = false := beq_eq_false_iff_ne.2 (by omega)
  have z2 : ¬ r.f0 = 0 := by omega
  obtain ⟨b1, hb1⟩ : ∃ b, (r.f1 * m % r.f0 == 0) = b := ⟨_, rfl⟩
  obtain ⟨b2, hb2⟩ : ∃ b, (r.f2 * m % r.f0 == 0) = b := ⟨_, rfl⟩
  have HP : Aside0 ((partF r m).1.f0 = m ∧ (partF r m).1.f1 = r.f1 * m / r.f0 ∧ (partF r m).1.f2 = r.f2 * m / r.f0 ∧ (partF r m).2 = (b1 && b2)) := ⟨rfl, rfl, rfl, by rw [← hb1, ← hb2, Bool.eq_iff_iff]; simp [partF]⟩
  clear hr h0 h1 hh m1 m2 q1 q2 q3 q4 n1 n2 l1 l2
  go_enter Tryz.func56, Tryz.ntmps56
  go_wp2_with (first | ((with_reducible refine gate_dst (N := 2) rfl ?_); refine bx_ 2 #[.int .i64 r.f0, .int .i64 r.f1, .int .i64 r.f2] 35 ?_; intro gx hg v1 hbox hb; have GEgx := ge_ hg HB; replace hb := nb_ HB hb; replace HB := bs_ HB hb; have BKgx := Aside0.mk hbox; clear hb hbox hg) | ((with_reducible refine gate_dst (N := 4) rfl ?_); refine bx_ 4 #[.int .i64 0, .int .i64 0, .int .i64 0] 35 ?_; intro gr hg v2 hbox hb; have GEgr := ge_ hg HB; have NEgx_gr := ne_ hg BKgx; replace hb := nb_ HB hb; replace BKgx := kb_ BKgx hb; replace HB := bs_ HB hb; have BKgr := Aside0.mk hbox; clear hb hbox hg))
  replace BKgx := kd_ BKgx
  replace BKgr := kd_ BKgr
  replace HB := bd_ HB
  refine sM_ [] (fun w' => (w'.cell? ⟨gx, 0, none⟩ = some (.int .i64 r.f0) ∧ w'.cell? ⟨gx, 1, none⟩ = some (.int .i64 r.f1) ∧ w'.cell? ⟨gx, 2, none⟩ = some (.int .i64 r.f2))) ves_part.tab1 ves_part.bits1 (c3_ BKgx) (fun hHeld HT_ HW_ => ?_)
  generalize v2.drew = v3 at BKgx BKgr HB hHeld ⊢
  refine pM_ HT_ 0 8 1 ?_
  refine pM_ HT_ 2 10 5 ?_
  refine pM_ HT_ 4 12 21 ?_
  refine pM_ HT_ 6 14 85 ?_
  refine tM_ HT_ HW_ hHeld 1 9 87 ?_
  refine pM_ HT_ 3 11 95 ?_
  refine pM_ HT_ 8 6 351 ?_
  refine tM_ HT_ HW_ hHeld 5 13 383 ?_
  refine pM_ HT_ 7 15 511 ?_
  refine pM_ HT_ 9 7 1023 ?_
  refine dM_ HT_ ?_
  go_wp2
  cases b1
  · replace BKgx := kd_ BKgx
    replace BKgr := kd_ BKgr
    replace HB := bd_ HB
    refine sM_ [] (fun w' => (w'.cell? ⟨gx, 0, none⟩ = some (.int .i64 r.f0) ∧ w'.cell? ⟨gx, 1, none⟩ = some (.int .i64 r.f1) ∧ w'.cell? ⟨gx, 2, none⟩ = some (.int .i64 r.f2))) ves_part.tab2 ves_part.bits2 (c3_ BKgx) (fun hHeld HT_ HW_ => ?_)
    generalize v3.drew = v4 at BKgx BKgr HB hHeld ⊢
    refine pM_ HT_ 0 16 1 ?_
    refine pM_ HT_ 1 17 3 ?_
    refine pM_ HT_ 2 18 7 ?_
    refine pM_ HT_ 5 21 39 ?_
    refine pM_ HT_ 6 22 103 ?_
    refine pM_ HT_ 10 26 1127 ?_
    refine pM_ HT_ 11 27 3175 ?_
    refine tM_ HT_ HW_ hHeld 3 19 3183 ?_
    refine pM_ HT_ 4 20 3199 ?_
    refine tM_ HT_ HW_ hHeld 7 23 3327 ?_
    refine pM_ HT_ 8 24 3583 ?_
    refine pM_ HT_ 9 25 4095 ?_
    refine tM_ HT_ HW_ hHeld 12 28 8191 ?_
    refine pM_ HT_ 13 29 16383 ?_
    refine pM_ HT_ 14 30 32767 ?_
    refine pM_ HT_ 15 31 65535 ?_
    refine pU_ HT_ 16 (some 32) 131071 ?_
    refine pU_ HT_ 17 (some 33) 262143 ?_
    refine pU_ HT_ 18 (some 34) 524287 ?_
    refine pU_ HT_ 19 (some 35) 1048575 ?_
    refine pU_ HT_ 20 (some 36) 2097151 ?_
    refine pM_ HT_ 21 37 4194303 ?_
    refine oM_ HT_ 22 none 8388607 (fun K hK => ?_)
    have hc_ := cf3_ BKgr
    refine sk3_ ?_
    intro v5 hp_
    clear hc_
    replace BKgx := pf3_ NEgx_gr BKgx hp_
    replace BKgr := pp3_ BKgr hp_
    replace HB := pb3_ GEgr HB hp_
    clear hp_
    refine hK.out _ _ (c3_ BKgx) (fun hHeld => ?_)
    clear hK K
    refine pM_ HT_ 23 5 16777215 ?_
    refine dM_ HT_ ?_
    try go_wp2
    refine bodyPost_ret (results_ct rfl _ _ gr 35 #[.int .i64 m, .int .i64 (r.f1 * m / r.f0), .int .i64 (r.f2 * m / r.f0)] (0, 0) _ rfl BKgr.out Tryz.underlying35 rfl (by kernel_rfl)) rfl ?_
    exact ⟨by rw [HP.out.1, HP.out.2.1, HP.out.2.2.1, HP.out.2.2.2]; rfl, HB.out⟩
  · replace BKgx := kd_ BKgx
    replace BKgr := kd_ BKgr
    replace HB := bd_ HB
    refine sM_ [] (fun w' => (w'.cell? ⟨gx, 0, none⟩ = some (.int .i64 r.f0) ∧ w'.cell? ⟨gx, 1, none⟩ = some (.int .i64 r.f1) ∧ w'.cell? ⟨gx, 2, none⟩ = some (.int .i64 r.f2))) ves_part.tab2 ves_part.bits2 (c3_ BKgx) (fun hHeld HT_ HW_ => ?_)
    generalize v3.drew = v4 at BKgx BKgr HB hHeld ⊢
    refine pM_ HT_ 0 16 1 ?_
    refine pM_ HT_ 1 17 3 ?_
    refine pM_ HT_ 2 18 7 ?_
    refine pM_ HT_ 5 21 39 ?_
    refine pM_ HT_ 6 22 103 ?_
    refine pM_ HT_ 10 26 1127 ?_
    refine pM_ HT_ 11 27 3175 ?_
    refine tM_ HT_ HW_ hHeld 3 19 3183 ?_
    refine pM_ HT_ 4 20 3199 ?_
    refine tM_ HT_ HW_ hHeld 7 23 3327 ?_
    refine pM_ HT_ 8 24 3583 ?_
    refine pM_ HT_ 9 25 4095 ?_
    refine tM_ HT_ HW_ hHeld 12 28 8191 ?_
    refine pM_ HT_ 13 29 16383 ?_
    refine pM_ HT_ 14 30 32767 ?_
    refine pM_ HT_ 15 31 65535 ?_
    refine pM_ HT_ 16 32 131071 ?_
    refine pM_ HT_ 17 33 262143 ?_
    refine tM_ HT_ HW_ hHeld 18 34 524287 ?_
    refine pM_ HT_ 19 35 1048575 ?_
    refine pM_ HT_ 20 36 2097151 ?_
    refine pM_ HT_ 21 37 4194303 ?_
    refine oM_ HT_ 22 none 8388607 (fun K hK => ?_)
    have hc_ := cf3_ BKgr
    refine sk3_ ?_
    intro v5 hp_
    clear hc_
    replace BKgx := pf3_ NEgx_gr BKgx hp_
    replace BKgr := pp3_ BKgr hp_
    replace HB := pb3_ GEgr HB hp_
    clear hp_
    refine hK.out _ _ (c3_ BKgx) (fun hHeld => ?_)
    clear hK K
    refine pM_ HT_ 23 5 16777215 ?_
    refine dM_ HT_ ?_
    try go_wp2
    refine bodyPost_ret (results_ct rfl _ _ gr 35 #[.int .i64 m, .int .i64 (r.f1 * m / r.f0), .int .i64 (r.f2 * m / r.f0)] (0, 0) _ rfl BKgr.out Tryz.underlying35 rfl (by kernel_rfl)) rfl ?_
    exact ⟨by rw [HP.out.1, HP.out.2.1, HP.out.2.2.1, HP.out.2.2.2]; rfl, HB.out⟩
end Go.Proofs.YtlhfclpbodfmcaaGreatDoor.Pr
