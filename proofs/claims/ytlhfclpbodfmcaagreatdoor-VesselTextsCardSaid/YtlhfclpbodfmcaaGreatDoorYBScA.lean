/- A part of the proof: ScA. -/
import Derived.Test.YtlhfclpbodfmcaaGreatDoorYBKq
import Derived.Test.YtlhfclpbodfmcaaGreatDoorYBPr6
import Derived.Test.YtlhfclpbodfmcaaGreatDoorYBVm
import Derived.Outline
namespace Go.Proofs.YtlhfclpbodfmcaaGreatDoor.Pr
open Go.RowKit Go.Proofs.YtlhfclpbodfmcaaGreatDoorW.PrintWords Go.Proofs.YtlhfclpbodfmcaaGreatDoorW.PrintLast Go.Proofs.YtlhfclpbodfmcaaGreatDoorW.PrintMore
open Go.Proofs.YtlhfclpbodfmcaaGreatDoor.Vm
set_option linter.unusedVariables false
set_option linter.unusedSimpArgs false
def height_at.T1 : Bool × List (List Nat × List Nat) := (true, [([], []), ([0], [0]), ([1], [1]), ([2], [2]), ([], []), ([4], [4]), ([3, 5], [3, 5]), ([6], [6]), ([], []), ([8], [8]), ([], []), ([10], [10]), ([11], [11]), ([12], [12]), ([], []), ([14], [14]), ([13, 15], [13, 15]), ([16], [16]), ([9, 17], [9, 17]), ([], []), ([19], [19]), ([7, 18, 20], [7, 18, 20]), ([21, 21, 0, 1, 2, 3, 4, 5, 6, 7, 8, 9, 10, 11, 12, 13, 14, 15, 16, 17, 18, 19, 20, 21], [21])])
def height_at.B1 : List Nat := [0, 1, 3, 7, 0, 16, 63, 127, 0, 256, 0, 1024, 3072, 7168, 0, 16384, 64512, 130048, 261888, 0, 524288, 2097151, 4194303]
theorem height_at.tab1 : rtab .any (opsOf Tryz.f42 1) = height_at.T1 := by kernel_rfl
theorem height_at.bits1 : waitsOk height_at.T1.2 height_at.B1 = true := by kernel_rfl
set_option maxHeartbeats 1600000 in
set_option maxRecDepth 100000 in
theorem height_at.calls (k : Nat) (g : Nat) (xs bs : List Int) (p0 p1 p2 r1 r2 r3 : Int) (w : World) (hs : Sc w g xs bs) (h0 : 0 ≤ p0) (h1 : p0 < xs.length) (h2 : p0 < bs.length) (h : vessel_of.f k (rd bs p0) (wrap64 (p1 * rd xs p0)) p2 = some (r1, r2, r3)) :
    Calls Tryz.prog 42 #[.pointer (some ⟨g, 0, none⟩), .agg #[.int .i64 p0, .int .i64 p1, .int .i64 p2]] w fun e w' => e = .returned (.agg #[.int .i64 r1, .int .i64 r2, .int .i64 r3]) ∧ Below w.heap.size w w' := by
  have hu90 := Tryz.underlying77
  have hu105 := Tryz.underlying86
  have HB := Aside0.mk (Below.refl w.heap.size w)
  obtain ⟨a1, a2, c1, c2, e1, e2, d1, d2, l1, l2⟩ := hs
  obtain ⟨ad1, q1, x1⟩ := Kd.at_int d1 p0 h0 h1
  obtain ⟨ad2, q2, x2⟩ := Kd.at_int d2 p0 h0 h2
  subst q1 q2
  clear d1 d2
  have H := Aside0.mk h
  have E1 := Aside0.mk e1
  have E2 := Aside0.mk e2
  have X1 := Aside0.mk x1
  have X2 := Aside0.mk x2
  clear h e1 e2 x1 x2
  replace h0 := eq_true h0
  replace h1 := eq_true h1
  replace h2 := eq_true h2
  go_enter Tryz.func42, Tryz.ntmps42
  go_wp2_with (first | ((with_reducible refine gate_dst (N := 3) rfl ?_); refine bx_ 3 #[.int .i64 p0, .int .i64 p1, .int .i64 p2] 86 ?_; intro ga hg w1 hbox hb; have GEga := ge_ hg HB; replace hb := nb_ HB hb; replace HB := bs_ HB hb; have BKga := Aside0.mk hbox; clear hb hbox hg) | ((with_reducible refine gate_dst (N := 4) rfl ?_); refine bx_ 4 #[.int .i64 0, .int .i64 0, .int .i64 0] 77 ?_; intro gb hg w2 hbox hb; have GEgb := ge_ hg HB; have NEga_gb := ne_ hg BKga; replace hb := nb_ HB hb; replace BKga := kb_ BKga hb; replace HB := bs_ HB hb; have BKgb := Aside0.mk hbox; clear hb hbox hg))
  replace BKga := kd_ BKga
  replace BKgb := kd_ BKgb
  replace HB := bd_ HB
  refine sM_ [22] (fun w' => w'.cell? ⟨g, 0, none⟩ = some (.slice (some ad1) xs.length c1) ∧ w'.cell? ⟨g, 1, none⟩ = some (.slice (some ad2) bs.length c2) ∧ w'.cell? (ad1.add p0.toNat) = some (.int .i64 (rd xs p0)) ∧ w'.cell? (ad2.add p0.toNat) = some (.int .i64 (rd bs p0)) ∧ (w'.cell? ⟨ga, 0, none⟩ = some (.int .i64 p0) ∧ w'.cell? ⟨ga, 1, none⟩ = some (.int .i64 p1) ∧ w'.cell? ⟨ga, 2, none⟩ = some (.int .i64 p2))) height_at.tab1 height_at.bits1 ⟨pw_cell_below HB.out E1.out, pw_cell_below HB.out E2.out, pw_cell_below HB.out X1.out, pw_cell_below HB.out X2.out, c3_ BKga⟩ (fun hHeld HT_ HW_ => ?_)
  generalize w2.drew = w3 at BKga BKgb HB hHeld ⊢
  refine pM_ HT_ 0 5 1 ?_
  refine pM_ HT_ 1 6 3 ?_
  refine pM_ HT_ 2 7 7 ?_
  refine pM_ HT_ 4 9 23 ?_
  refine pM_ HT_ 8 13 279 ?_
  refine pM_ HT_ 10 15 1303 ?_
  refine pM_ HT_ 11 16 3351 ?_
  refine pM_ HT_ 12 17 7447 ?_
  refine pM_ HT_ 14 19 23831 ?_
  refine pM_ HT_ 19 24 548119 ?_
  refine tM_ HT_ HW_ hHeld 3 8 548127 ?_
  refine tM_ HT_ HW_ hHeld 5 10 548159 ?_
  refine pM_ HT_ 6 11 548223 ?_
  refine tM_ HT_ HW_ hHeld 7 12 548351 ?_
  refine tM_ HT_ HW_ hHeld 9 14 548863 ?_
  refine tM_ HT_ HW_ hHeld 13 18 557055 ?_
  refine tM_ HT_ HW_ hHeld 15 20 589823 ?_
  refine pM_ HT_ 16 21 655359 ?_
  refine tM_ HT_ HW_ hHeld 17 22 786431 ?_
  refine pM_ HT_ 18 23 1048575 ?_
  refine tM_ HT_ HW_ hHeld 20 25 2097151 ?_
  refine oM_ HT_ 21 (some 26) 4194303 (fun K hK => ?_)
  refine gM_ Tryz.func55 (vessel_of.calls k _ _ _ r1 r2 r3 _ H.out) ?_
  rintro e w4 ⟨rfl, hb⟩
  refine ⟨_, rfl, ?_⟩
  replace hb := nb_ HB hb
  replace BKga := kb_ BKga hb
  replace BKgb := kb_ BKgb hb
  replace HB := bs_ HB hb
  (try clear hb)
  refine hK.out _ _ ⟨pw_cell_below HB.out E1.out, pw_cell_below HB.out E2.out, pw_cell_below HB.out X1.out, pw_cell_below HB.out X2.out, c3_ BKga⟩ (fun hHeld => ?_)
  clear hK K
  refine nM_ ?_
  refine lM_ HT_ 22 none 8388607 (fun K hK => ?_)
  have hc_ := cf3_ BKgb
  refine sk3_ ?_
  intro ws_ hp_
  clear hc_
  refine hK.out _ _ ?_
  clear hK K
  refine dM_ HT_ ?_
  try go_wp2
  refine bodyPost_ret (results_cell_row rfl _ _ gb 77 #[.int .i64 r1, .int .i64 r2, .int .i64 r3] (0, 0) _ rfl (pp3_ BKgb hp_).out Tryz.underlying77 rfl (by kernel_rfl)) rfl ?_
  exact ⟨by first | rfl | (simp <;> rfl), (pb3_ GEgb HB hp_).out⟩
def minute_at.T1 : Bool × List (List Nat × List Nat) := (true, [([], []), ([0], [0]), ([1], [1]), ([2], [2]), ([], []), ([4], [4]), ([3, 5], [3, 5]), ([6], [6]), ([], []), ([8], [8]), ([], []), ([10], [10]), ([11], [11]), ([12], [12]), ([], []), ([14], [14]), ([13, 15], [13, 15]), ([16], [16]), ([9, 17], [9, 17]), ([], []), ([19], [19]), ([7, 18, 20], [7, 18, 20]), ([21, 21, 0, 1, 2, 3, 4, 5, 6, 7, 8, 9, 10, 11, 12, 13, 14, 15, 16, 17, 18, 19, 20, 21], [21])])
def minute_at.B1 : List Nat := [0, 1, 3, 7, 0, 16, 63, 127, 0, 256, 0, 1024, 3072, 7168, 0, 16384, 64512, 130048, 261888, 0, 524288, 2097151, 4194303]
theorem minute_at.tab1 : rtab .any (opsOf Tryz.f75 1) = minute_at.T1 := by kernel_rfl
theorem minute_at.bits1 : waitsOk minute_at.T1.2 minute_at.B1 = true := by kernel_rfl
set_option maxHeartbeats 1600000 in
set_option maxRecDepth 100000 in
theorem minute_at.calls (k : Nat) (g : Nat) (xs bs : List Int) (p0 p1 p2 r1 r2 r3 : Int) (w : World) (hs : Sc w g xs bs) (h0 : 0 ≤ p0) (h1 : p0 < xs.length) (h2 : p0 < bs.length) (h : vessel_of.f k (rd bs p0) (wrap64 (p1 * rd xs p0)) p2 = some (r1, r2, r3)) :
    Calls Tryz.prog 75 #[.pointer (some ⟨g, 0, none⟩), .agg #[.int .i64 p0, .int .i64 p1, .int .i64 p2]] w fun e w' => e = .returned (.agg #[.int .i64 r1, .int .i64 r2, .int .i64 r3]) ∧ Below w.heap.size w w' := by
  have hu90 := Tryz.underlying77
  have hu105 := Tryz.underlying86
  have HB := Aside0.mk (Below.refl w.heap.size w)
  obtain ⟨a1, a2, c1, c2, e1, e2, d1, d2, l1, l2⟩ := hs
  obtain ⟨ad1, q1, x1⟩ := Kd.at_int d1 p0 h0 h1
  obtain ⟨ad2, q2, x2⟩ := Kd.at_int d2 p0 h0 h2
  subst q1 q2
  clear d1 d2
  have H := Aside0.mk h
  have E1 := Aside0.mk e1
  have E2 := Aside0.mk e2
  have X1 := Aside0.mk x1
  have X2 := Aside0.mk x2
  clear h e1 e2 x1 x2
  replace h0 := eq_true h0
  replace h1 := eq_true h1
  replace h2 := eq_true h2
  go_enter Tryz.func75, Tryz.ntmps75
  go_wp2_with (first | ((with_reducible refine gate_dst (N := 3) rfl ?_); refine bx_ 3 #[.int .i64 p0, .int .i64 p1, .int .i64 p2] 86 ?_; intro ga hg w1 hbox hb; have GEga := ge_ hg HB; replace hb := nb_ HB hb; replace HB := bs_ HB hb; have BKga := Aside0.mk hbox; clear hb hbox hg) | ((with_reducible refine gate_dst (N := 4) rfl ?_); refine bx_ 4 #[.int .i64 0, .int .i64 0, .int .i64 0] 77 ?_; intro gb hg w2 hbox hb; have GEgb := ge_ hg HB; have NEga_gb := ne_ hg BKga; replace hb := nb_ HB hb; replace BKga := kb_ BKga hb; replace HB := bs_ HB hb; have BKgb := Aside0.mk hbox; clear hb hbox hg))
  replace BKga := kd_ BKga
  replace BKgb := kd_ BKgb
  replace HB := bd_ HB
  refine sM_ [22] (fun w' => w'.cell? ⟨g, 0, none⟩ = some (.slice (some ad1) xs.length c1) ∧ w'.cell? ⟨g, 1, none⟩ = some (.slice (some ad2) bs.length c2) ∧ w'.cell? (ad1.add p0.toNat) = some (.int .i64 (rd xs p0)) ∧ w'.cell? (ad2.add p0.toNat) = some (.int .i64 (rd bs p0)) ∧ (w'.cell? ⟨ga, 0, none⟩ = some (.int .i64 p0) ∧ w'.cell? ⟨ga, 1, none⟩ = some (.int .i64 p1) ∧ w'.cell? ⟨ga, 2, none⟩ = some (.int .i64 p2))) minute_at.tab1 minute_at.bits1 ⟨pw_cell_below HB.out E1.out, pw_cell_below HB.out E2.out, pw_cell_below HB.out X1.out, pw_cell_below HB.out X2.out, c3_ BKga⟩ (fun hHeld HT_ HW_ => ?_)
  generalize w2.drew = w3 at BKga BKgb HB hHeld ⊢
  refine pM_ HT_ 0 5 1 ?_
  refine pM_ HT_ 1 6 3 ?_
  refine pM_ HT_ 2 7 7 ?_
  refine pM_ HT_ 4 9 23 ?_
  refine pM_ HT_ 8 13 279 ?_
  refine pM_ HT_ 10 15 1303 ?_
  refine pM_ HT_ 11 16 3351 ?_
  refine pM_ HT_ 12 17 7447 ?_
  refine pM_ HT_ 14 19 23831 ?_
  refine pM_ HT_ 19 24 548119 ?_
  refine tM_ HT_ HW_ hHeld 3 8 548127 ?_
  refine tM_ HT_ HW_ hHeld 5 10 548159 ?_
  refine pM_ HT_ 6 11 548223 ?_
  refine tM_ HT_ HW_ hHeld 7 12 548351 ?_
  refine tM_ HT_ HW_ hHeld 9 14 548863 ?_
  refine tM_ HT_ HW_ hHeld 13 18 557055 ?_
  refine tM_ HT_ HW_ hHeld 15 20 589823 ?_
  refine pM_ HT_ 16 21 655359 ?_
  refine tM_ HT_ HW_ hHeld 17 22 786431 ?_
  refine pM_ HT_ 18 23 1048575 ?_
  refine tM_ HT_ HW_ hHeld 20 25 2097151 ?_
  refine oM_ HT_ 21 (some 26) 4194303 (fun K hK => ?_)
  refine gM_ Tryz.func55 (vessel_of.calls k _ _ _ r1 r2 r3 _ H.out) ?_
  rintro e w4 ⟨rfl, hb⟩
  refine ⟨_, rfl, ?_⟩
  replace hb := nb_ HB hb
  replace BKga := kb_ BKga hb
  replace BKgb := kb_ BKgb hb
  replace HB := bs_ HB hb
  (try clear hb)
  refine hK.out _ _ ⟨pw_cell_below HB.out E1.out, pw_cell_below HB.out E2.out, pw_cell_below HB.out X1.out, pw_cell_below HB.out X2.out, c3_ BKga⟩ (fun hHeld => ?_)
  clear hK K
  refine nM_ ?_
  refine lM_ HT_ 22 none 8388607 (fun K hK => ?_)
  have hc_ := cf3_ BKgb
  refine sk3_ ?_
  intro ws_ hp_
  clear hc_
  refine hK.out _ _ ?_
  clear hK K
  refine dM_ HT_ ?_
  try go_wp2
  refine bodyPost_ret (results_cell_row rfl _ _ gb 77 #[.int .i64 r1, .int .i64 r2, .int .i64 r3] (0, 0) _ rfl (pp3_ BKgb hp_).out Tryz.underlying77 rfl (by kernel_rfl)) rfl ?_
  exact ⟨by first | rfl | (simp <;> rfl), (pb3_ GEgb HB hp_).out⟩
def volume_at.T1 : Bool × List (List Nat × List Nat) := (true, [([], []), ([0], [0]), ([1], [1]), ([2], [2]), ([], []), ([4], [4]), ([3, 5], [3, 5]), ([6], [6]), ([], []), ([8], [8]), ([], []), ([10], [10]), ([11], [11]), ([12], [12]), ([], []), ([14], [14]), ([13, 15], [13, 15]), ([16], [16]), ([9, 17], [9, 17]), ([], []), ([19], [19]), ([7, 18, 20], [7, 18, 20]), ([21, 21, 0, 1, 2, 3, 4, 5, 6, 7, 8, 9, 10, 11, 12, 13, 14, 15, 16, 17, 18, 19, 20, 21], [21])])
def volume_at.B1 : List Nat := [0, 1, 3, 7, 0, 16, 63, 127, 0, 256, 0, 1024, 3072, 7168, 0, 16384, 64512, 130048, 261888, 0, 524288, 2097151, 4194303]
theorem volume_at.tab1 : rtab .any (opsOf Tryz.f80 1) = volume_at.T1 := by kernel_rfl
theorem volume_at.bits1 : waitsOk volume_at.T1.2 volume_at.B1 = true := by kernel_rfl
set_option maxHeartbeats 1600000 in
set_option maxRecDepth 100000 in
theorem volume_at.calls (k : Nat) (g : Nat) (xs bs : List Int) (p0 p1 p2 r1 r2 r3 : Int) (w : World) (hs : Sc w g xs bs) (h0 : 0 ≤ p0) (h1 : p0 < xs.length) (h2 : p0 < bs.length) (h : vessel_of.f k (rd bs p0) (wrap64 (p1 * rd xs p0)) p2 = some (r1, r2, r3)) :
    Calls Tryz.prog 80 #[.pointer (some ⟨g, 0, none⟩), .agg #[.int .i64 p0, .int .i64 p1, .int .i64 p2]] w fun e w' => e = .returned (.agg #[.int .i64 r1, .int .i64 r2, .int .i64 r3]) ∧ Below w.heap.size w w' := by
  have hu90 := Tryz.underlying77
  have hu105 := Tryz.underlying86
  have HB := Aside0.mk (Below.refl w.heap.size w)
  obtain ⟨a1, a2, c1, c2, e1, e2, d1, d2, l1, l2⟩ := hs
  obtain ⟨ad1, q1, x1⟩ := Kd.at_int d1 p0 h0 h1
  obtain ⟨ad2, q2, x2⟩ := Kd.at_int d2 p0 h0 h2
  subst q1 q2
  clear d1 d2
  have H := Aside0.mk h
  have E1 := Aside0.mk e1
  have E2 := Aside0.mk e2
  have X1 := Aside0.mk x1
  have X2 := Aside0.mk x2
  clear h e1 e2 x1 x2
  replace h0 := eq_true h0
  replace h1 := eq_true h1
  replace h2 := eq_true h2
  go_enter Tryz.func80, Tryz.ntmps80
  go_wp2_with (first | ((with_reducible refine gate_dst (N := 3) rfl ?_); refine bx_ 3 #[.int .i64 p0, .int .i64 p1, .int .i64 p2] 86 ?_; intro ga hg w1 hbox hb; have GEga := ge_ hg HB; replace hb := nb_ HB hb; replace HB := bs_ HB hb; have BKga := Aside0.mk hbox; clear hb hbox hg) | ((with_reducible refine gate_dst (N := 4) rfl ?_); refine bx_ 4 #[.int .i64 0, .int .i64 0, .int .i64 0] 77 ?_; intro gb hg w2 hbox hb; have GEgb := ge_ hg HB; have NEga_gb := ne_ hg BKga; replace hb := nb_ HB hb; replace BKga := kb_ BKga hb; replace HB := bs_ HB hb; have BKgb := Aside0.mk hbox; clear hb hbox hg))
  replace BKga := kd_ BKga
  replace BKgb := kd_ BKgb
  replace HB := bd_ HB
  refine sM_ [22] (fun w' => w'.cell? ⟨g, 0, none⟩ = some (.slice (some ad1) xs.length c1) ∧ w'.cell? ⟨g, 1, none⟩ = some (.slice (some ad2) bs.length c2) ∧ w'.cell? (ad1.add p0.toNat) = some (.int .i64 (rd xs p0)) ∧ w'.cell? (ad2.add p0.toNat) = some (.int .i64 (rd bs p0)) ∧ (w'.cell? ⟨ga, 0, none⟩ = some (.int .i64 p0) ∧ w'.cell? ⟨ga, 1, none⟩ = some (.int .i64 p1) ∧ w'.cell? ⟨ga, 2, none⟩ = some (.int .i64 p2))) volume_at.tab1 volume_at.bits1 ⟨pw_cell_below HB.out E1.out, pw_cell_below HB.out E2.out, pw_cell_below HB.out X1.out, pw_cell_below HB.out X2.out, c3_ BKga⟩ (fun hHeld HT_ HW_ => ?_)
  generalize w2.drew = w3 at BKga BKgb HB hHeld ⊢
  refine pM_ HT_ 0 5 1 ?_
  refine pM_ HT_ 1 6 3 ?_
  refine pM_ HT_ 2 7 7 ?_
  refine pM_ HT_ 4 9 23 ?_
  refine pM_ HT_ 8 13 279 ?_
  refine pM_ HT_ 10 15 1303 ?_
  refine pM_ HT_ 11 16 3351 ?_
  refine pM_ HT_ 12 17 7447 ?_
  refine pM_ HT_ 14 19 23831 ?_
  refine pM_ HT_ 19 24 548119 ?_
  refine tM_ HT_ HW_ hHeld 3 8 548127 ?_
  refine tM_ HT_ HW_ hHeld 5 10 548159 ?_
  refine pM_ HT_ 6 11 548223 ?_
  refine tM_ HT_ HW_ hHeld 7 12 548351 ?_
  refine tM_ HT_ HW_ hHeld 9 14 548863 ?_
  refine tM_ HT_ HW_ hHeld 13 18 557055 ?_
  refine tM_ HT_ HW_ hHeld 15 20 589823 ?_
  refine pM_ HT_ 16 21 655359 ?_
  refine tM_ HT_ HW_ hHeld 17 22 786431 ?_
  refine pM_ HT_ 18 23 1048575 ?_
  refine tM_ HT_ HW_ hHeld 20 25 2097151 ?_
  refine oM_ HT_ 21 (some 26) 4194303 (fun K hK => ?_)
  refine gM_ Tryz.func55 (vessel_of.calls k _ _ _ r1 r2 r3 _ H.out) ?_
  rintro e w4 ⟨rfl, hb⟩
  refine ⟨_, rfl, ?_⟩
  replace hb := nb_ HB hb
  replace BKga := kb_ BKga hb
  replace BKgb := kb_ BKgb hb
  replace HB := bs_ HB hb
  (try clear hb)
  refine hK.out _ _ ⟨pw_cell_below HB.out E1.out, pw_cell_below HB.out E2.out, pw_cell_below HB.out X1.out, pw_cell_below HB.out X2.out, c3_ BKga⟩ (fun hHeld => ?_)
  clear hK K
  refine nM_ ?_
  refine lM_ HT_ 22 none 8388607 (fun K hK => ?_)
  have hc_ := cf3_ BKgb
  refine sk3_ ?_
  intro ws_ hp_
  clear hc_
  refine hK.out _ _ ?_
  clear hK K
  refine dM_ HT_ ?_
  try go_wp2
  refine bodyPost_ret (results_cell_row rfl _ _ gb 77 #[.int .i64 r1, .int .i64 r2, .int .i64 r3] (0, 0) _ rfl (pp3_ BKgb hp_).out Tryz.underlying77 rfl (by kernel_rfl)) rfl ?_
  exact ⟨by first | rfl | (simp <;> rfl), (pb3_ GEgb HB hp_).out⟩
end Go.Proofs.YtlhfclpbodfmcaaGreatDoor.Pr
namespace Go.Proofs.YtlhfclpbodfmcaaGreatDoor.Pr
open Go.RowKit Go.Proofs.YtlhfclpbodfmcaaGreatDoorW.PrintWords Go.Proofs.YtlhfclpbodfmcaaGreatDoorW.PrintLast Go.Proofs.YtlhfclpbodfmcaaGreatDoorW.PrintMore
open Go.Proofs.YtlhfclpbodfmcaaGreatDoor.Vm
set_option linter.unusedVariables false
set_option linter.unusedSimpArgs false
set_option maxHeartbeats 1600000 in
set_option maxRecDepth 100000 in
theorem height_reached.calls (A0 : Option Addr) (c0 : Nat) (l0 : List Int) (x0 x1 x2 : Int) (r : Nat) (w : World) (hr0 : Kd.C (Kd.int .i64) w A0 l0.length l0) (hn : l0.length ≤ 1000) (hr : r ≤ l0.length) (hlt : ∀ i : Nat, i < r → rd l0 i ≤ x0) (hge : ∀ i : Nat, r ≤ i → i < l0.length → x0 < rd l0 i) :
    Calls Tryz.prog 95 #[.slice A0 l0.length c0, .func (.func 78) #[.agg #[.int .i64 x0, .int .i64 x1, .int .i64 x2]] #[]] w fun e w' => e = .returned (.int .i64 (r : Int)) ∧ Below w.heap.size w w' := by
  have HB := Aside0.mk (Below.refl w.heap.size w)
  have HR0 := Aside0.mk hr0
  have HLT := Aside0.mk hlt
  have HGE := Aside0.mk hge
  have hmx := Kd.C_max hr0
  clear hr0 hlt hge
  go_enter Tryz.func95, Tryz.ntmps95
  go_wp2
  go_loopg [5, 6] l0.length (fun kq v5 v6 w' => ∃ i j : Nat, v5 = .int .i64 (i : Int) ∧ v6 = .int .i64 (j : Int) ∧ Aside0 (i ≤ r ∧ r ≤ j ∧ j ≤ l0.length ∧ j - i ≤ kq) ∧ Aside0 (Below w.heap.size w w'))
  case atStart => exact ⟨0, l0.length, rfl, rfl, ⟨by omega, hr, by omega, by omega⟩, HB⟩
  case round =>
    clear HB
    obtain ⟨i, j, rfl, rfl, HI, HB⟩ := hrel
    obtain ⟨h1, h2, h3, h4⟩ := HI.out
    clear HI
    by_cases hij : i < j
    · have hd : decide ((i : Int) < (j : Int)) = true := decide_eq_true (by omega)
      have hd2 : decide (i < j) = true := decide_eq_true hij
      have hmn : (i + j) / 2 < l0.length := by omega
      have hm0 : (0 : Int) ≤ (((i + j) / 2 : Nat) : Int) := by omega
      have hm1 : (((i + j) / 2 : Nat) : Int) < (l0.length : Int) := by omega
      obtain ⟨ad, q1, x9⟩ := Kd.at_int HR0.out (((i + j) / 2 : Nat) : Int) hm0 hm1
      subst q1
      replace x9 := pw_cell_below HB.out x9
      simp only [Int.toNat_natCast] at x9
      by_cases hmr : (i + j) / 2 < r
      · have hv : vessel_exact_below.f x0 x1 x2 (rd l0 (((i + j) / 2 : Nat) : Int)) = some false := by
          simp only [vessel_exact_below.f, Option.some.injEq]
          exact decide_eq_false (by have := HLT.out _ hmr; omega)
        have HV := Aside0.mk hv
        clear hv
        go_wp2_with fail
        refine (vessel_exact_below.calls x0 x1 x2 _ false _ HV.out).mono ?_
        rintro e wc ⟨rfl, hb⟩
        have HB2 := Aside0.mk (below_step HB.out hb)
        clear hb HB
        go_wp2
        go_roundg (gk - 1)
        case measure => omega
        case rel => exact ⟨(i + j) / 2 + 1, j, by go_num, rfl, ⟨by omega, by omega, by omega, by omega⟩, HB2⟩
      · have hv : vessel_exact_below.f x0 x1 x2 (rd l0 (((i + j) / 2 : Nat) : Int)) = some true := by
          simp only [vessel_exact_below.f, Option.some.injEq]
          exact decide_eq_true (HGE.out _ (by omega) hmn)
        have HV := Aside0.mk hv
        clear hv
        go_wp2_with fail
        refine (vessel_exact_below.calls x0 x1 x2 _ true _ HV.out).mono ?_
        rintro e wc ⟨rfl, hb⟩
        have HB2 := Aside0.mk (below_step HB.out hb)
        clear hb HB
        go_wp2
        go_roundg (gk - 1)
        case measure => omega
        case rel => exact ⟨i, (i + j) / 2, rfl, by go_num, ⟨by omega, by omega, by omega, by omega⟩, HB2⟩
    · have hd : decide ((i : Int) < (j : Int)) = false := decide_eq_false (by omega)
      have hd2 : decide (i < j) = false := decide_eq_false hij
      obtain rfl : i = r := by omega
      go_wp2
      go_ret
      exact ⟨rfl, HB.out⟩
set_option maxHeartbeats 1600000 in
set_option maxRecDepth 100000 in
theorem minute_reached.calls (A0 : Option Addr) (c0 : Nat) (l0 : List Int) (x0 x1 x2 : Int) (r : Nat) (w : World) (hr0 : Kd.C (Kd.int .i64) w A0 l0.length l0) (hn : l0.length ≤ 1000) (hr : r ≤ l0.length) (hlt : ∀ i : Nat, i < r → rd l0 i ≤ x0) (hge : ∀ i : Nat, r ≤ i → i < l0.length → x0 < rd l0 i) :
    Calls Tryz.prog 79 #[.slice A0 l0.length c0, .func (.func 78) #[.agg #[.int .i64 x0, .int .i64 x1, .int .i64 x2]] #[]] w fun e w' => e = .returned (.int .i64 (r : Int)) ∧ Below w.heap.size w w' := by
  have HB := Aside0.mk (Below.refl w.heap.size w)
  have HR0 := Aside0.mk hr0
  have HLT := Aside0.mk hlt
  have HGE := Aside0.mk hge
  have hmx := Kd.C_max hr0
  clear hr0 hlt hge
  go_enter Tryz.func79, Tryz.ntmps79
  go_wp2
  go_loopg [5, 6] l0.length (fun kq v5 v6 w' => ∃ i j : Nat, v5 = .int .i64 (i : Int) ∧ v6 = .int .i64 (j : Int) ∧ Aside0 (i ≤ r ∧ r ≤ j ∧ j ≤ l0.length ∧ j - i ≤ kq) ∧ Aside0 (Below w.heap.size w w'))
  case atStart => exact ⟨0, l0.length, rfl, rfl, ⟨by omega, hr, by omega, by omega⟩, HB⟩
  case round =>
    clear HB
    obtain ⟨i, j, rfl, rfl, HI, HB⟩ := hrel
    obtain ⟨h1, h2, h3, h4⟩ := HI.out
    clear HI
    by_cases hij : i < j
    · have hd : decide ((i : Int) < (j : Int)) = true := decide_eq_true (by omega)
      have hd2 : decide (i < j) = true := decide_eq_true hij
      have hmn : (i + j) / 2 < l0.length := by omega
      have hm0 : (0 : Int) ≤ (((i + j) / 2 : Nat) : Int) := by omega
      have hm1 : (((i + j) / 2 : Nat) : Int) < (l0.length : Int) := by omega
      obtain ⟨ad, q1, x9⟩ := Kd.at_int HR0.out (((i + j) / 2 : Nat) : Int) hm0 hm1
      subst q1
      replace x9 := pw_cell_below HB.out x9
      simp only [Int.toNat_natCast] at x9
      by_cases hmr : (i + j) / 2 < r
      · have hv : vessel_exact_below.f x0 x1 x2 (rd l0 (((i + j) / 2 : Nat) : Int)) = some false := by
          simp only [vessel_exact_below.f, Option.some.injEq]
          exact decide_eq_false (by have := HLT.out _ hmr; omega)
        have HV := Aside0.mk hv
        clear hv
        go_wp2_with fail
        refine (vessel_exact_below.calls x0 x1 x2 _ false _ HV.out).mono ?_
        rintro e wc ⟨rfl, hb⟩
        have HB2 := Aside0.mk (below_step HB.out hb)
        clear hb HB
        go_wp2
        go_roundg (gk - 1)
        case measure => omega
        case rel => exact ⟨(i + j) / 2 + 1, j, by go_num, rfl, ⟨by omega, by omega, by omega, by omega⟩, HB2⟩
      · have hv : vessel_exact_below.f x0 x1 x2 (rd l0 (((i + j) / 2 : Nat) : Int)) = some true := by
          simp only [vessel_exact_below.f, Option.some.injEq]
          exact decide_eq_true (HGE.out _ (by omega) hmn)
        have HV := Aside0.mk hv
        clear hv
        go_wp2_with fail
        refine (vessel_exact_below.calls x0 x1 x2 _ true _ HV.out).mono ?_
        rintro e wc ⟨rfl, hb⟩
        have HB2 := Aside0.mk (below_step HB.out hb)
        clear hb HB
        go_wp2
        go_roundg (gk - 1)
        case measure => omega
        case rel => exact ⟨i, (i + j) / 2, rfl, by go_num, ⟨by omega, by omega, by omega, by omega⟩, HB2⟩
    · have hd : decide ((i : Int) < (j : Int)) = false := decide_eq_false (by omega)
      have hd2 : decide (i < j) = false := decide_eq_false hij
      obtain rfl : i = r := by omega
      go_wp2
      go_ret
      exact ⟨rfl, HB.out⟩
set_option maxHeartbeats 1600000 in
set_option maxRecDepth 100000 in
theorem volume_reached.calls (A0 : Option Addr) (c0 : Nat) (l0 : List Int) (x0 x1 x2 : Int) (r : Nat) (w : World) (hr0 : Kd.C (Kd.int .i64) w A0 l0.length l0) (hn : l0.length ≤ 1000) (hr : r ≤ l0.length) (hlt : ∀ i : Nat, i < r → rd l0 i ≤ x0) (hge : ∀ i : Nat, r ≤ i → i < l0.length → x0 < rd l0 i) :
    Calls Tryz.prog 81 #[.slice A0 l0.length c0, .func (.func 78) #[.agg #[.int .i64 x0, .int .i64 x1, .int .i64 x2]] #[]] w fun e w' => e = .returned (.int .i64 (r : Int)) ∧ Below w.heap.size w w' := by
  have HB := Aside0.mk (Below.refl w.heap.size w)
  have HR0 := Aside0.mk hr0
  have HLT := Aside0.mk hlt
  have HGE := Aside0.mk hge
  have hmx := Kd.C_max hr0
  clear hr0 hlt hge
  go_enter Tryz.func81, Tryz.ntmps81
  go_wp2
  go_loopg [5, 6] l0.length (fun kq v5 v6 w' => ∃ i j : Nat, v5 = .int .i64 (i : Int) ∧ v6 = .int .i64 (j : Int) ∧ Aside0 (i ≤ r ∧ r ≤ j ∧ j ≤ l0.length ∧ j - i ≤ kq) ∧ Aside0 (Below w.heap.size w w'))
  case atStart => exact ⟨0, l0.length, rfl, rfl, ⟨by omega, hr, by omega, by omega⟩, HB⟩
  case round =>
    clear HB
    obtain ⟨i, j, rfl, rfl, HI, HB⟩ := hrel
    obtain ⟨h1, h2, h3, h4⟩ := HI.out
    clear HI
    by_cases hij : i < j
    · have hd : decide ((i : Int) < (j : Int)) = true := decide_eq_true (by omega)
      have hd2 : decide (i < j) = true := decide_eq_true hij
      have hmn : (i + j) / 2 < l0.length := by omega
      have hm0 : (0 : Int) ≤ (((i + j) / 2 : Nat) : Int) := by omega
      have hm1 : (((i + j) / 2 : Nat) : Int) < (l0.length : Int) := by omega
      obtain ⟨ad, q1, x9⟩ := Kd.at_int HR0.out (((i + j) / 2 : Nat) : Int) hm0 hm1
      subst q1
      replace x9 := pw_cell_below HB.out x9
      simp only [Int.toNat_natCast] at x9
      by_cases hmr : (i + j) / 2 < r
      · have hv : vessel_exact_below.f x0 x1 x2 (rd l0 (((i + j) / 2 : Nat) : Int)) = some false := by
          simp only [vessel_exact_below.f, Option.some.injEq]
          exact decide_eq_false (by have := HLT.out _ hmr; omega)
        have HV := Aside0.mk hv
        clear hv
        go_wp2_with fail
        refine (vessel_exact_below.calls x0 x1 x2 _ false _ HV.out).mono ?_
        rintro e wc ⟨rfl, hb⟩
        have HB2 := Aside0.mk (below_step HB.out hb)
        clear hb HB
        go_wp2
        go_roundg (gk - 1)
        case measure => omega
        case rel => exact ⟨(i + j) / 2 + 1, j, by go_num, rfl, ⟨by omega, by omega, by omega, by omega⟩, HB2⟩
      · have hv : vessel_exact_below.f x0 x1 x2 (rd l0 (((i + j) / 2 : Nat) : Int)) = some true := by
          simp only [vessel_exact_below.f, Option.some.injEq]
          exact decide_eq_true (HGE.out _ (by omega) hmn)
        have HV := Aside0.mk hv
        clear hv
        go_wp2_with fail
        refine (vessel_exact_below.calls x0 x1 x2 _ true _ HV.out).mono ?_
        rintro e wc ⟨rfl, hb⟩
        have HB2 := Aside0.mk (below_step HB.out hb)
        clear hb HB
        go_wp2
        go_roundg (gk - 1)
        case measure => omega
        case rel => exact ⟨i, (i + j) / 2, rfl, by go_num, ⟨by omega, by omega, by omega, by omega⟩, HB2⟩
    · have hd : decide ((i : Int) < (j : Int)) = false := decide_eq_false (by omega)
      have hd2 : decide (i < j) = false := decide_eq_false hij
      obtain rfl : i = r := by omega
      go_wp2
      go_ret
      exact ⟨rfl, HB.out⟩
end Go.Proofs.YtlhfclpbodfmcaaGreatDoor.Pr
namespace Go.Proofs.YtlhfclpbodfmcaaGreatDoor.Pr
open Go.RowKit Go.Proofs.YtlhfclpbodfmcaaGreatDoorW.PrintWords Go.Proofs.YtlhfclpbodfmcaaGreatDoorW.PrintLast Go.Proofs.YtlhfclpbodfmcaaGreatDoorW.PrintMore
open Go.Proofs.YtlhfclpbodfmcaaGreatDoor.Vm
set_option linter.unusedVariables false
set_option linter.unusedSimpArgs false
theorem info103 : (Tryz.prog.info? 84).map (fun i => (i.zero, i.size, i.bytes)) = some (some (.int .i64 0), 1, 8) := by kernel_rfl
def height_find.T1 : Bool × List (List Nat × List Nat) := (true, [([], []), ([0], [0]), ([1], [1]), ([2], [2]), ([], []), ([4], [4]), ([5], [5]), ([6], [6]), ([7], [7]), ([3, 8], [3, 8]), ([], []), ([10], [10]), ([9, 11], [9, 11]), ([12, 12, 0, 1, 2, 3, 4, 5, 6, 7, 8, 9, 10, 11, 12], [12])])
def height_find.B1 : List Nat := [0, 1, 3, 7, 0, 16, 48, 112, 240, 511, 0, 1024, 4095, 8191]
theorem height_find.tab1 : rtab .any (opsOf Tryz.f76 1) = height_find.T1 := by kernel_rfl
theorem height_find.bits1 : waitsOk height_find.T1.2 height_find.B1 = true := by kernel_rfl
def height_find.T3 : Bool × List (List Nat × List Nat) := (true, [([], []), ([], []), ([1], [1]), ([2], [2]), ([3], [3]), ([], []), ([4, 5], [4, 5]), ([6], [6]), ([7], [7]), ([0, 8], [0, 8]), ([], []), ([10, 9, 9, 0, 1, 2, 3, 4, 5, 6, 7, 8, 9, 10], [9, 10])])
def height_find.B3 : List Nat := [0, 0, 2, 6, 14, 0, 62, 126, 254, 511, 0, 2047]
theorem height_find.tab3 : rtab .any (opsOf Tryz.f76 3) = height_find.T3 := by kernel_rfl
theorem height_find.bits3 : waitsOk height_find.T3.2 height_find.B3 = true := by kernel_rfl
set_option maxHeartbeats 1600000 in
set_option maxRecDepth 100000 in
theorem height_find.calls (g : Nat) (xs bs : List Int) (x0 x1 x2 : Int) (r : Nat) (w : World) (hs : Sc w g xs bs) (hn : xs.length ≤ 1000) (hl : bs.length = xs.length + 1) (hr : r < xs.length) (hlt : ∀ i : Nat, i < r → rd bs ((i : Int) + 1) ≤ x0) (hge : ∀ i : Nat, r ≤ i → i + 1 < xs.length → x0 < rd bs ((i : Int) + 1)) :
    Calls Tryz.prog 76 #[.pointer (some ⟨g, 0, none⟩), .agg #[.int .i64 x0, .int .i64 x1, .int .i64 x2]] w fun e w' => e = .returned (.agg #[.int .i64 r, .int .i64 (wrap64 (wrap64 (wrap64 (x0 + wrap64 (-(rd bs (r : Int)))) * x2) + x1)), .int .i64 (wrap64 (x2 * rd xs (r : Int)))]) ∧ Below w.heap.size w w' := by
  have hu90 := Tryz.underlying77
  have hu105 := Tryz.underlying86
  have HB := Aside0.mk (Below.refl w.heap.size w)
  obtain ⟨a1, a2, c1, c2, e1, e2, d1, d2, l1, l2⟩ := hs
  obtain ⟨A', c', hcut, dcut⟩ := cut_sums (P := Tryz.prog) 116 84 Tryz.underlying116 info103 d2 l2 xs.length (by omega) (by omega)
  have hyl : ((bs.take xs.length).drop 1).length = xs.length - 1 := by rw [List.length_drop, List.length_take]; omega
  have hry : r ≤ ((bs.take xs.length).drop 1).length := by omega
  have hlt' : ∀ i : Nat, i < r → rd ((bs.take xs.length).drop 1) (i : Int) ≤ x0 := by intro i hi; rw [rd_cut bs xs.length i (by omega)]; exact hlt i hi
  have hge' : ∀ i : Nat, r ≤ i → i < ((bs.take xs.length).drop 1).length → x0 < rd ((bs.take xs.length).drop 1) (i : Int) := by intro i hi hj; rw [rd_cut bs xs.length i (by omega)]; exact hge i hi (by omega)
  have hyn : ((bs.take xs.length).drop 1).length ≤ 1000 := by omega
  clear hlt hge hyl
  have h0 : (0 : Int) ≤ (r : Int) := by omega
  have h1 : (r : Int) < (xs.length : Int) := by omega
  have h2 : (r : Int) < (bs.length : Int) := by omega
  obtain ⟨ad1, q1, x9⟩ := Kd.at_int d1 (r : Int) h0 h1
  obtain ⟨ad2, q2, x8⟩ := Kd.at_int d2 (r : Int) h0 h2
  subst q1 q2
  clear d1 d2 hl
  simp only [Int.toNat_natCast] at x9 x8
  have HCUT := Aside0.mk hcut
  have DCUT := Aside0.mk dcut
  have HLT := Aside0.mk hlt'
  have HGE := Aside0.mk hge'
  have HRY := Aside0.mk hry
  have HYN := Aside0.mk hyn
  have E1 := Aside0.mk e1
  have E2 := Aside0.mk e2
  have X1 := Aside0.mk x9
  have X2 := Aside0.mk x8
  clear hcut dcut hlt' hge' hry hyn e1 e2 x8 x9
  replace h0 := eq_true h0
  replace h1 := eq_true h1
  replace h2 := eq_true h2
  generalize hY : ((bs.take xs.length).drop 1) = ys at *
  clear hY
  go_enter Tryz.func76, Tryz.ntmps76
  go_wp2_with (first | ((with_reducible refine gate_dst (N := 3) rfl ?_); refine bx_ 3 #[.int .i64 x0, .int .i64 x1, .int .i64 x2] 77 ?_; intro ga hg w1 hbox hb; have GEga := ge_ hg HB; replace hb := nb_ HB hb; replace HB := bs_ HB hb; have BKga := Aside0.mk hbox; clear hb hbox hg) | ((with_reducible refine gate_dst (N := 4) rfl ?_); refine bx_ 4 #[.int .i64 0, .int .i64 0, .int .i64 0] 86 ?_; intro gb hg w2 hbox hb; have GEgb := ge_ hg HB; have NEga_gb := ne_ hg BKga; replace hb := nb_ HB hb; replace BKga := kb_ BKga hb; replace HB := bs_ HB hb; have BKgb := Aside0.mk hbox; clear hb hbox hg))
  have hcut := HCUT.out
  replace BKga := kd_ BKga
  replace BKgb := kd_ BKgb
  replace HB := bd_ HB
  refine sM_ [] (fun w' => w'.cell? ⟨g, 0, none⟩ = some (.slice (some ad1) xs.length c1) ∧ w'.cell? ⟨g, 1, none⟩ = some (.slice (some ad2) bs.length c2) ∧ (w'.cell? ⟨ga, 0, none⟩ = some (.int .i64 x0) ∧ w'.cell? ⟨ga, 1, none⟩ = some (.int .i64 x1) ∧ w'.cell? ⟨ga, 2, none⟩ = some (.int .i64 x2))) height_find.tab1 height_find.bits1 ⟨pw_cell_below HB.out E1.out, pw_cell_below HB.out E2.out, c3_ BKga⟩ (fun hHeld HT_ HW_ => ?_)
  generalize w2.drew = w3 at BKga BKgb HB hHeld ⊢
  refine pM_ HT_ 0 8 1 ?_
  refine pM_ HT_ 1 9 3 ?_
  refine pM_ HT_ 2 10 7 ?_
  refine pM_ HT_ 4 12 23 ?_
  refine pM_ HT_ 5 13 55 ?_
  refine pM_ HT_ 6 14 119 ?_
  refine tM_ HT_ HW_ hHeld 3 11 127 ?_
  refine tM_ HT_ HW_ hHeld 7 15 255 ?_
  refine pM_ HT_ 8 16 511 ?_
  refine pM_ HT_ 9 17 1023 ?_
  refine tM_ HT_ HW_ hHeld 10 18 2047 ?_
  refine pM_ HT_ 11 19 4095 ?_
  refine oM_ HT_ 12 (some 20) 8191 (fun K hK => ?_)
  refine gM_ Tryz.func95 (height_reached.calls A' c' ys x0 x1 x2 r _ (Kd.C_below DCUT.out HB.out) HYN.out HRY.out HLT.out HGE.out) ?_
  rintro e w4 ⟨rfl, hb⟩
  refine ⟨_, rfl, ?_⟩
  replace hb := nb_ HB hb
  replace BKga := kb_ BKga hb
  replace BKgb := kb_ BKgb hb
  replace HB := bs_ HB hb
  (try clear hb)
  refine hK.out _ _ ⟨pw_cell_below HB.out E1.out, pw_cell_below HB.out E2.out, c3_ BKga⟩ (fun hHeld => ?_)
  clear hK K
  refine nM_ ?_
  refine pM_ HT_ 13 5 16383 ?_
  refine dM_ HT_ ?_
  clear hcut
  have e1 := pw_cell_below HB.out E1.out
  have x9 := pw_cell_below HB.out X1.out
  try go_wp2
  clear e1 x9
  replace BKga := kd_ BKga
  replace BKgb := kd_ BKgb
  replace HB := bd_ HB
  refine sM_ [11] (fun w' => w'.cell? ⟨g, 1, none⟩ = some (.slice (some ad2) bs.length c2) ∧ w'.cell? (ad2.add r) = some (.int .i64 (rd bs (r : Int))) ∧ (w'.cell? ⟨ga, 0, none⟩ = some (.int .i64 x0) ∧ w'.cell? ⟨ga, 1, none⟩ = some (.int .i64 x1) ∧ w'.cell? ⟨ga, 2, none⟩ = some (.int .i64 x2))) height_find.tab3 height_find.bits3 ⟨pw_cell_below HB.out E2.out, pw_cell_below HB.out X2.out, c3_ BKga⟩ (fun hHeld HT_ HW_ => ?_)
  generalize w4.drew = w5 at BKga BKgb HB hHeld ⊢
  refine pM_ HT_ 1 29 2 ?_
  refine pM_ HT_ 2 30 6 ?_
  refine pM_ HT_ 3 31 14 ?_
  refine pM_ HT_ 5 33 46 ?_
  refine tM_ HT_ HW_ hHeld 0 28 47 ?_
  refine tM_ HT_ HW_ hHeld 4 32 63 ?_
  refine pM_ HT_ 6 34 127 ?_
  refine tM_ HT_ HW_ hHeld 7 35 255 ?_
  refine pM_ HT_ 8 36 511 ?_
  refine twM_ HT_ 9 (some 37) 1023 10 (some 7) 1535 (fun K hK => ?_) (fun K hK => ?_)
  · refine gM_ Tryz.func44 (vessel_exact_plus.calls x0 x1 x2 (wrap64 (-(rd bs (r : Int)))) _ _ _ _ rfl) ?_
    rintro e w6 ⟨rfl, hb⟩
    refine ⟨_, rfl, ?_⟩
    replace hb := nb_ HB hb
    replace BKga := kb_ BKga hb
    replace BKgb := kb_ BKgb hb
    replace HB := bs_ HB hb
    (try clear hb)
    refine hK.out _ _ ⟨pw_cell_below HB.out E2.out, pw_cell_below HB.out X2.out, c3_ BKga⟩ (fun hHeld => ?_)
    clear hK K
    refine nM_ ?_
    refine oM_ HT_ 10 (some 7) 2047 (fun K hK => ?_)
    refine bs2_ 7 #[.int .i64 0, .int .i64 0, .int .i64 0] 77 ?_
    intro gc hg w7 hbox hb
    have GEgc := ge_ hg HB
    have NEga_gc := ne_ hg BKga
    have NEgb_gc := ne_ hg BKgb
    replace hb := nb_ HB hb
    replace BKga := kb_ BKga hb
    replace BKgb := kb_ BKgb hb
    replace HB := bs_ HB hb
    have BKgc := Aside0.mk hbox
    clear hb hbox hg
    refine hK.out _ _ ⟨pw_cell_below HB.out E2.out, pw_cell_below HB.out X2.out, c3_ BKga⟩ (fun hHeld => ?_)
    clear hK K
    refine nM_ ?_
    refine lM_ HT_ 11 none 4095 (fun K hK => ?_)
    have hc_ := cf3_ BKgc
    refine sk3_ ?_
    intro ws_ hp_
    clear hc_
    refine hK.out _ _ ?_
    clear hK K
    refine dM_ HT_ ?_
    replace BKga := pf3_ NEga_gc BKga hp_
    replace BKgb := pf3_ NEgb_gc BKgb hp_
    replace BKgc := pp3_ BKgc hp_
    replace HB := pb3_ GEgc HB hp_
    clear hp_
    generalize ws_ = w8 at BKga BKgb BKgc HB ⊢
    clear ws_
    have o0 := (blk_cell BKgc.out 0).trans rfl
    have o1 := (blk_cell BKgc.out 1).trans rfl
    have o2 := (blk_cell BKgc.out 2).trans rfl
    have z0 := (blk_cell BKgb.out 0).trans rfl
    have z1 := (blk_cell BKgb.out 1).trans rfl
    have z2 := (blk_cell BKgb.out 2).trans rfl
    have y0 := blk_frozen BKgb.out 0
    have y1 := blk_frozen BKgb.out 1
    have y2 := blk_frozen BKgb.out 2
    try go_wp2
    refine bodyPost_ret (results_cell_row rfl _ _ gb 86 #[.int .i64 r, .int .i64 (wrap64 (wrap64 (wrap64 (x0 + wrap64 (-(rd bs (r : Int)))) * x2) + x1)), .int .i64 (wrap64 (x2 * rd xs (r : Int)))] (0, 0) _ rfl (by (with_reducible repeat (first | refine blk_drewN ?_ _ | refine blk_drew ?_ | refine blk_alloc ?_ _)); refine blk_put (cs := #[.int .i64 r, .int .i64 (wrap64 (wrap64 (wrap64 (x0 + wrap64 (-(rd bs (r : Int)))) * x2) + x1)), .int .i64 0]) ?_ 2 _ rfl; (with_reducible repeat (first | refine blk_drewN ?_ _ | refine blk_drew ?_ | refine blk_alloc ?_ _)); refine blk_put (cs := #[.int .i64 r, .int .i64 0, .int .i64 0]) ?_ 1 _ rfl; (with_reducible repeat (first | refine blk_drewN ?_ _ | refine blk_drew ?_ | refine blk_alloc ?_ _)); refine blk_put (cs := #[.int .i64 0, .int .i64 0, .int .i64 0]) ?_ 0 _ rfl; (with_reducible repeat (first | refine blk_drewN ?_ _ | refine blk_drew ?_ | refine blk_alloc ?_ _)); exact BKgb.out) Tryz.underlying86 rfl (by kernel_rfl)) rfl ?_
    exact ⟨by first | rfl | (simp <;> rfl), (by repeat (first | (with_reducible first | exact HB.out | apply below_alloc | apply pw_below_drewN | apply below_drew1 | refine below_set ?_ GEga.out | refine below_set ?_ GEgb.out | refine below_set ?_ GEgc.out) | exact HB.out))⟩
  · refine bs2_ 7 #[.int .i64 0, .int .i64 0, .int .i64 0] 77 ?_
    intro gc hg w7 hbox hb
    have GEgc := ge_ hg HB
    have NEga_gc := ne_ hg BKga
    have NEgb_gc := ne_ hg BKgb
    replace hb := nb_ HB hb
    replace BKga := kb_ BKga hb
    replace BKgb := kb_ BKgb hb
    replace HB := bs_ HB hb
    have BKgc := Aside0.mk hbox
    clear hb hbox hg
    refine hK.out _ _ ⟨pw_cell_below HB.out E2.out, pw_cell_below HB.out X2.out, c3_ BKga⟩ (fun hHeld => ?_)
    clear hK K
    refine nM_ ?_
    refine oM_ HT_ 9 (some 37) 2047 (fun K hK => ?_)
    refine gM_ Tryz.func44 (vessel_exact_plus.calls x0 x1 x2 (wrap64 (-(rd bs (r : Int)))) _ _ _ _ rfl) ?_
    rintro e w6 ⟨rfl, hb⟩
    refine ⟨_, rfl, ?_⟩
    replace hb := nb_ HB hb
    replace BKga := kb_ BKga hb
    replace BKgb := kb_ BKgb hb
    replace BKgc := kb_ BKgc hb
    replace HB := bs_ HB hb
    (try clear hb)
    refine hK.out _ _ ⟨pw_cell_below HB.out E2.out, pw_cell_below HB.out X2.out, c3_ BKga⟩ (fun hHeld => ?_)
    clear hK K
    refine nM_ ?_
    refine lM_ HT_ 11 none 4095 (fun K hK => ?_)
    have hc_ := cf3_ BKgc
    refine sk3_ ?_
    intro ws_ hp_
    clear hc_
    refine hK.out _ _ ?_
    clear hK K
    refine dM_ HT_ ?_
    replace BKga := pf3_ NEga_gc BKga hp_
    replace BKgb := pf3_ NEgb_gc BKgb hp_
    replace BKgc := pp3_ BKgc hp_
    replace HB := pb3_ GEgc HB hp_
    clear hp_
    generalize ws_ = w8 at BKga BKgb BKgc HB ⊢
    clear ws_
    have o0 := (blk_cell BKgc.out 0).trans rfl
    have o1 := (blk_cell BKgc.out 1).trans rfl
    have o2 := (blk_cell BKgc.out 2).trans rfl
    have z0 := (blk_cell BKgb.out 0).trans rfl
    have z1 := (blk_cell BKgb.out 1).trans rfl
    have z2 := (blk_cell BKgb.out 2).trans rfl
    have y0 := blk_frozen BKgb.out 0
    have y1 := blk_frozen BKgb.out 1
    have y2 := blk_frozen BKgb.out 2
    try go_wp2
    refine bodyPost_ret (results_cell_row rfl _ _ gb 86 #[.int .i64 r, .int .i64 (wrap64 (wrap64 (wrap64 (x0 + wrap64 (-(rd bs (r : Int)))) * x2) + x1)), .int .i64 (wrap64 (x2 * rd xs (r : Int)))] (0, 0) _ rfl (by (with_reducible repeat (first | refine blk_drewN ?_ _ | refine blk_drew ?_ | refine blk_alloc ?_ _)); refine blk_put (cs := #[.int .i64 r, .int .i64 (wrap64 (wrap64 (wrap64 (x0 + wrap64 (-(rd bs (r : Int)))) * x2) + x1)), .int .i64 0]) ?_ 2 _ rfl; (with_reducible repeat (first | refine blk_drewN ?_ _ | refine blk_drew ?_ | refine blk_alloc ?_ _)); refine blk_put (cs := #[.int .i64 r, .int .i64 0, .int .i64 0]) ?_ 1 _ rfl; (with_reducible repeat (first | refine blk_drewN ?_ _ | refine blk_drew ?_ | refine blk_alloc ?_ _)); refine blk_put (cs := #[.int .i64 0, .int .i64 0, .int .i64 0]) ?_ 0 _ rfl; (with_reducible repeat (first | refine blk_drewN ?_ _ | refine blk_drew ?_ | refine blk_alloc ?_ _)); exact BKgb.out) Tryz.underlying86 rfl (by kernel_rfl)) rfl ?_
    exact ⟨by first | rfl | (simp <;> rfl), (by repeat (first | (with_reducible first | exact HB.out | apply below_alloc | apply pw_below_drewN | apply below_drew1 | refine below_set ?_ GEga.out | refine below_set ?_ GEgb.out | refine below_set ?_ GEgc.out) | exact HB.out))⟩
theorem info109 : (Tryz.prog.info? 89).map (fun i => (i.zero, i.size, i.bytes)) = some (some (.int .i64 0), 1, 8) := by kernel_rfl
def minute_find.T1 : Bool × List (List Nat × List Nat) := (true, [([], []), ([0], [0]), ([1], [1]), ([2], [2]), ([], []), ([4], [4]), ([5], [5]), ([6], [6]), ([7], [7]), ([3, 8], [3, 8]), ([], []), ([10], [10]), ([9, 11], [9, 11]), ([12, 12, 0, 1, 2, 3, 4, 5, 6, 7, 8, 9, 10, 11, 12], [12])])
def minute_find.B1 : List Nat := [0, 1, 3, 7, 0, 16, 48, 112, 240, 511, 0, 1024, 4095, 8191]
theorem minute_find.tab1 : rtab .any (opsOf Tryz.f47 1) = minute_find.T1 := by kernel_rfl
theorem minute_find.bits1 : waitsOk minute_find.T1.2 minute_find.B1 = true := by kernel_rfl
def minute_find.T3 : Bool × List (List Nat × List Nat) := (true, [([], []), ([], []), ([1], [1]), ([2], [2]), ([3], [3]), ([], []), ([4, 5], [4, 5]), ([6], [6]), ([7], [7]), ([0, 8], [0, 8]), ([], []), ([10, 9, 9, 0, 1, 2, 3, 4, 5, 6, 7, 8, 9, 10], [9, 10])])
def minute_find.B3 : List Nat := [0, 0, 2, 6, 14, 0, 62, 126, 254, 511, 0, 2047]
theorem minute_find.tab3 : rtab .any (opsOf Tryz.f47 3) = minute_find.T3 := by kernel_rfl
theorem minute_find.bits3 : waitsOk minute_find.T3.2 minute_find.B3 = true := by kernel_rfl
set_option maxHeartbeats 1600000 in
set_option maxRecDepth 100000 in
theorem minute_find.calls (g : Nat) (xs bs : List Int) (x0 x1 x2 : Int) (r : Nat) (w : World) (hs : Sc w g xs bs) (hn : xs.length ≤ 1000) (hl : bs.length = xs.length + 1) (hr : r < xs.length) (hlt : ∀ i : Nat, i < r → rd bs ((i : Int) + 1) ≤ x0) (hge : ∀ i : Nat, r ≤ i → i + 1 < xs.length → x0 < rd bs ((i : Int) + 1)) :
    Calls Tryz.prog 47 #[.pointer (some ⟨g, 0, none⟩), .agg #[.int .i64 x0, .int .i64 x1, .int .i64 x2]] w fun e w' => e = .returned (.agg #[.int .i64 r, .int .i64 (wrap64 (wrap64 (wrap64 (x0 + wrap64 (-(rd bs (r : Int)))) * x2) + x1)), .int .i64 (wrap64 (x2 * rd xs (r : Int)))]) ∧ Below w.heap.size w w' := by
  have hu90 := Tryz.underlying77
  have hu105 := Tryz.underlying86
  have HB := Aside0.mk (Below.refl w.heap.size w)
  obtain ⟨a1, a2, c1, c2, e1, e2, d1, d2, l1, l2⟩ := hs
  obtain ⟨A', c', hcut, dcut⟩ := cut_sums (P := Tryz.prog) 119 89 Tryz.underlying119 info109 d2 l2 xs.length (by omega) (by omega)
  have hyl : ((bs.take xs.length).drop 1).length = xs.length - 1 := by rw [List.length_drop, List.length_take]; omega
  have hry : r ≤ ((bs.take xs.length).drop 1).length := by omega
  have hlt' : ∀ i : Nat, i < r → rd ((bs.take xs.length).drop 1) (i : Int) ≤ x0 := by intro i hi; rw [rd_cut bs xs.length i (by omega)]; exact hlt i hi
  have hge' : ∀ i : Nat, r ≤ i → i < ((bs.take xs.length).drop 1).length → x0 < rd ((bs.take xs.length).drop 1) (i : Int) := by intro i hi hj; rw [rd_cut bs xs.length i (by omega)]; exact hge i hi (by omega)
  have hyn : ((bs.take xs.length).drop 1).length ≤ 1000 := by omega
  clear hlt hge hyl
  have h0 : (0 : Int) ≤ (r : Int) := by omega
  have h1 : (r : Int) < (xs.length : Int) := by omega
  have h2 : (r : Int) < (bs.length : Int) := by omega
  obtain ⟨ad1, q1, x9⟩ := Kd.at_int d1 (r : Int) h0 h1
  obtain ⟨ad2, q2, x8⟩ := Kd.at_int d2 (r : Int) h0 h2
  subst q1 q2
  clear d1 d2 hl
  simp only [Int.toNat_natCast] at x9 x8
  have HCUT := Aside0.mk hcut
  have DCUT := Aside0.mk dcut
  have HLT := Aside0.mk hlt'
  have HGE := Aside0.mk hge'
  have HRY := Aside0.mk hry
  have HYN := Aside0.mk hyn
  have E1 := Aside0.mk e1
  have E2 := Aside0.mk e2
  have X1 := Aside0.mk x9
  have X2 := Aside0.mk x8
  clear hcut dcut hlt' hge' hry hyn e1 e2 x8 x9
  replace h0 := eq_true h0
  replace h1 := eq_true h1
  replace h2 := eq_true h2
  generalize hY : ((bs.take xs.length).drop 1) = ys at *
  clear hY
  go_enter Tryz.func47, Tryz.ntmps47
  go_wp2_with (first | ((with_reducible refine gate_dst (N := 3) rfl ?_); refine bx_ 3 #[.int .i64 x0, .int .i64 x1, .int .i64 x2] 77 ?_; intro ga hg w1 hbox hb; have GEga := ge_ hg HB; replace hb := nb_ HB hb; replace HB := bs_ HB hb; have BKga := Aside0.mk hbox; clear hb hbox hg) | ((with_reducible refine gate_dst (N := 4) rfl ?_); refine bx_ 4 #[.int .i64 0, .int .i64 0, .int .i64 0] 86 ?_; intro gb hg w2 hbox hb; have GEgb := ge_ hg HB; have NEga_gb := ne_ hg BKga; replace hb := nb_ HB hb; replace BKga := kb_ BKga hb; replace HB := bs_ HB hb; have BKgb := Aside0.mk hbox; clear hb hbox hg))
  have hcut := HCUT.out
  replace BKga := kd_ BKga
  replace BKgb := kd_ BKgb
  replace HB := bd_ HB
  refine sM_ [] (fun w' => w'.cell? ⟨g, 0, none⟩ = some (.slice (some ad1) xs.length c1) ∧ w'.cell? ⟨g, 1, none⟩ = some (.slice (some ad2) bs.length c2) ∧ (w'.cell? ⟨ga, 0, none⟩ = some (.int .i64 x0) ∧ w'.cell? ⟨ga, 1, none⟩ = some (.int .i64 x1) ∧ w'.cell? ⟨ga, 2, none⟩ = some (.int .i64 x2))) minute_find.tab1 minute_find.bits1 ⟨pw_cell_below HB.out E1.out, pw_cell_below HB.out E2.out, c3_ BKga⟩ (fun hHeld HT_ HW_ => ?_)
  generalize w2.drew = w3 at BKga BKgb HB hHeld ⊢
  refine pM_ HT_ 0 8 1 ?_
  refine pM_ HT_ 1 9 3 ?_
  refine pM_ HT_ 2 10 7 ?_
  refine pM_ HT_ 4 12 23 ?_
  refine pM_ HT_ 5 13 55 ?_
  refine pM_ HT_ 6 14 119 ?_
  refine tM_ HT_ HW_ hHeld 3 11 127 ?_
  refine tM_ HT_ HW_ hHeld 7 15 255 ?_
  refine pM_ HT_ 8 16 511 ?_
  refine pM_ HT_ 9 17 1023 ?_
  refine tM_ HT_ HW_ hHeld 10 18 2047 ?_
  refine pM_ HT_ 11 19 4095 ?_
  refine oM_ HT_ 12 (some 20) 8191 (fun K hK => ?_)
  refine gM_ Tryz.func79 (minute_reached.calls A' c' ys x0 x1 x2 r _ (Kd.C_below DCUT.out HB.out) HYN.out HRY.out HLT.out HGE.out) ?_
  rintro e w4 ⟨rfl, hb⟩
  refine ⟨_, rfl, ?_⟩
  replace hb := nb_ HB hb
  replace BKga := kb_ BKga hb
  replace BKgb := kb_ BKgb hb
  replace HB := bs_ HB hb
  (try clear hb)
  refine hK.out _ _ ⟨pw_cell_below HB.out E1.out, pw_cell_below HB.out E2.out, c3_ BKga⟩ (fun hHeld => ?_)
  clear hK K
  refine nM_ ?_
  refine pM_ HT_ 13 5 16383 ?_
  refine dM_ HT_ ?_
  clear hcut
  have e1 := pw_cell_below HB.out E1.out
  have x9 := pw_cell_below HB.out X1.out
  try go_wp2
  clear e1 x9
  replace BKga := kd_ BKga
  replace BKgb := kd_ BKgb
  replace HB := bd_ HB
  refine sM_ [11] (fun w' => w'.cell? ⟨g, 1, none⟩ = some (.slice (some ad2) bs.length c2) ∧ w'.cell? (ad2.add r) = some (.int .i64 (rd bs (r : Int))) ∧ (w'.cell? ⟨ga, 0, none⟩ = some (.int .i64 x0) ∧ w'.cell? ⟨ga, 1, none⟩ = some (.int .i64 x1) ∧ w'.cell? ⟨ga, 2, none⟩ = some (.int .i64 x2))) minute_find.tab3 minute_find.bits3 ⟨pw_cell_below HB.out E2.out, pw_cell_below HB.out X2.out, c3_ BKga⟩ (fun hHeld HT_ HW_ => ?_)
  generalize w4.drew = w5 at BKga BKgb HB hHeld ⊢
  refine pM_ HT_ 1 29 2 ?_
  refine pM_ HT_ 2 30 6 ?_
  refine pM_ HT_ 3 31 14 ?_
  refine pM_ HT_ 5 33 46 ?_
  refine tM_ HT_ HW_ hHeld 0 28 47 ?_
  refine tM_ HT_ HW_ hHeld 4 32 63 ?_
  refine pM_ HT_ 6 34 127 ?_
  refine tM_ HT_ HW_ hHeld 7 35 255 ?_
  refine pM_ HT_ 8 36 511 ?_
  refine twM_ HT_ 9 (some 37) 1023 10 (some 7) 1535 (fun K hK => ?_) (fun K hK => ?_)
  · refine gM_ Tryz.func44 (vessel_exact_plus.calls x0 x1 x2 (wrap64 (-(rd bs (r : Int)))) _ _ _ _ rfl) ?_
    rintro e w6 ⟨rfl, hb⟩
    refine ⟨_, rfl, ?_⟩
    replace hb := nb_ HB hb
    replace BKga := kb_ BKga hb
    replace BKgb := kb_ BKgb hb
    replace HB := bs_ HB hb
    (try clear hb)
    refine hK.out _ _ ⟨pw_cell_below HB.out E2.out, pw_cell_below HB.out X2.out, c3_ BKga⟩ (fun hHeld => ?_)
    clear hK K
    refine nM_ ?_
    refine oM_ HT_ 10 (some 7) 2047 (fun K hK => ?_)
    refine bs2_ 7 #[.int .i64 0, .int .i64 0, .int .i64 0] 77 ?_
    intro gc hg w7 hbox hb
    have GEgc := ge_ hg HB
    have NEga_gc := ne_ hg BKga
    have NEgb_gc := ne_ hg BKgb
    replace hb := nb_ HB hb
    replace BKga := kb_ BKga hb
    replace BKgb := kb_ BKgb hb
    replace HB := bs_ HB hb
    have BKgc := Aside0.mk hbox
    clear hb hbox hg
    refine hK.out _ _ ⟨pw_cell_below HB.out E2.out, pw_cell_below HB.out X2.out, c3_ BKga⟩ (fun hHeld => ?_)
    clear hK K
    refine nM_ ?_
    refine lM_ HT_ 11 none 4095 (fun K hK => ?_)
    have hc_ := cf3_ BKgc
    refine sk3_ ?_
    intro ws_ hp_
    clear hc_
    refine hK.out _ _ ?_
    clear hK K
    refine dM_ HT_ ?_
    replace BKga := pf3_ NEga_gc BKga hp_
    replace BKgb := pf3_ NEgb_gc BKgb hp_
    replace BKgc := pp3_ BKgc hp_
    replace HB := pb3_ GEgc HB hp_
    clear hp_
    generalize ws_ = w8 at BKga BKgb BKgc HB ⊢
    clear ws_
    have o0 := (blk_cell BKgc.out 0).trans rfl
    have o1 := (blk_cell BKgc.out 1).trans rfl
    have o2 := (blk_cell BKgc.out 2).trans rfl
    have z0 := (blk_cell BKgb.out 0).trans rfl
    have z1 := (blk_cell BKgb.out 1).trans rfl
    have z2 := (blk_cell BKgb.out 2).trans rfl
    have y0 := blk_frozen BKgb.out 0
    have y1 := blk_frozen BKgb.out 1
    have y2 := blk_frozen BKgb.out 2
    try go_wp2
    refine bodyPost_ret (results_cell_row rfl _ _ gb 86 #[.int .i64 r, .int .i64 (wrap64 (wrap64 (wrap64 (x0 + wrap64 (-(rd bs (r : Int)))) * x2) + x1)), .int .i64 (wrap64 (x2 * rd xs (r : Int)))] (0, 0) _ rfl (by (with_reducible repeat (first | refine blk_drewN ?_ _ | refine blk_drew ?_ | refine blk_alloc ?_ _)); refine blk_put (cs := #[.int .i64 r, .int .i64 (wrap64 (wrap64 (wrap64 (x0 + wrap64 (-(rd bs (r : Int)))) * x2) + x1)), .int .i64 0]) ?_ 2 _ rfl; (with_reducible repeat (first | refine blk_drewN ?_ _ | refine blk_drew ?_ | refine blk_alloc ?_ _)); refine blk_put (cs := #[.int .i64 r, .int .i64 0, .int .i64 0]) ?_ 1 _ rfl; (with_reducible repeat (first | refine blk_drewN ?_ _ | refine blk_drew ?_ | refine blk_alloc ?_ _)); refine blk_put (cs := #[.int .i64 0, .int .i64 0, .int .i64 0]) ?_ 0 _ rfl; (with_reducible repeat (first | refine blk_drewN ?_ _ | refine blk_drew ?_ | refine blk_alloc ?_ _)); exact BKgb.out) Tryz.underlying86 rfl (by kernel_rfl)) rfl ?_
    exact ⟨by first | rfl | (simp <;> rfl), (by repeat (first | (with_reducible first | exact HB.out | apply below_alloc | apply pw_below_drewN | apply below_drew1 | refine below_set ?_ GEga.out | refine below_set ?_ GEgb.out | refine below_set ?_ GEgc.out) | exact HB.out))⟩
  · refine bs2_ 7 #[.int .i64 0, .int .i64 0, .int .i64 0] 77 ?_
    intro gc hg w7 hbox hb
    have GEgc := ge_ hg HB
    have NEga_gc := ne_ hg BKga
    have NEgb_gc := ne_ hg BKgb
    replace hb := nb_ HB hb
    replace BKga := kb_ BKga hb
    replace BKgb := kb_ BKgb hb
    replace HB := bs_ HB hb
    have BKgc := Aside0.mk hbox
    clear hb hbox hg
    refine hK.out _ _ ⟨pw_cell_below HB.out E2.out, pw_cell_below HB.out X2.out, c3_ BKga⟩ (fun hHeld => ?_)
    clear hK K
    refine nM_ ?_
    refine oM_ HT_ 9 (some 37) 2047 (fun K hK => ?_)
    refine gM_ Tryz.func44 (vessel_exact_plus.calls x0 x1 x2 (wrap64 (-(rd bs (r : Int)))) _ _ _ _ rfl) ?_
    rintro e w6 ⟨rfl, hb⟩
    refine ⟨_, rfl, ?_⟩
    replace hb := nb_ HB hb
    replace BKga := kb_ BKga hb
    replace BKgb := kb_ BKgb hb
    replace BKgc := kb_ BKgc hb
    replace HB := bs_ HB hb
    (try clear hb)
    refine hK.out _ _ ⟨pw_cell_below HB.out E2.out, pw_cell_below HB.out X2.out, c3_ BKga⟩ (fun hHeld => ?_)
    clear hK K
    refine nM_ ?_
    refine lM_ HT_ 11 none 4095 (fun K hK => ?_)
    have hc_ := cf3_ BKgc
    refine sk3_ ?_
    intro ws_ hp_
    clear hc_
    refine hK.out _ _ ?_
    clear hK K
    refine dM_ HT_ ?_
    replace BKga := pf3_ NEga_gc BKga hp_
    replace BKgb := pf3_ NEgb_gc BKgb hp_
    replace BKgc := pp3_ BKgc hp_
    replace HB := pb3_ GEgc HB hp_
    clear hp_
    generalize ws_ = w8 at BKga BKgb BKgc HB ⊢
    clear ws_
    have o0 := (blk_cell BKgc.out 0).trans rfl
    have o1 := (blk_cell BKgc.out 1).trans rfl
    have o2 := (blk_cell BKgc.out 2).trans rfl
    have z0 := (blk_cell BKgb.out 0).trans rfl
    have z1 := (blk_cell BKgb.out 1).trans rfl
    have z2 := (blk_cell BKgb.out 2).trans rfl
    have y0 := blk_frozen BKgb.out 0
    have y1 := blk_frozen BKgb.out 1
    have y2 := blk_frozen BKgb.out 2
    try go_wp2
    refine bodyPost_ret (results_cell_row rfl _ _ gb 86 #[.int .i64 r, .int .i64 (wrap64 (wrap64 (wrap64 (x0 + wrap64 (-(rd bs (r : Int)))) * x2) + x1)), .int .i64 (wrap64 (x2 * rd xs (r : Int)))] (0, 0) _ rfl (by (with_reducible repeat (first | refine blk_drewN ?_ _ | refine blk_drew ?_ | refine blk_alloc ?_ _)); refine blk_put (cs := #[.int .i64 r, .int .i64 (wrap64 (wrap64 (wrap64 (x0 + wrap64 (-(rd bs (r : Int)))) * x2) + x1)), .int .i64 0]) ?_ 2 _ rfl; (with_reducible repeat (first | refine blk_drewN ?_ _ | refine blk_drew ?_ | refine blk_alloc ?_ _)); refine blk_put (cs := #[.int .i64 r, .int .i64 0, .int .i64 0]) ?_ 1 _ rfl; (with_reducible repeat (first | refine blk_drewN ?_ _ | refine blk_drew ?_ | refine blk_alloc ?_ _)); refine blk_put (cs := #[.int .i64 0, .int .i64 0, .int .i64 0]) ?_ 0 _ rfl; (with_reducible repeat (first | refine blk_drewN ?_ _ | refine blk_drew ?_ | refine blk_alloc ?_ _)); exact BKgb.out) Tryz.underlying86 rfl (by kernel_rfl)) rfl ?_
    exact ⟨by first | rfl | (simp <;> rfl), (by repeat (first | (with_reducible first | exact HB.out | apply below_alloc | apply pw_below_drewN | apply below_drew1 | refine below_set ?_ GEga.out | refine below_set ?_ GEgb.out | refine below_set ?_ GEgc.out) | exact HB.out))⟩
theorem info115 : (Tryz.prog.info? 94).map (fun i => (i.zero, i.size, i.bytes)) = some (some (.int .i64 0), 1, 8) := by kernel_rfl
def volume_find.T1 : Bool × List (List Nat × List Nat) := (true, [([], []), ([0], [0]), ([1], [1]), ([2], [2]), ([], []), ([4], [4]), ([5], [5]), ([6], [6]), ([7], [7]), ([3, 8], [3, 8]), ([], []), ([10], [10]), ([9, 11], [9, 11]), ([12, 12, 0, 1, 2, 3, 4, 5, 6, 7, 8, 9, 10, 11, 12], [12])])
def volume_find.B1 : List Nat := [0, 1, 3, 7, 0, 16, 48, 112, 240, 511, 0, 1024, 4095, 8191]
theorem volume_find.tab1 : rtab .any (opsOf Tryz.f53 1) = volume_find.T1 := by kernel_rfl
theorem volume_find.bits1 : waitsOk volume_find.T1.2 volume_find.B1 = true := by kernel_rfl
def volume_find.T3 : Bool × List (List Nat × List Nat) := (true, [([], []), ([], []), ([1], [1]), ([2], [2]), ([3], [3]), ([], []), ([4, 5], [4, 5]), ([6], [6]), ([7], [7]), ([0, 8], [0, 8]), ([], []), ([10, 9, 9, 0, 1, 2, 3, 4, 5, 6, 7, 8, 9, 10], [9, 10])])
def volume_find.B3 : List Nat := [0, 0, 2, 6, 14, 0, 62, 126, 254, 511, 0, 2047]
theorem volume_find.tab3 : rtab .any (opsOf Tryz.f53 3) = volume_find.T3 := by kernel_rfl
theorem volume_find.bits3 : waitsOk volume_find.T3.2 volume_find.B3 = true := by kernel_rfl
set_option maxHeartbeats 1600000 in
set_option maxRecDepth 100000 in
theorem volume_find.calls (g : Nat) (xs bs : List Int) (x0 x1 x2 : Int) (r : Nat) (w : World) (hs : Sc w g xs bs) (hn : xs.length ≤ 1000) (hl : bs.length = xs.length + 1) (hr : r < xs.length) (hlt : ∀ i : Nat, i < r → rd bs ((i : Int) + 1) ≤ x0) (hge : ∀ i : Nat, r ≤ i → i + 1 < xs.length → x0 < rd bs ((i : Int) + 1)) :
    Calls Tryz.prog 53 #[.pointer (some ⟨g, 0, none⟩), .agg #[.int .i64 x0, .int .i64 x1, .int .i64 x2]] w fun e w' => e = .returned (.agg #[.int .i64 r, .int .i64 (wrap64 (wrap64 (wrap64 (x0 + wrap64 (-(rd bs (r : Int)))) * x2) + x1)), .int .i64 (wrap64 (x2 * rd xs (r : Int)))]) ∧ Below w.heap.size w w' := by
  have hu90 := Tryz.underlying77
  have hu105 := Tryz.underlying86
  have HB := Aside0.mk (Below.refl w.heap.size w)
  obtain ⟨a1, a2, c1, c2, e1, e2, d1, d2, l1, l2⟩ := hs
  obtain ⟨A', c', hcut, dcut⟩ := cut_sums (P := Tryz.prog) 123 94 Tryz.underlying123 info115 d2 l2 xs.length (by omega) (by omega)
  have hyl : ((bs.take xs.length).drop 1).length = xs.length - 1 := by rw [List.length_drop, List.length_take]; omega
  have hry : r ≤ ((bs.take xs.length).drop 1).length := by omega
  have hlt' : ∀ i : Nat, i < r → rd ((bs.take xs.length).drop 1) (i : Int) ≤ x0 := by intro i hi; rw [rd_cut bs xs.length i (by omega)]; exact hlt i hi
  have hge' : ∀ i : Nat, r ≤ i → i < ((bs.take xs.length).drop 1).length → x0 < rd ((bs.take xs.length).drop 1) (i : Int) := by intro i hi hj; rw [rd_cut bs xs.length i (by omega)]; exact hge i hi (by omega)
  have hyn : ((bs.take xs.length).drop 1).length ≤ 1000 := by omega
  clear hlt hge hyl
  have h0 : (0 : Int) ≤ (r : Int) := by omega
  have h1 : (r : Int) < (xs.length : Int) := by omega
  have h2 : (r : Int) < (bs.length : Int) := by omega
  obtain ⟨ad1, q1, x9⟩ := Kd.at_int d1 (r : Int) h0 h1
  obtain ⟨ad2, q2, x8⟩ := Kd.at_int d2 (r : Int) h0 h2
  subst q1 q2
  clear d1 d2 hl
  simp only [Int.toNat_natCast] at x9 x8
  have HCUT := Aside0.mk hcut
  have DCUT := Aside0.mk dcut
  have HLT := Aside0.mk hlt'
  have HGE := Aside0.mk hge'
  have HRY := Aside0.mk hry
  have HYN := Aside0.mk hyn
  have E1 := Aside0.mk e1
  have E2 := Aside0.mk e2
  have X1 := Aside0.mk x9
  have X2 := Aside0.mk x8
  clear hcut dcut hlt' hge' hry hyn e1 e2 x8 x9
  replace h0 := eq_true h0
  replace h1 := eq_true h1
  replace h2 := eq_true h2
  generalize hY : ((bs.take xs.length).drop 1) = ys at *
  clear hY
  go_enter Tryz.func53, Tryz.ntmps53
  go_wp2_with (first | ((with_reducible refine gate_dst (N := 3) rfl ?_); refine bx_ 3 #[.int .i64 x0, .int .i64 x1, .int .i64 x2] 77 ?_; intro ga hg w1 hbox hb; have GEga := ge_ hg HB; replace hb := nb_ HB hb; replace HB := bs_ HB hb; have BKga := Aside0.mk hbox; clear hb hbox hg) | ((with_reducible refine gate_dst (N := 4) rfl ?_); refine bx_ 4 #[.int .i64 0, .int .i64 0, .int .i64 0] 86 ?_; intro gb hg w2 hbox hb; have GEgb := ge_ hg HB; have NEga_gb := ne_ hg BKga; replace hb := nb_ HB hb; replace BKga := kb_ BKga hb; replace HB := bs_ HB hb; have BKgb := Aside0.mk hbox; clear hb hbox hg))
  have hcut := HCUT.out
  replace BKga := kd_ BKga
  replace BKgb := kd_ BKgb
  replace HB := bd_ HB
  refine sM_ [] (fun w' => w'.cell? ⟨g, 0, none⟩ = some (.slice (some ad1) xs.length c1) ∧ w'.cell? ⟨g, 1, none⟩ = some (.slice (some ad2) bs.length c2) ∧ (w'.cell? ⟨ga, 0, none⟩ = some (.int .i64 x0) ∧ w'.cell? ⟨ga, 1, none⟩ = some (.int .i64 x1) ∧ w'.cell? ⟨ga, 2, none⟩ = some (.int .i64 x2))) volume_find.tab1 volume_find.bits1 ⟨pw_cell_below HB.out E1.out, pw_cell_below HB.out E2.out, c3_ BKga⟩ (fun hHeld HT_ HW_ => ?_)
  generalize w2.drew = w3 at BKga BKgb HB hHeld ⊢
  refine pM_ HT_ 0 8 1 ?_
  refine pM_ HT_ 1 9 3 ?_
  refine pM_ HT_ 2 10 7 ?_
  refine pM_ HT_ 4 12 23 ?_
  refine pM_ HT_ 5 13 55 ?_
  refine pM_ HT_ 6 14 119 ?_
  refine tM_ HT_ HW_ hHeld 3 11 127 ?_
  refine tM_ HT_ HW_ hHeld 7 15 255 ?_
  refine pM_ HT_ 8 16 511 ?_
  refine pM_ HT_ 9 17 1023 ?_
  refine tM_ HT_ HW_ hHeld 10 18 2047 ?_
  refine pM_ HT_ 11 19 4095 ?_
  refine oM_ HT_ 12 (some 20) 8191 (fun K hK => ?_)
  refine gM_ Tryz.func81 (volume_reached.calls A' c' ys x0 x1 x2 r _ (Kd.C_below DCUT.out HB.out) HYN.out HRY.out HLT.out HGE.out) ?_
  rintro e w4 ⟨rfl, hb⟩
  refine ⟨_, rfl, ?_⟩
  replace hb := nb_ HB hb
  replace BKga := kb_ BKga hb
  replace BKgb := kb_ BKgb hb
  replace HB := bs_ HB hb
  (try clear hb)
  refine hK.out _ _ ⟨pw_cell_below HB.out E1.out, pw_cell_below HB.out E2.out, c3_ BKga⟩ (fun hHeld => ?_)
  clear hK K
  refine nM_ ?_
  refine pM_ HT_ 13 5 16383 ?_
  refine dM_ HT_ ?_
  clear hcut
  have e1 := pw_cell_below HB.out E1.out
  have x9 := pw_cell_below HB.out X1.out
  try go_wp2
  clear e1 x9
  replace BKga := kd_ BKga
  replace BKgb := kd_ BKgb
  replace HB := bd_ HB
  refine sM_ [11] (fun w' => w'.cell? ⟨g, 1, none⟩ = some (.slice (some ad2) bs.length c2) ∧ w'.cell? (ad2.add r) = some (.int .i64 (rd bs (r : Int))) ∧ (w'.cell? ⟨ga, 0, none⟩ = some (.int .i64 x0) ∧ w'.cell? ⟨ga, 1, none⟩ = some (.int .i64 x1) ∧ w'.cell? ⟨ga, 2, none⟩ = some (.int .i64 x2))) volume_find.tab3 volume_find.bits3 ⟨pw_cell_below HB.out E2.out, pw_cell_below HB.out X2.out, c3_ BKga⟩ (fun hHeld HT_ HW_ => ?_)
  generalize w4.drew = w5 at BKga BKgb HB hHeld ⊢
  refine pM_ HT_ 1 29 2 ?_
  refine pM_ HT_ 2 30 6 ?_
  refine pM_ HT_ 3 31 14 ?_
  refine pM_ HT_ 5 33 46 ?_
  refine tM_ HT_ HW_ hHeld 0 28 47 ?_
  refine tM_ HT_ HW_ hHeld 4 32 63 ?_
  refine pM_ HT_ 6 34 127 ?_
  refine tM_ HT_ HW_ hHeld 7 35 255 ?_
  refine pM_ HT_ 8 36 511 ?_
  refine twM_ HT_ 9 (some 37) 1023 10 (some 7) 1535 (fun K hK => ?_) (fun K hK => ?_)
  · refine gM_ Tryz.func44 (vessel_exact_plus.calls x0 x1 x2 (wrap64 (-(rd bs (r : Int)))) _ _ _ _ rfl) ?_
    rintro e w6 ⟨rfl, hb⟩
    refine ⟨_, rfl, ?_⟩
    replace hb := nb_ HB hb
    replace BKga := kb_ BKga hb
    replace BKgb := kb_ BKgb hb
    replace HB := bs_ HB hb
    (try clear hb)
    refine hK.out _ _ ⟨pw_cell_below HB.out E2.out, pw_cell_below HB.out X2.out, c3_ BKga⟩ (fun hHeld => ?_)
    clear hK K
    refine nM_ ?_
    refine oM_ HT_ 10 (some 7) 2047 (fun K hK => ?_)
    refine bs2_ 7 #[.int .i64 0, .int .i64 0, .int .i64 0] 77 ?_
    intro gc hg w7 hbox hb
    have GEgc := ge_ hg HB
    have NEga_gc := ne_ hg BKga
    have NEgb_gc := ne_ hg BKgb
    replace hb := nb_ HB hb
    replace BKga := kb_ BKga hb
    replace BKgb := kb_ BKgb hb
    replace HB := bs_ HB hb
    have BKgc := Aside0.mk hbox
    clear hb hbox hg
    refine hK.out _ _ ⟨pw_cell_below HB.out E2.out, pw_cell_below HB.out X2.out, c3_ BKga⟩ (fun hHeld => ?_)
    clear hK K
    refine nM_ ?_
    refine lM_ HT_ 11 none 4095 (fun K hK => ?_)
    have hc_ := cf3_ BKgc
    refine sk3_ ?_
    intro ws_ hp_
    clear hc_
    refine hK.out _ _ ?_
    clear hK K
    refine dM_ HT_ ?_
    replace BKga := pf3_ NEga_gc BKga hp_
    replace BKgb := pf3_ NEgb_gc BKgb hp_
    replace BKgc := pp3_ BKgc hp_
    replace HB := pb3_ GEgc HB hp_
    clear hp_
    generalize ws_ = w8 at BKga BKgb BKgc HB ⊢
    clear ws_
    have o0 := (blk_cell BKgc.out 0).trans rfl
    have o1 := (blk_cell BKgc.out 1).trans rfl
    have o2 := (blk_cell BKgc.out 2).trans rfl
    have z0 := (blk_cell BKgb.out 0).trans rfl
    have z1 := (blk_cell BKgb.out 1).trans rfl
    have z2 := (blk_cell BKgb.out 2).trans rfl
    have y0 := blk_frozen BKgb.out 0
    have y1 := blk_frozen BKgb.out 1
    have y2 := blk_frozen BKgb.out 2
    try go_wp2
    refine bodyPost_ret (results_cell_row rfl _ _ gb 86 #[.int .i64 r, .int .i64 (wrap64 (wrap64 (wrap64 (x0 + wrap64 (-(rd bs (r : Int)))) * x2) + x1)), .int .i64 (wrap64 (x2 * rd xs (r : Int)))] (0, 0) _ rfl (by (with_reducible repeat (first | refine blk_drewN ?_ _ | refine blk_drew ?_ | refine blk_alloc ?_ _)); refine blk_put (cs := #[.int .i64 r, .int .i64 (wrap64 (wrap64 (wrap64 (x0 + wrap64 (-(rd bs (r : Int)))) * x2) + x1)), .int .i64 0]) ?_ 2 _ rfl; (with_reducible repeat (first | refine blk_drewN ?_ _ | refine blk_drew ?_ | refine blk_alloc ?_ _)); refine blk_put (cs := #[.int .i64 r, .int .i64 0, .int .i64 0]) ?_ 1 _ rfl; (with_reducible repeat (first | refine blk_drewN ?_ _ | refine blk_drew ?_ | refine blk_alloc ?_ _)); refine blk_put (cs := #[.int .i64 0, .int .i64 0, .int .i64 0]) ?_ 0 _ rfl; (with_reducible repeat (first | refine blk_drewN ?_ _ | refine blk_drew ?_ | refine blk_alloc ?_ _)); exact BKgb.out) Tryz.underlying86 rfl (by kernel_rfl)) rfl ?_
    exact ⟨by first | rfl | (simp <;> rfl), (by repeat (first | (with_reducible first | exact HB.out | apply below_alloc | apply pw_below_drewN | apply below_drew1 | refine below_set ?_ GEga.out | refine below_set ?_ GEgb.out | refine below_set ?_ GEgc.out) | exact HB.out))⟩
  · refine bs2_ 7 #[.int .i64 0, .int .i64 0, .int .i64 0] 77 ?_
    intro gc hg w7 hbox hb
    have GEgc := ge_ hg HB
    have NEga_gc := ne_ hg BKga
    have NEgb_gc := ne_ hg BKgb
    replace hb := nb_ HB hb
    replace BKga := kb_ BKga hb
    replace BKgb := kb_ BKgb hb
    replace HB := bs_ HB hb
    have BKgc := Aside0.mk hbox
    clear hb hbox hg
    refine hK.out _ _ ⟨pw_cell_below HB.out E2.out, pw_cell_below HB.out X2.out, c3_ BKga⟩ (fun hHeld => ?_)
    clear hK K
    refine nM_ ?_
    refine oM_ HT_ 9 (some 37) 2047 (fun K hK => ?_)
    refine gM_ Tryz.func44 (vessel_exact_plus.calls x0 x1 x2 (wrap64 (-(rd bs (r : Int)))) _ _ _ _ rfl) ?_
    rintro e w6 ⟨rfl, hb⟩
    refine ⟨_, rfl, ?_⟩
    replace hb := nb_ HB hb
    replace BKga := kb_ BKga hb
    replace BKgb := kb_ BKgb hb
    replace BKgc := kb_ BKgc hb
    replace HB := bs_ HB hb
    (try clear hb)
    refine hK.out _ _ ⟨pw_cell_below HB.out E2.out, pw_cell_below HB.out X2.out, c3_ BKga⟩ (fun hHeld => ?_)
    clear hK K
    refine nM_ ?_
    refine lM_ HT_ 11 none 4095 (fun K hK => ?_)
    have hc_ := cf3_ BKgc
    refine sk3_ ?_
    intro ws_ hp_
    clear hc_
    refine hK.out _ _ ?_
    clear hK K
    refine dM_ HT_ ?_
    replace BKga := pf3_ NEga_gc BKga hp_
    replace BKgb := pf3_ NEgb_gc BKgb hp_
    replace BKgc := pp3_ BKgc hp_
    replace HB := pb3_ GEgc HB hp_
    clear hp_
    generalize ws_ = w8 at BKga BKgb BKgc HB ⊢
    clear ws_
    have o0 := (blk_cell BKgc.out 0).trans rfl
    have o1 := (blk_cell BKgc.out 1).trans rfl
    have o2 := (blk_cell BKgc.out 2).trans rfl
    have z0 := (blk_cell BKgb.out 0).trans rfl
    have z1 := (blk_cell BKgb.out 1).trans rfl
    have z2 := (blk_cell BKgb.out 2).trans rfl
    have y0 := blk_frozen BKgb.out 0
    have y1 := blk_frozen BKgb.out 1
    have y2 := blk_frozen BKgb.out 2
    try go_wp2
    refine bodyPost_ret (results_cell_row rfl _ _ gb 86 #[.int .i64 r, .int .i64 (wrap64 (wrap64 (wrap64 (x0 + wrap64 (-(rd bs (r : Int)))) * x2) + x1)), .int .i64 (wrap64 (x2 * rd xs (r : Int)))] (0, 0) _ rfl (by (with_reducible repeat (first | refine blk_drewN ?_ _ | refine blk_drew ?_ | refine blk_alloc ?_ _)); refine blk_put (cs := #[.int .i64 r, .int .i64 (wrap64 (wrap64 (wrap64 (x0 + wrap64 (-(rd bs (r : Int)))) * x2) + x1)), .int .i64 0]) ?_ 2 _ rfl; (with_reducible repeat (first | refine blk_drewN ?_ _ | refine blk_drew ?_ | refine blk_alloc ?_ _)); refine blk_put (cs := #[.int .i64 r, .int .i64 0, .int .i64 0]) ?_ 1 _ rfl; (with_reducible repeat (first | refine blk_drewN ?_ _ | refine blk_drew ?_ | refine blk_alloc ?_ _)); refine blk_put (cs := #[.int .i64 0, .int .i64 0, .int .i64 0]) ?_ 0 _ rfl; (with_reducible repeat (first | refine blk_drewN ?_ _ | refine blk_drew ?_ | refine blk_alloc ?_ _)); exact BKgb.out) Tryz.underlying86 rfl (by kernel_rfl)) rfl ?_
    exact ⟨by first | rfl | (simp <;> rfl), (by repeat (first | (with_reducible first | exact HB.out | apply below_alloc | apply pw_below_drewN | apply below_drew1 | refine below_set ?_ GEga.out | refine below_set ?_ GEgb.out | refine below_set ?_ GEgc.out) | exact HB.out))⟩
end Go.Proofs.YtlhfclpbodfmcaaGreatDoor.Pr
namespace Go.Proofs.YtlhfclpbodfmcaaGreatDoor.Pr
open Go.RowKit Go.Proofs.YtlhfclpbodfmcaaGreatDoorW.PrintWords Go.Proofs.YtlhfclpbodfmcaaGreatDoorW.PrintLast Go.Proofs.YtlhfclpbodfmcaaGreatDoorW.PrintMore
open Go.Proofs.YtlhfclpbodfmcaaGreatDoor.Vm
set_option linter.unusedVariables false
set_option linter.unusedSimpArgs false
set_option maxHeartbeats 1600000 in
set_option maxRecDepth 100000 in
theorem height_all.calls2 (g : Nat) (xs bs : List Int) (w : World) (hs : Sc w g xs bs) (hl : xs.length < bs.length) :
    Calls Tryz.prog 74 #[.pointer (some ⟨g, 0, none⟩)] w fun e w' => e = .returned (.int .i64 (rd bs (xs.length : Int))) ∧ Below w.heap.size w w' := by
  have HB := Aside0.mk (Below.refl w.heap.size w)
  obtain ⟨a1, a2, c1, c2, e1, e2, d1, d2, l1, l2⟩ := hs
  have h0 : (0 : Int) ≤ (xs.length : Int) := by omega
  have h2 : (xs.length : Int) < (bs.length : Int) := by omega
  obtain ⟨ad2, q2, x8⟩ := Kd.at_int d2 (xs.length : Int) h0 h2
  subst q2
  clear d1 d2 l1 l2
  simp only [Int.toNat_natCast] at x8
  replace h0 := eq_true h0
  replace h2 := eq_true h2
  go_enter Tryz.func74, Tryz.ntmps74
  go_wp2
  repeat (go_quiet (fail); try go_wp2)
  go_ret
  exact ⟨rfl, by repeat (first | (with_reducible first | exact HB.out | apply below_alloc | apply pw_below_drewN | apply below_drew1) | exact HB.out)⟩
set_option maxHeartbeats 1600000 in
set_option maxRecDepth 100000 in
theorem minute_all.calls2 (g : Nat) (xs bs : List Int) (w : World) (hs : Sc w g xs bs) (hl : xs.length < bs.length) :
    Calls Tryz.prog 46 #[.pointer (some ⟨g, 0, none⟩)] w fun e w' => e = .returned (.int .i64 (rd bs (xs.length : Int))) ∧ Below w.heap.size w w' := by
  have HB := Aside0.mk (Below.refl w.heap.size w)
  obtain ⟨a1, a2, c1, c2, e1, e2, d1, d2, l1, l2⟩ := hs
  have h0 : (0 : Int) ≤ (xs.length : Int) := by omega
  have h2 : (xs.length : Int) < (bs.length : Int) := by omega
  obtain ⟨ad2, q2, x8⟩ := Kd.at_int d2 (xs.length : Int) h0 h2
  subst q2
  clear d1 d2 l1 l2
  simp only [Int.toNat_natCast] at x8
  replace h0 := eq_true h0
  replace h2 := eq_true h2
  go_enter Tryz.func46, Tryz.ntmps46
  go_wp2
  repeat (go_quiet (fail); try go_wp2)
  go_ret
  exact ⟨rfl, by repeat (first | (with_reducible first | exact HB.out | apply below_alloc | apply pw_below_drewN | apply below_drew1) | exact HB.out)⟩
set_option maxHeartbeats 1600000 in
set_option maxRecDepth 100000 in
theorem volume_all.calls2 (g : Nat) (xs bs : List Int) (w : World) (hs : Sc w g xs bs) (hl : xs.length < bs.length) :
    Calls Tryz.prog 52 #[.pointer (some ⟨g, 0, none⟩)] w fun e w' => e = .returned (.int .i64 (rd bs (xs.length : Int))) ∧ Below w.heap.size w w' := by
  have HB := Aside0.mk (Below.refl w.heap.size w)
  obtain ⟨a1, a2, c1, c2, e1, e2, d1, d2, l1, l2⟩ := hs
  have h0 : (0 : Int) ≤ (xs.length : Int) := by omega
  have h2 : (xs.length : Int) < (bs.length : Int) := by omega
  obtain ⟨ad2, q2, x8⟩ := Kd.at_int d2 (xs.length : Int) h0 h2
  subst q2
  clear d1 d2 l1 l2
  simp only [Int.toNat_natCast] at x8
  replace h0 := eq_true h0
  replace h2 := eq_true h2
  go_enter Tryz.func52, Tryz.ntmps52
  go_wp2
  repeat (go_quiet (fail); try go_wp2)
  go_ret
  exact ⟨rfl, by repeat (first | (with_reducible first | exact HB.out | apply below_alloc | apply pw_below_drewN | apply below_drew1) | exact HB.out)⟩
end Go.Proofs.YtlhfclpbodfmcaaGreatDoor.Pr
