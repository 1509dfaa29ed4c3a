/- A part of the proof: ScA. -/
import Derived.Test.YtlhfclpbodfmcaaXKq
import Derived.Test.YtlhfclpbodfmcaaXPr6
import Derived.Test.YtlhfclpbodfmcaaXVm
namespace Go.Proofs.Ytlhfclpbodfmcaa.Pr
open Go.RowKit Go.Proofs.YtlhfclpbodfmcaaW.PrintWords Go.Proofs.YtlhfclpbodfmcaaW.PrintLast Go.Proofs.YtlhfclpbodfmcaaW.PrintMore
open Go.Proofs.Ytlhfclpbodfmcaa.Vm
set_option linter.unusedVariables false
set_option linter.unusedSimpArgs false
def height_at.T1 : Bool × List (List Nat × List Nat) := (true, [([], []), ([0], [0]), ([1], [1]), ([2], [2]), ([], []), ([4], [4]), ([3, 5], [3, 5]), ([6], [6]), ([], []), ([8], [8]), ([], []), ([10], [10]), ([11], [11]), ([12], [12]), ([], []), ([14], [14]), ([13, 15], [13, 15]), ([16], [16]), ([9, 17], [9, 17]), ([], []), ([19], [19]), ([7, 18, 20], [7, 18, 20]), ([21, 21, 0, 1, 2, 3, 4, 5, 6, 7, 8, 9, 10, 11, 12, 13, 14, 15, 16, 17, 18, 19, 20, 21], [21])])
def height_at.B1 : List Nat := [0, 1, 3, 7, 0, 16, 63, 127, 0, 256, 0, 1024, 3072, 7168, 0, 16384, 64512, 130048, 261888, 0, 524288, 2097151, 4194303]
theorem height_at.tab1 : rtab .any (opsOf Try.f82 1) = height_at.T1 := by kernel_rfl
theorem height_at.bits1 : waitsOk height_at.T1.2 height_at.B1 = true := by kernel_rfl
set_option maxHeartbeats 1600000 in
set_option maxRecDepth 100000 in
theorem height_at.calls (k : Nat) (g : Nat) (xs bs : List Int) (p0 p1 p2 r1 r2 r3 : Int) (w : World) (hs : Sc w g xs bs) (h0 : 0 ≤ p0) (h1 : p0 < xs.length) (h2 : p0 < bs.length) (h : vessel_of.f k (rd bs p0) (wrap64 (p1 * rd xs p0)) p2 = some (r1, r2, r3)) :
    Calls Try.prog 82 #[.pointer (some ⟨g, 0, none⟩), .agg #[.int .i64 p0, .int .i64 p1, .int .i64 p2]] w fun e w' => e = .returned (.agg #[.int .i64 r1, .int .i64 r2, .int .i64 r3]) ∧ Below w.heap.size w w' := by
  have hu90 := Try.underlying90
  have hu105 := Try.underlying105
  have HB := Aside0.mk (Below.refl w.heap.size w)
  obtain ⟨a1, a2, c1, c2, e1, e2, d1, d2, l1, l2⟩ := hs
  obtain ⟨ad1, q1, x1⟩ := Kd.at_int d1 p0 h0 h1
  obtain ⟨ad2, q2, x2⟩ := Kd.at_int d2 p0 h0 h2
  subst q1 q2
  clear d1 d2
  have H := Aside0.mk h
  have E1 := Aside0.mk e1
  have E2 := Aside0.mk e2
  have X1 := Aside0.mk x1
  have X2 := Aside0.mk x2
  clear h e1 e2 x1 x2
  replace h0 := eq_true h0
  replace h1 := eq_true h1
  replace h2 := eq_true h2
  go_enter Try.func82, Try.ntmps82
  go_wp2_with (first | ((with_reducible refine gate_dst (N := 3) rfl ?_); refine bx_ 3 #[.int .i64 p0, .int .i64 p1, .int .i64 p2] 105 ?_; intro ga hg w1 hbox hb; have GEga := ge_ hg HB; replace hb := nb_ HB hb; replace HB := bs_ HB hb; have BKga := Aside0.mk hbox; clear hb hbox hg) | ((with_reducible refine gate_dst (N := 4) rfl ?_); refine bx_ 4 #[.int .i64 0, .int .i64 0, .int .i64 0] 90 ?_; intro gb hg w2 hbox hb; have GEgb := ge_ hg HB; have NEga_gb := ne_ hg BKga; replace hb := nb_ HB hb; replace BKga := kb_ BKga hb; replace HB := bs_ HB hb; have BKgb := Aside0.mk hbox; clear hb hbox hg))
  replace BKga := kd_ BKga
  replace BKgb := kd_ BKgb
  replace HB := bd_ HB
  refine sM_ [22] (fun w' => w'.cell? ⟨g, 0, none⟩ = some (.slice (some ad1) xs.length c1) ∧ w'.cell? ⟨g, 1, none⟩ = some (.slice (some ad2) bs.length c2) ∧ w'.cell? (ad1.add p0.toNat) = some (.int .i64 (rd xs p0)) ∧ w'.cell? (ad2.add p0.toNat) = some (.int .i64 (rd bs p0)) ∧ (w'.cell? ⟨ga, 0, none⟩ = some (.int .i64 p0) ∧ w'.cell? ⟨ga, 1, none⟩ = some (.int .i64 p1) ∧ w'.cell? ⟨ga, 2, none⟩ = some (.int .i64 p2))) height_at.tab1 height_at.bits1 ⟨pw_cell_below HB.out E1.out, pw_cell_below HB.out E2.out, pw_cell_below HB.out X1.out, pw_cell_below HB.out X2.out, c3_ BKga⟩ (fun hHeld HT_ HW_ => ?_)
  generalize w2.drew = w3 at BKga BKgb HB hHeld ⊢
  refine pM_ HT_ 0 5 1 ?_
  refine pM_ HT_ 1 6 3 ?_
  refine pM_ HT_ 2 7 7 ?_
  refine pM_ HT_ 4 9 23 ?_
  refine pM_ HT_ 8 13 279 ?_
  refine pM_ HT_ 10 15 1303 ?_
  refine pM_ HT_ 11 16 3351 ?_
  refine pM_ HT_ 12 17 7447 ?_
  refine pM_ HT_ 14 19 23831 ?_
  refine pM_ HT_ 19 24 548119 ?_
  refine tM_ HT_ HW_ hHeld 3 8 548127 ?_
  refine tM_ HT_ HW_ hHeld 5 10 548159 ?_
  refine pM_ HT_ 6 11 548223 ?_
  refine tM_ HT_ HW_ hHeld 7 12 548351 ?_
  refine tM_ HT_ HW_ hHeld 9 14 548863 ?_
  refine tM_ HT_ HW_ hHeld 13 18 557055 ?_
  refine tM_ HT_ HW_ hHeld 15 20 589823 ?_
  refine pM_ HT_ 16 21 655359 ?_
  refine tM_ HT_ HW_ hHeld 17 22 786431 ?_
  refine pM_ HT_ 18 23 1048575 ?_
  refine tM_ HT_ HW_ hHeld 20 25 2097151 ?_
  refine oM_ HT_ 21 (some 26) 4194303 (fun K hK => ?_)
  refine gM_ Try.func120 (vessel_of.calls k _ _ _ r1 r2 r3 _ H.out) ?_
  rintro e w4 ⟨rfl, hb⟩
  refine ⟨_, rfl, ?_⟩
  replace hb := nb_ HB hb
  replace BKga := kb_ BKga hb
  replace BKgb := kb_ BKgb hb
  replace HB := bs_ HB hb
  (try clear hb)
  refine hK.out _ _ ⟨pw_cell_below HB.out E1.out, pw_cell_below HB.out E2.out, pw_cell_below HB.out X1.out, pw_cell_below HB.out X2.out, c3_ BKga⟩ (fun hHeld => ?_)
  clear hK K
  refine nM_ ?_
  refine lM_ HT_ 22 none 8388607 (fun K hK => ?_)
  have hc_ := cf3_ BKgb
  refine sk3_ ?_
  intro ws_ hp_
  clear hc_
  refine hK.out _ _ ?_
  clear hK K
  refine dM_ HT_ ?_
  try go_wp2
  refine bodyPost_ret (results_cell_row rfl _ _ gb 90 #[.int .i64 r1, .int .i64 r2, .int .i64 r3] (0, 0) _ rfl (pp3_ BKgb hp_).out Try.underlying90 rfl (by kernel_rfl)) rfl ?_
  exact ⟨by first | rfl | (simp <;> rfl), (pb3_ GEgb HB hp_).out⟩
def minute_at.T1 : Bool × List (List Nat × List Nat) := (true, [([], []), ([0], [0]), ([1], [1]), ([2], [2]), ([], []), ([4], [4]), ([3, 5], [3, 5]), ([6], [6]), ([], []), ([8], [8]), ([], []), ([10], [10]), ([11], [11]), ([12], [12]), ([], []), ([14], [14]), ([13, 15], [13, 15]), ([16], [16]), ([9, 17], [9, 17]), ([], []), ([19], [19]), ([7, 18, 20], [7, 18, 20]), ([21, 21, 0, 1, 2, 3, 4, 5, 6, 7, 8, 9, 10, 11, 12, 13, 14, 15, 16, 17, 18, 19, 20, 21], [21])])
def minute_at.B1 : List Nat := [0, 1, 3, 7, 0, 16, 63, 127, 0, 256, 0, 1024, 3072, 7168, 0, 16384, 64512, 130048, 261888, 0, 524288, 2097151, 4194303]
theorem minute_at.tab1 : rtab .any (opsOf Try.f129 1) = minute_at.T1 := by kernel_rfl
theorem minute_at.bits1 : waitsOk minute_at.T1.2 minute_at.B1 = true := by kernel_rfl
set_option maxHeartbeats 1600000 in
set_option maxRecDepth 100000 in
theorem minute_at.calls (k : Nat) (g : Nat) (xs bs : List Int) (p0 p1 p2 r1 r2 r3 : Int) (w : World) (hs : Sc w g xs bs) (h0 : 0 ≤ p0) (h1 : p0 < xs.length) (h2 : p0 < bs.length) (h : vessel_of.f k (rd bs p0) (wrap64 (p1 * rd xs p0)) p2 = some (r1, r2, r3)) :
    Calls Try.prog 129 #[.pointer (some ⟨g, 0, none⟩), .agg #[.int .i64 p0, .int .i64 p1, .int .i64 p2]] w fun e w' => e = .returned (.agg #[.int .i64 r1, .int .i64 r2, .int .i64 r3]) ∧ Below w.heap.size w w' := by
  have hu90 := Try.underlying90
  have hu105 := Try.underlying105
  have HB := Aside0.mk (Below.refl w.heap.size w)
  obtain ⟨a1, a2, c1, c2, e1, e2, d1, d2, l1, l2⟩ := hs
  obtain ⟨ad1, q1, x1⟩ := Kd.at_int d1 p0 h0 h1
  obtain ⟨ad2, q2, x2⟩ := Kd.at_int d2 p0 h0 h2
  subst q1 q2
  clear d1 d2
  have H := Aside0.mk h
  have E1 := Aside0.mk e1
  have E2 := Aside0.mk e2
  have X1 := Aside0.mk x1
  have X2 := Aside0.mk x2
  clear h e1 e2 x1 x2
  replace h0 := eq_true h0
  replace h1 := eq_true h1
  replace h2 := eq_true h2
  go_enter Try.func129, Try.ntmps129
  go_wp2_with (first | ((with_reducible refine gate_dst (N := 3) rfl ?_); refine bx_ 3 #[.int .i64 p0, .int .i64 p1, .int .i64 p2] 105 ?_; intro ga hg w1 hbox hb; have GEga := ge_ hg HB; replace hb := nb_ HB hb; replace HB := bs_ HB hb; have BKga := Aside0.mk hbox; clear hb hbox hg) | ((with_reducible refine gate_dst (N := 4) rfl ?_); refine bx_ 4 #[.int .i64 0, .int .i64 0, .int .i64 0] 90 ?_; intro gb hg w2 hbox hb; have GEgb := ge_ hg HB; have NEga_gb := ne_ hg BKga; replace hb := nb_ HB hb; replace BKga := kb_ BKga hb; replace HB := bs_ HB hb; have BKgb := Aside0.mk hbox; clear hb hbox hg))
  replace BKga := kd_ BKga
  replace BKgb := kd_ BKgb
  replace HB := bd_ HB
  refine sM_ [22] (fun w' => w'.cell? ⟨g, 0, none⟩ = some (.slice (some ad1) xs.length c1) ∧ w'.cell? ⟨g, 1, none⟩ = some (.slice (some ad2) bs.length c2) ∧ w'.cell? (ad1.add p0.toNat) = some (.int .i64 (rd xs p0)) ∧ w'.cell? (ad2.add p0.toNat) = some (.int .i64 (rd bs p0)) ∧ (w'.cell? ⟨ga, 0, none⟩ = some (.int .i64 p0) ∧ w'.cell? ⟨ga, 1, none⟩ = some (.int .i64 p1) ∧ w'.cell? ⟨ga, 2, none⟩ = some (.int .i64 p2))) minute_at.tab1 minute_at.bits1 ⟨pw_cell_below HB.out E1.out, pw_cell_below HB.out E2.out, pw_cell_below HB.out X1.out, pw_cell_below HB.out X2.out, c3_ BKga⟩ (fun hHeld HT_ HW_ => ?_)
  generalize w2.drew = w3 at BKga BKgb HB hHeld ⊢
  refine pM_ HT_ 0 5 1 ?_
  refine pM_ HT_ 1 6 3 ?_
  refine pM_ HT_ 2 7 7 ?_
  refine pM_ HT_ 4 9 23 ?_
  refine pM_ HT_ 8 13 279 ?_
  refine pM_ HT_ 10 15 1303 ?_
  refine pM_ HT_ 11 16 3351 ?_
  refine pM_ HT_ 12 17 7447 ?_
  refine pM_ HT_ 14 19 23831 ?_
  refine pM_ HT_ 19 24 548119 ?_
  refine tM_ HT_ HW_ hHeld 3 8 548127 ?_
  refine tM_ HT_ HW_ hHeld 5 10 548159 ?_
  refine pM_ HT_ 6 11 548223 ?_
  refine tM_ HT_ HW_ hHeld 7 12 548351 ?_
  refine tM_ HT_ HW_ hHeld 9 14 548863 ?_
  refine tM_ HT_ HW_ hHeld 13 18 557055 ?_
  refine tM_ HT_ HW_ hHeld 15 20 589823 ?_
  refine pM_ HT_ 16 21 655359 ?_
  refine tM_ HT_ HW_ hHeld 17 22 786431 ?_
  refine pM_ HT_ 18 23 1048575 ?_
  refine tM_ HT_ HW_ hHeld 20 25 2097151 ?_
  refine oM_ HT_ 21 (some 26) 4194303 (fun K hK => ?_)
  refine gM_ Try.func120 (vessel_of.calls k _ _ _ r1 r2 r3 _ H.out) ?_
  rintro e w4 ⟨rfl, hb⟩
  refine ⟨_, rfl, ?_⟩
  replace hb := nb_ HB hb
  replace BKga := kb_ BKga hb
  replace BKgb := kb_ BKgb hb
  replace HB := bs_ HB hb
  (try clear hb)
  refine hK.out _ _ ⟨pw_cell_below HB.out E1.out, pw_cell_below HB.out E2.out, pw_cell_below HB.out X1.out, pw_cell_below HB.out X2.out, c3_ BKga⟩ (fun hHeld => ?_)
  clear hK K
  refine nM_ ?_
  refine lM_ HT_ 22 none 8388607 (fun K hK => ?_)
  have hc_ := cf3_ BKgb
  refine sk3_ ?_
  intro ws_ hp_
  clear hc_
  refine hK.out _ _ ?_
  clear hK K
  refine dM_ HT_ ?_
  try go_wp2
  refine bodyPost_ret (results_cell_row rfl _ _ gb 90 #[.int .i64 r1, .int .i64 r2, .int .i64 r3] (0, 0) _ rfl (pp3_ BKgb hp_).out Try.underlying90 rfl (by kernel_rfl)) rfl ?_
  exact ⟨by first | rfl | (simp <;> rfl), (pb3_ GEgb HB hp_).out⟩
def volume_at.T1 : Bool × List (List Nat × List Nat) := (true, [([], []), ([0], [0]), ([1], [1]), ([2], [2]), ([], []), ([4], [4]), ([3, 5], [3, 5]), ([6], [6]), ([], []), ([8], [8]), ([], []), ([10], [10]), ([11], [11]), ([12], [12]), ([], []), ([14], [14]), ([13, 15], [13, 15]), ([16], [16]), ([9, 17], [9, 17]), ([], []), ([19], [19]), ([7, 18, 20], [7, 18, 20]), ([21, 21, 0, 1, 2, 3, 4, 5, 6, 7, 8, 9, 10, 11, 12, 13, 14, 15, 16, 17, 18, 19, 20, 21], [21])])
def volume_at.B1 : List Nat := [0, 1, 3, 7, 0, 16, 63, 127, 0, 256, 0, 1024, 3072, 7168, 0, 16384, 64512, 130048, 261888, 0, 524288, 2097151, 4194303]
theorem volume_at.tab1 : rtab .any (opsOf Try.f135 1) = volume_at.T1 := by kernel_rfl
theorem volume_at.bits1 : waitsOk volume_at.T1.2 volume_at.B1 = true := by kernel_rfl
set_option maxHeartbeats 1600000 in
set_option maxRecDepth 100000 in
theorem volume_at.calls (k : Nat) (g : Nat) (xs bs : List Int) (p0 p1 p2 r1 r2 r3 : Int) (w : World) (hs : Sc w g xs bs) (h0 : 0 ≤ p0) (h1 : p0 < xs.length) (h2 : p0 < bs.length) (h : vessel_of.f k (rd bs p0) (wrap64 (p1 * rd xs p0)) p2 = some (r1, r2, r3)) :
    Calls Try.prog 135 #[.pointer (some ⟨g, 0, none⟩), .agg #[.int .i64 p0, .int .i64 p1, .int .i64 p2]] w fun e w' => e = .returned (.agg #[.int .i64 r1, .int .i64 r2, .int .i64 r3]) ∧ Below w.heap.size w w' := by
  have hu90 := Try.underlying90
  have hu105 := Try.underlying105
  have HB := Aside0.mk (Below.refl w.heap.size w)
  obtain ⟨a1, a2, c1, c2, e1, e2, d1, d2, l1, l2⟩ := hs
  obtain ⟨ad1, q1, x1⟩ := Kd.at_int d1 p0 h0 h1
  obtain ⟨ad2, q2, x2⟩ := Kd.at_int d2 p0 h0 h2
  subst q1 q2
  clear d1 d2
  have H := Aside0.mk h
  have E1 := Aside0.mk e1
  have E2 := Aside0.mk e2
  have X1 := Aside0.mk x1
  have X2 := Aside0.mk x2
  clear h e1 e2 x1 x2
  replace h0 := eq_true h0
  replace h1 := eq_true h1
  replace h2 := eq_true h2
  go_enter Try.func135, Try.ntmps135
  go_wp2_with (first | ((with_reducible refine gate_dst (N := 3) rfl ?_); refine bx_ 3 #[.int .i64 p0, .int .i64 p1, .int .i64 p2] 105 ?_; intro ga hg w1 hbox hb; have GEga := ge_ hg HB; replace hb := nb_ HB hb; replace HB := bs_ HB hb; have BKga := Aside0.mk hbox; clear hb hbox hg) | ((with_reducible refine gate_dst (N := 4) rfl ?_); refine bx_ 4 #[.int .i64 0, .int .i64 0, .int .i64 0] 90 ?_; intro gb hg w2 hbox hb; have GEgb := ge_ hg HB; have NEga_gb := ne_ hg BKga; replace hb := nb_ HB hb; replace BKga := kb_ BKga hb; replace HB := bs_ HB hb; have BKgb := Aside0.mk hbox; clear hb hbox hg))
  replace BKga := kd_ BKga
  replace BKgb := kd_ BKgb
  replace HB := bd_ HB
  refine sM_ [22] (fun w' => w'.cell? ⟨g, 0, none⟩ = some (.slice (some ad1) xs.length c1) ∧ w'.cell? ⟨g, 1, none⟩ = some (.slice (some ad2) bs.length c2) ∧ w'.cell? (ad1.add p0.toNat) = some (.int .i64 (rd xs p0)) ∧ w'.cell? (ad2.add p0.toNat) = some (.int .i64 (rd bs p0)) ∧ (w'.cell? ⟨ga, 0, none⟩ = some (.int .i64 p0) ∧ w'.cell? ⟨ga, 1, none⟩ = some (.int .i64 p1) ∧ w'.cell? ⟨ga, 2, none⟩ = some (.int .i64 p2))) volume_at.tab1 volume_at.bits1 ⟨pw_cell_below HB.out E1.out, pw_cell_below HB.out E2.out, pw_cell_below HB.out X1.out, pw_cell_below HB.out X2.out, c3_ BKga⟩ (fun hHeld HT_ HW_ => ?_)
  generalize w2.drew = w3 at BKga BKgb HB hHeld ⊢
  refine pM_ HT_ 0 5 1 ?_
  refine pM_ HT_ 1 6 3 ?_
  refine pM_ HT_ 2 7 7 ?_
  refine pM_ HT_ 4 9 23 ?_
  refine pM_ HT_ 8 13 279 ?_
  refine pM_ HT_ 10 15 1303 ?_
  refine pM_ HT_ 11 16 3351 ?_
  refine pM_ HT_ 12 17 7447 ?_
  refine pM_ HT_ 14 19 23831 ?_
  refine pM_ HT_ 19 24 548119 ?_
  refine tM_ HT_ HW_ hHeld 3 8 548127 ?_
  refine tM_ HT_ HW_ hHeld 5 10 548159 ?_
  refine pM_ HT_ 6 11 548223 ?_
  refine tM_ HT_ HW_ hHeld 7 12 548351 ?_
  refine tM_ HT_ HW_ hHeld 9 14 548863 ?_
  refine tM_ HT_ HW_ hHeld 13 18 557055 ?_
  refine tM_ HT_ HW_ hHeld 15 20 589823 ?_
  refine pM_ HT_ 16 21 655359 ?_
  refine tM_ HT_ HW_ hHeld 17 22 786431 ?_
  refine pM_ HT_ 18 23 1048575 ?_
  refine tM_ HT_ HW_ hHeld 20 25 2097151 ?_
  refine oM_ HT_ 21 (some 26) 4194303 (fun K hK => ?_)
  refine gM_ Try.func120 (vessel_of.calls k _ _ _ r1 r2 r3 _ H.out) ?_
  rintro e w4 ⟨rfl, hb⟩
  refine ⟨_, rfl, ?_⟩
  replace hb := nb_ HB hb
  replace BKga := kb_ BKga hb
  replace BKgb := kb_ BKgb hb
  replace HB := bs_ HB hb
  (try clear hb)
  refine hK.out _ _ ⟨pw_cell_below HB.out E1.out, pw_cell_below HB.out E2.out, pw_cell_below HB.out X1.out, pw_cell_below HB.out X2.out, c3_ BKga⟩ (fun hHeld => ?_)
  clear hK K
  refine nM_ ?_
  refine lM_ HT_ 22 none 8388607 (fun K hK => ?_)
  have hc_ := cf3_ BKgb
  refine sk3_ ?_
  intro ws_ hp_
  clear hc_
  refine hK.out _ _ ?_
  clear hK K
  refine dM_ HT_ ?_
  try go_wp2
  refine bodyPost_ret (results_cell_row rfl _ _ gb 90 #[.int .i64 r1, .int .i64 r2, .int .i64 r3] (0, 0) _ rfl (pp3_ BKgb hp_).out Try.underlying90 rfl (by kernel_rfl)) rfl ?_
  exact ⟨by first | rfl | (simp <;> rfl), (pb3_ GEgb HB hp_).out⟩
end Go.Proofs.Ytlhfclpbodfmcaa.Pr
