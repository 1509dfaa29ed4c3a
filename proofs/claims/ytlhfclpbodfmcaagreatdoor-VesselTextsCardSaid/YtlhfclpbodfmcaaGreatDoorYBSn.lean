/- A part of the proof: Sn. -/
import Derived.Test.YtlhfclpbodfmcaaGreatDoorYBTqA
import Derived.Test.YtlhfclpbodfmcaaGreatDoorYBTqB
import Derived.Test.YtlhfclpbodfmcaaGreatDoorYBTqC
import Derived.Test.YtlhfclpbodfmcaaGreatDoorYBTqD
import Derived.Test.YtlhfclpbodfmcaaGreatDoorYBTqE
import Derived.Test.YtlhfclpbodfmcaaGreatDoorYBTp
import Derived.Outline
import Derived.Test.YtlhfclpbodfmcaaGreatDoorYBTqG
import Derived.Test.YtlhfclpbodfmcaaGreatDoorYBTqH
import Derived.Test.YtlhfclpbodfmcaaGreatDoorYBTqI
import Derived.Test.YtlhfclpbodfmcaaGreatDoorYBTqJ
import Derived.Test.YtlhfclpbodfmcaaGreatDoorYBDr
namespace Go.Proofs.YtlhfclpbodfmcaaGreatDoor.Pr
open Go.RowKit Go.Proofs.YtlhfclpbodfmcaaGreatDoorW.PrintWords Go.Proofs.YtlhfclpbodfmcaaGreatDoorW.PrintLast Go.Proofs.YtlhfclpbodfmcaaGreatDoorW.PrintMore
open Go.Proofs.YtlhfclpbodfmcaaGreatDoor.Vm
set_option linter.unusedVariables false
set_option linter.unusedSimpArgs false
theorem litC {α : Type} (d : Kd α) (W : World) (e : Nat) {xs : List α} {inner : List Value} (hrep : Reps (d.M W W.heap.size (fun _ => False)) d.sz xs inner) (hm : xs.length ≤ 1000) : Kd.C d (W.alloc (.cells inner.toArray e (0, 0))) (some ⟨W.heap.size, 0, none⟩) xs.length xs := by
  have h2 := World.ownsRow_lit (base := W.heap.size) (e := e) (size := d.sz) W inner.toArray xs.length (Nat.le_refl _) (by simp [maxLen]; omega) (by simpa using hrep.1)
  have h3 : Kd.R d e (W.alloc (.cells inner.toArray e (0, 0))) W.heap.size (fun _ => True) (.slice (some ⟨W.heap.size, 0, none⟩) xs.length xs.length) xs := by
    refine ⟨fun k hk => trivial, inner, ?_, ?_⟩
    · simpa using h2
    · exact hrep.imp_ (fun p c hp => d.M_mono (fun k hk => hk.elim) (Kd.M_below hp (below_alloc (Below.refl _ _) _)))
  exact (Kd.R_reads' h3).2.2
abbrev exA : List S79 := [⟨10, 100, 20⟩, ⟨5, 100, 10⟩]
abbrev exB : List S79 := [⟨20, 300, 1⟩]
abbrev exD : List S79 := [⟨10, 100, 21⟩]
abbrev exE : List S79 := [⟨10, 100, 20⟩, ⟨2, 40, 4⟩]
abbrev exF : List S27 := [⟨10, 10⟩, ⟨5, 5⟩]
abbrev exG : List S60 := [⟨0, 0⟩, ⟨10, 20⟩, ⟨15, 30⟩]
theorem rep79 (W : World) (b : Nat) (xs : List S79) : Reps (Kd.M k79 W b (fun _ => False)) k79.sz xs (xs.flatMap fun x => [.int .i64 x.f0, .int .i64 x.f1, .int .i64 x.f2]) := by
  induction xs with
  | nil => exact Reps.none _ _
  | cons x xs ih => exact Reps.c3 (k79_mkM W b _ x) ih
theorem rep27 (W : World) (b : Nat) (xs : List S27) : Reps (Kd.M k27 W b (fun _ => False)) k27.sz xs (xs.flatMap fun x => [.int .i64 x.f0, .int .i64 x.f1]) := by
  induction xs with
  | nil => exact Reps.none _ _
  | cons x xs ih => exact Reps.c2 (k27_mkM W b _ x) ih
theorem rep60 (W : World) (b : Nat) (xs : List S60) : Reps (Kd.M k60 W b (fun _ => False)) k60.sz xs (xs.flatMap fun x => [.int .i64 x.f0, .int .i64 x.f1]) := by
  induction xs with
  | nil => exact Reps.none _ _
  | cons x xs ih => exact Reps.c2 (k60_mkM W b _ x) ih
def waterhourlaw02_sane.f : Option Bool := some true
def waterhourlaw02_sane.T12 : Bool × List (List Nat × List Nat) := (true, [([], []), ([], []), ([0, 1], [0, 1]), ([2, 1], [2]), ([3], [3]), ([3, 3], [3]), ([4, 5, 3], [3, 4, 5]), ([3, 6], [3, 6]), ([7, 5], [7]), ([8], [8]), ([8, 8], [8]), ([9, 10, 8], [8, 9, 10]), ([8, 11], [8, 11]), ([12, 10], [12]), ([13], [13]), ([13, 13], [13]), ([14, 15, 13], [13, 14, 15]), ([13, 16], [13, 16]), ([17, 15], [17]), ([18], [18]), ([18, 18], [18]), ([19, 20, 18], [18, 19, 20]), ([18, 21], [18, 21]), ([22, 20], [22]), ([23], [23]), ([23, 23], [23]), ([24, 25, 23], [23, 24, 25]), ([23, 26], [23, 26]), ([27, 25], [27]), ([28], [28]), ([28, 28], [28]), ([29, 30, 28], [28, 29, 30]), ([28, 31], [28, 31]), ([32, 30], [32]), ([33], [33]), ([33, 33], [33]), ([34, 35, 33], [33, 34, 35]), ([33, 36], [33, 36])])
def waterhourlaw02_sane.B12 : List Nat := [0, 0, 3, 7, 15, 15, 63, 127, 255, 511, 511, 2047, 4095, 8191, 16383, 16383, 65535, 131071, 262143, 524287, 524287, 2097151, 4194303, 8388607, 16777215, 16777215, 67108863, 134217727, 268435455, 536870911, 536870911, 2147483647, 4294967295, 8589934591, 17179869183, 17179869183, 68719476735, 137438953471]
theorem waterhourlaw02_sane.tab12 : rtab .any (opsOf Tryz.f4 12) = waterhourlaw02_sane.T12 := by kernel_rfl
theorem waterhourlaw02_sane.bits12 : waitsOk waterhourlaw02_sane.T12.2 waterhourlaw02_sane.B12 = true := by kernel_rfl
set_option maxHeartbeats 1600000 in
set_option maxRecDepth 100000 in
theorem waterhourlaw02_sane.calls (r : Bool) (w : World) (h : waterhourlaw02_sane.f = some r) :
    Calls Tryz.prog 4 #[] w fun e w' => e = .returned (.bool r) ∧ Below w.heap.size w w' := by
  obtain rfl : true = r := Option.some.inj h
  clear h
  have hu79 := Tryz.underlying35
  have hu27 := Tryz.underlying37
  have hu60 := Tryz.underlying53
  have HB := Aside0.mk (Below.refl w.heap.size w)
  go_enter Tryz.func4, Tryz.ntmps4
  go_wp2_with fail
  refine (waterhourlaw02_example.calls exA _ rfl).mono ?_
  rintro e w1 ⟨vE, rfl, ho, hb⟩
  obtain ⟨AE, cE, rfl, hcE, kE⟩ := Kd.R_reads ho
  have CE := Aside0.mk hcE
  have KE := Aside0.mk kE
  have HB := Aside0.mk (below_step HB.out hb)
  clear ho hb hcE kE
  go_wp2_with fail
  have KD := Aside0.mk (litC k79 w1 35 (rep79 w1 w1.heap.size exB) (by decide))
  have KE := Aside0.mk (Kd.C_below KE.out (below_alloc (Below.refl _ w1) (.cells #[.int .i64 20, .int .i64 300, .int .i64 1] 35 (0, 0))))
  have HB := Aside0.mk (below_alloc HB.out (.cells #[.int .i64 20, .int .i64 300, .int .i64 1] 35 (0, 0)))
  replace KD : Aside0 (Kd.C k79 (w1.alloc (.cells #[.int .i64 20, .int .i64 300, .int .i64 1] 35 (0, 0))) (some ⟨w1.heap.size, 0, none⟩) exB.length exB) := KD
  generalize w1.alloc (.cells #[.int .i64 20, .int .i64 300, .int .i64 1] 35 (0, 0)) = w2 at KE KD HB ⊢
  generalize w1.heap.size = gD at KD ⊢
  refine (vessel_Sinking.calls AE cE exA 13 7 12 12 0 _ KE.out CE.out (by decide)).mono ?_
  rintro e w3 ⟨rfl, hb⟩
  replace hb := nb_ HB hb
  replace KE := Aside0.mk (Kd.C_below KE.out hb)
  replace KD := Aside0.mk (Kd.C_below KD.out hb)
  replace HB := bs_ HB hb
  clear hb
  go_wp2_with fail
  have BKg1 := Aside0.mk (blk_new w3 (.cells #[.int .i64 12, .int .i64 12] 37 (0, 0)))
  have KE := Aside0.mk (Kd.C_below KE.out (below_alloc (Below.refl _ w3) (.cells #[.int .i64 12, .int .i64 12] 37 (0, 0))))
  have KD := Aside0.mk (Kd.C_below KD.out (below_alloc (Below.refl _ w3) (.cells #[.int .i64 12, .int .i64 12] 37 (0, 0))))
  have HB := Aside0.mk (below_alloc HB.out (.cells #[.int .i64 12, .int .i64 12] 37 (0, 0)))
  generalize w3.alloc (.cells #[.int .i64 12, .int .i64 12] 37 (0, 0)) = w4 at BKg1 KE KD HB ⊢
  generalize w3.heap.size = g1 at BKg1 ⊢
  refine (vessel_After.calls AE cE exA 15 13 8 9 0 _ KE.out CE.out (by decide)).mono ?_
  rintro e w5 ⟨rfl, hb⟩
  replace hb := nb_ HB hb
  replace BKg1 := kb_ BKg1 hb
  replace KE := Aside0.mk (Kd.C_below KE.out hb)
  replace KD := Aside0.mk (Kd.C_below KD.out hb)
  replace HB := bs_ HB hb
  clear hb
  go_wp2_with fail
  have BKg2 := Aside0.mk (blk_new w5 (.cells #[.int .i64 8, .int .i64 9] 37 (0, 0)))
  have BKg1 := Aside0.mk (blk_alloc BKg1.out (.cells #[.int .i64 8, .int .i64 9] 37 (0, 0)))
  have KE := Aside0.mk (Kd.C_below KE.out (below_alloc (Below.refl _ w5) (.cells #[.int .i64 8, .int .i64 9] 37 (0, 0))))
  have KD := Aside0.mk (Kd.C_below KD.out (below_alloc (Below.refl _ w5) (.cells #[.int .i64 8, .int .i64 9] 37 (0, 0))))
  have HB := Aside0.mk (below_alloc HB.out (.cells #[.int .i64 8, .int .i64 9] 37 (0, 0)))
  generalize w5.alloc (.cells #[.int .i64 8, .int .i64 9] 37 (0, 0)) = w6 at BKg2 BKg1 KE KD HB ⊢
  generalize w5.heap.size = g2 at BKg2 ⊢
  refine (vessel_Before.calls AE cE exA 10 4 12 12 0 _ KE.out CE.out (by decide)).mono ?_
  rintro e w7 ⟨rfl, hb⟩
  replace hb := nb_ HB hb
  replace BKg1 := kb_ BKg1 hb
  replace BKg2 := kb_ BKg2 hb
  replace KE := Aside0.mk (Kd.C_below KE.out hb)
  replace KD := Aside0.mk (Kd.C_below KD.out hb)
  replace HB := bs_ HB hb
  clear hb
  go_wp2_with fail
  have BKg3 := Aside0.mk (blk_new w7 (.cells #[.int .i64 12, .int .i64 12] 37 (0, 0)))
  have BKg1 := Aside0.mk (blk_alloc BKg1.out (.cells #[.int .i64 12, .int .i64 12] 37 (0, 0)))
  have BKg2 := Aside0.mk (blk_alloc BKg2.out (.cells #[.int .i64 12, .int .i64 12] 37 (0, 0)))
  have KE := Aside0.mk (Kd.C_below KE.out (below_alloc (Below.refl _ w7) (.cells #[.int .i64 12, .int .i64 12] 37 (0, 0))))
  have KD := Aside0.mk (Kd.C_below KD.out (below_alloc (Below.refl _ w7) (.cells #[.int .i64 12, .int .i64 12] 37 (0, 0))))
  have HB := Aside0.mk (below_alloc HB.out (.cells #[.int .i64 12, .int .i64 12] 37 (0, 0)))
  generalize w7.alloc (.cells #[.int .i64 12, .int .i64 12] 37 (0, 0)) = w8 at BKg3 BKg1 BKg2 KE KD HB ⊢
  generalize w7.heap.size = g3 at BKg3 ⊢
  refine (vessel_Run.calls AE cE exA 15 13 115 115 0 _ KE.out CE.out (by decide)).mono ?_
  rintro e w9 ⟨rfl, hb⟩
  replace hb := nb_ HB hb
  replace BKg1 := kb_ BKg1 hb
  replace BKg2 := kb_ BKg2 hb
  replace BKg3 := kb_ BKg3 hb
  replace KE := Aside0.mk (Kd.C_below KE.out hb)
  replace KD := Aside0.mk (Kd.C_below KD.out hb)
  replace HB := bs_ HB hb
  clear hb
  go_wp2_with fail
  have BKg4 := Aside0.mk (blk_new w9 (.cells #[.int .i64 115, .int .i64 115] 37 (0, 0)))
  have BKg1 := Aside0.mk (blk_alloc BKg1.out (.cells #[.int .i64 115, .int .i64 115] 37 (0, 0)))
  have BKg2 := Aside0.mk (blk_alloc BKg2.out (.cells #[.int .i64 115, .int .i64 115] 37 (0, 0)))
  have BKg3 := Aside0.mk (blk_alloc BKg3.out (.cells #[.int .i64 115, .int .i64 115] 37 (0, 0)))
  have KE := Aside0.mk (Kd.C_below KE.out (below_alloc (Below.refl _ w9) (.cells #[.int .i64 115, .int .i64 115] 37 (0, 0))))
  have KD := Aside0.mk (Kd.C_below KD.out (below_alloc (Below.refl _ w9) (.cells #[.int .i64 115, .int .i64 115] 37 (0, 0))))
  have HB := Aside0.mk (below_alloc HB.out (.cells #[.int .i64 115, .int .i64 115] 37 (0, 0)))
  generalize w9.alloc (.cells #[.int .i64 115, .int .i64 115] 37 (0, 0)) = w10 at BKg4 BKg1 BKg2 BKg3 KE KD HB ⊢
  generalize w9.heap.size = g4 at BKg4 ⊢
  refine (vessel_Until.calls AE cE exA 15 115 13 13 0 _ KE.out CE.out (by decide)).mono ?_
  rintro e w11 ⟨rfl, hb⟩
  replace hb := nb_ HB hb
  replace BKg1 := kb_ BKg1 hb
  replace BKg2 := kb_ BKg2 hb
  replace BKg3 := kb_ BKg3 hb
  replace BKg4 := kb_ BKg4 hb
  replace KE := Aside0.mk (Kd.C_below KE.out hb)
  replace KD := Aside0.mk (Kd.C_below KD.out hb)
  replace HB := bs_ HB hb
  clear hb
  go_wp2_with fail
  have BKg5 := Aside0.mk (blk_new w11 (.cells #[.int .i64 13, .int .i64 13] 37 (0, 0)))
  have BKg1 := Aside0.mk (blk_alloc BKg1.out (.cells #[.int .i64 13, .int .i64 13] 37 (0, 0)))
  have BKg2 := Aside0.mk (blk_alloc BKg2.out (.cells #[.int .i64 13, .int .i64 13] 37 (0, 0)))
  have BKg3 := Aside0.mk (blk_alloc BKg3.out (.cells #[.int .i64 13, .int .i64 13] 37 (0, 0)))
  have BKg4 := Aside0.mk (blk_alloc BKg4.out (.cells #[.int .i64 13, .int .i64 13] 37 (0, 0)))
  have KE := Aside0.mk (Kd.C_below KE.out (below_alloc (Below.refl _ w11) (.cells #[.int .i64 13, .int .i64 13] 37 (0, 0))))
  have KD := Aside0.mk (Kd.C_below KD.out (below_alloc (Below.refl _ w11) (.cells #[.int .i64 13, .int .i64 13] 37 (0, 0))))
  have HB := Aside0.mk (below_alloc HB.out (.cells #[.int .i64 13, .int .i64 13] 37 (0, 0)))
  generalize w11.alloc (.cells #[.int .i64 13, .int .i64 13] 37 (0, 0)) = w12 at BKg5 BKg1 BKg2 BKg3 BKg4 KE KD HB ⊢
  generalize w11.heap.size = g5 at BKg5 ⊢
  refine (vessel_Poured.calls AE cE exA 5 60 10 11 0 _ KE.out CE.out (by decide)).mono ?_
  rintro e w13 ⟨rfl, hb⟩
  replace hb := nb_ HB hb
  replace BKg1 := kb_ BKg1 hb
  replace BKg2 := kb_ BKg2 hb
  replace BKg3 := kb_ BKg3 hb
  replace BKg4 := kb_ BKg4 hb
  replace BKg5 := kb_ BKg5 hb
  replace KE := Aside0.mk (Kd.C_below KE.out hb)
  replace KD := Aside0.mk (Kd.C_below KD.out hb)
  replace HB := bs_ HB hb
  clear hb
  go_wp2_with fail
  have BKg6 := Aside0.mk (blk_new w13 (.cells #[.int .i64 10, .int .i64 11] 37 (0, 0)))
  have BKg1 := Aside0.mk (blk_alloc BKg1.out (.cells #[.int .i64 10, .int .i64 11] 37 (0, 0)))
  have BKg2 := Aside0.mk (blk_alloc BKg2.out (.cells #[.int .i64 10, .int .i64 11] 37 (0, 0)))
  have BKg3 := Aside0.mk (blk_alloc BKg3.out (.cells #[.int .i64 10, .int .i64 11] 37 (0, 0)))
  have BKg4 := Aside0.mk (blk_alloc BKg4.out (.cells #[.int .i64 10, .int .i64 11] 37 (0, 0)))
  have BKg5 := Aside0.mk (blk_alloc BKg5.out (.cells #[.int .i64 10, .int .i64 11] 37 (0, 0)))
  have KE := Aside0.mk (Kd.C_below KE.out (below_alloc (Below.refl _ w13) (.cells #[.int .i64 10, .int .i64 11] 37 (0, 0))))
  have KD := Aside0.mk (Kd.C_below KD.out (below_alloc (Below.refl _ w13) (.cells #[.int .i64 10, .int .i64 11] 37 (0, 0))))
  have HB := Aside0.mk (below_alloc HB.out (.cells #[.int .i64 10, .int .i64 11] 37 (0, 0)))
  generalize w13.alloc (.cells #[.int .i64 10, .int .i64 11] 37 (0, 0)) = w14 at BKg6 BKg1 BKg2 BKg3 BKg4 BKg5 KE KD HB ⊢
  generalize w13.heap.size = g6 at BKg6 ⊢
  refine (vessel_Cascade.calls AE cE exA (some ⟨gD, 0, none⟩) 1 exB 15 13 7 8 0 _ KE.out CE.out KD.out (by decide) (by decide)).mono ?_
  rintro e w15 ⟨rfl, hb⟩
  replace hb := nb_ HB hb
  replace BKg1 := kb_ BKg1 hb
  replace BKg2 := kb_ BKg2 hb
  replace BKg3 := kb_ BKg3 hb
  replace BKg4 := kb_ BKg4 hb
  replace BKg5 := kb_ BKg5 hb
  replace BKg6 := kb_ BKg6 hb
  replace KE := Aside0.mk (Kd.C_below KE.out hb)
  replace KD := Aside0.mk (Kd.C_below KD.out hb)
  replace HB := bs_ HB hb
  clear hb
  go_wp2_with fail
  have BKg7 := Aside0.mk (blk_new w15 (.cells #[.int .i64 7, .int .i64 8] 37 (0, 0)))
  have BKg1 := Aside0.mk (blk_alloc BKg1.out (.cells #[.int .i64 7, .int .i64 8] 37 (0, 0)))
  have BKg2 := Aside0.mk (blk_alloc BKg2.out (.cells #[.int .i64 7, .int .i64 8] 37 (0, 0)))
  have BKg3 := Aside0.mk (blk_alloc BKg3.out (.cells #[.int .i64 7, .int .i64 8] 37 (0, 0)))
  have BKg4 := Aside0.mk (blk_alloc BKg4.out (.cells #[.int .i64 7, .int .i64 8] 37 (0, 0)))
  have BKg5 := Aside0.mk (blk_alloc BKg5.out (.cells #[.int .i64 7, .int .i64 8] 37 (0, 0)))
  have BKg6 := Aside0.mk (blk_alloc BKg6.out (.cells #[.int .i64 7, .int .i64 8] 37 (0, 0)))
  have KE := Aside0.mk (Kd.C_below KE.out (below_alloc (Below.refl _ w15) (.cells #[.int .i64 7, .int .i64 8] 37 (0, 0))))
  have KD := Aside0.mk (Kd.C_below KD.out (below_alloc (Below.refl _ w15) (.cells #[.int .i64 7, .int .i64 8] 37 (0, 0))))
  have HB := Aside0.mk (below_alloc HB.out (.cells #[.int .i64 7, .int .i64 8] 37 (0, 0)))
  generalize w15.alloc (.cells #[.int .i64 7, .int .i64 8] 37 (0, 0)) = w16 at BKg7 BKg1 BKg2 BKg3 BKg4 BKg5 BKg6 KE KD HB ⊢
  generalize w15.heap.size = g7 at BKg7 ⊢
  refine (vessel_Received.calls AE cE exA (some ⟨gD, 0, none⟩) 1 exB 15 8 14 14 0 _ KE.out CE.out KD.out (by decide) (by decide)).mono ?_
  rintro e w17 ⟨rfl, hb⟩
  replace hb := nb_ HB hb
  replace BKg1 := kb_ BKg1 hb
  replace BKg2 := kb_ BKg2 hb
  replace BKg3 := kb_ BKg3 hb
  replace BKg4 := kb_ BKg4 hb
  replace BKg5 := kb_ BKg5 hb
  replace BKg6 := kb_ BKg6 hb
  replace BKg7 := kb_ BKg7 hb
  replace KE := Aside0.mk (Kd.C_below KE.out hb)
  replace KD := Aside0.mk (Kd.C_below KD.out hb)
  replace HB := bs_ HB hb
  clear hb
  go_wp2_with fail
  have BKg8 := Aside0.mk (blk_new w17 (.cells #[.int .i64 14, .int .i64 14] 37 (0, 0)))
  have BKg1 := Aside0.mk (blk_alloc BKg1.out (.cells #[.int .i64 14, .int .i64 14] 37 (0, 0)))
  have BKg2 := Aside0.mk (blk_alloc BKg2.out (.cells #[.int .i64 14, .int .i64 14] 37 (0, 0)))
  have BKg3 := Aside0.mk (blk_alloc BKg3.out (.cells #[.int .i64 14, .int .i64 14] 37 (0, 0)))
  have BKg4 := Aside0.mk (blk_alloc BKg4.out (.cells #[.int .i64 14, .int .i64 14] 37 (0, 0)))
  have BKg5 := Aside0.mk (blk_alloc BKg5.out (.cells #[.int .i64 14, .int .i64 14] 37 (0, 0)))
  have BKg6 := Aside0.mk (blk_alloc BKg6.out (.cells #[.int .i64 14, .int .i64 14] 37 (0, 0)))
  have BKg7 := Aside0.mk (blk_alloc BKg7.out (.cells #[.int .i64 14, .int .i64 14] 37 (0, 0)))
  have KE := Aside0.mk (Kd.C_below KE.out (below_alloc (Below.refl _ w17) (.cells #[.int .i64 14, .int .i64 14] 37 (0, 0))))
  have KD := Aside0.mk (Kd.C_below KD.out (below_alloc (Below.refl _ w17) (.cells #[.int .i64 14, .int .i64 14] 37 (0, 0))))
  have HB := Aside0.mk (below_alloc HB.out (.cells #[.int .i64 14, .int .i64 14] 37 (0, 0)))
  generalize w17.alloc (.cells #[.int .i64 14, .int .i64 14] 37 (0, 0)) = w18 at BKg8 BKg1 BKg2 BKg3 BKg4 BKg5 BKg6 BKg7 KE KD HB ⊢
  generalize w17.heap.size = g8 at BKg8 ⊢
  replace BKg1 := kd_ BKg1
  replace BKg2 := kd_ BKg2
  replace BKg3 := kd_ BKg3
  replace BKg4 := kd_ BKg4
  replace BKg5 := kd_ BKg5
  replace BKg6 := kd_ BKg6
  replace BKg7 := kd_ BKg7
  replace BKg8 := kd_ BKg8
  replace KE := Aside0.mk (Kd.C_drew KE.out)
  replace KD := Aside0.mk (Kd.C_drew KD.out)
  replace HB := bd_ HB
  refine sM_ [] (fun w' => (w'.cell? ⟨g1, 0, none⟩ = some (.int .i64 12) ∧ w'.cell? ⟨g1, 1, none⟩ = some (.int .i64 12)) ∧ (w'.cell? ⟨g2, 0, none⟩ = some (.int .i64 8) ∧ w'.cell? ⟨g2, 1, none⟩ = some (.int .i64 9)) ∧ (w'.cell? ⟨g3, 0, none⟩ = some (.int .i64 12) ∧ w'.cell? ⟨g3, 1, none⟩ = some (.int .i64 12)) ∧ (w'.cell? ⟨g4, 0, none⟩ = some (.int .i64 115) ∧ w'.cell? ⟨g4, 1, none⟩ = some (.int .i64 115)) ∧ (w'.cell? ⟨g5, 0, none⟩ = some (.int .i64 13) ∧ w'.cell? ⟨g5, 1, none⟩ = some (.int .i64 13)) ∧ (w'.cell? ⟨g6, 0, none⟩ = some (.int .i64 10) ∧ w'.cell? ⟨g6, 1, none⟩ = some (.int .i64 11)) ∧ (w'.cell? ⟨g7, 0, none⟩ = some (.int .i64 7) ∧ w'.cell? ⟨g7, 1, none⟩ = some (.int .i64 8)) ∧ (w'.cell? ⟨g8, 0, none⟩ = some (.int .i64 14) ∧ w'.cell? ⟨g8, 1, none⟩ = some (.int .i64 14))) waterhourlaw02_sane.tab12 waterhourlaw02_sane.bits12 ⟨c2_ BKg1, c2_ BKg2, c2_ BKg3, c2_ BKg4, c2_ BKg5, c2_ BKg6, c2_ BKg7, c2_ BKg8⟩ (fun hHeld HT_ HW_ => ?_)
  generalize w18.drew = x at BKg1 BKg2 BKg3 BKg4 BKg5 BKg6 BKg7 BKg8 KE KD HB hHeld ⊢
  refine tM_ HT_ HW_ hHeld 0 97 1 ?_
  refine oM_ HT_ 1 (some 98) 3 (fun K hK => ?_)
  refine gM_ Tryz.func20 (waterhourlaw02_span.calls 12 12 12 12 _ rfl) ?_
  rintro e x1 ⟨rfl, hb⟩
  refine ⟨.agg #[.int .i64 12, .int .i64 12], rfl, ?_⟩
  replace hb := nb_ HB hb
  replace BKg1 := kb_ BKg1 hb
  replace BKg2 := kb_ BKg2 hb
  replace BKg3 := kb_ BKg3 hb
  replace BKg4 := kb_ BKg4 hb
  replace BKg5 := kb_ BKg5 hb
  replace BKg6 := kb_ BKg6 hb
  replace BKg7 := kb_ BKg7 hb
  replace BKg8 := kb_ BKg8 hb
  replace KE := Aside0.mk (Kd.C_below KE.out hb)
  replace KD := Aside0.mk (Kd.C_below KD.out hb)
  replace HB := bs_ HB hb
  (try clear hb)
  refine hK.out _ _ ⟨c2_ BKg1, c2_ BKg2, c2_ BKg3, c2_ BKg4, c2_ BKg5, c2_ BKg6, c2_ BKg7, c2_ BKg8⟩ (fun hHeld => ?_)
  clear hK K
  refine nM_ ?_
  refine pM_ HT_ 2 99 7 ?_
  refine pM_ HT_ 3 100 15 ?_
  refine tM_ HT_ HW_ hHeld 4 101 31 ?_
  refine oM_ HT_ 5 (some 102) 63 (fun K hK => ?_)
  refine gM_ Tryz.func20 (waterhourlaw02_span.calls 8 9 8 9 _ rfl) ?_
  rintro e x5 ⟨rfl, hb⟩
  refine ⟨.agg #[.int .i64 8, .int .i64 9], rfl, ?_⟩
  replace hb := nb_ HB hb
  replace BKg1 := kb_ BKg1 hb
  replace BKg2 := kb_ BKg2 hb
  replace BKg3 := kb_ BKg3 hb
  replace BKg4 := kb_ BKg4 hb
  replace BKg5 := kb_ BKg5 hb
  replace BKg6 := kb_ BKg6 hb
  replace BKg7 := kb_ BKg7 hb
  replace BKg8 := kb_ BKg8 hb
  replace KE := Aside0.mk (Kd.C_below KE.out hb)
  replace KD := Aside0.mk (Kd.C_below KD.out hb)
  replace HB := bs_ HB hb
  (try clear hb)
  refine hK.out _ _ ⟨c2_ BKg1, c2_ BKg2, c2_ BKg3, c2_ BKg4, c2_ BKg5, c2_ BKg6, c2_ BKg7, c2_ BKg8⟩ (fun hHeld => ?_)
  clear hK K
  refine nM_ ?_
  refine pM_ HT_ 6 103 127 ?_
  refine pM_ HT_ 7 104 255 ?_
  refine pM_ HT_ 8 105 511 ?_
  refine tM_ HT_ HW_ hHeld 9 106 1023 ?_
  refine oM_ HT_ 10 (some 107) 2047 (fun K hK => ?_)
  refine gM_ Tryz.func20 (waterhourlaw02_span.calls 12 12 12 12 _ rfl) ?_
  rintro e x10 ⟨rfl, hb⟩
  refine ⟨.agg #[.int .i64 12, .int .i64 12], rfl, ?_⟩
  replace hb := nb_ HB hb
  replace BKg1 := kb_ BKg1 hb
  replace BKg2 := kb_ BKg2 hb
  replace BKg3 := kb_ BKg3 hb
  replace BKg4 := kb_ BKg4 hb
  replace BKg5 := kb_ BKg5 hb
  replace BKg6 := kb_ BKg6 hb
  replace BKg7 := kb_ BKg7 hb
  replace BKg8 := kb_ BKg8 hb
  replace KE := Aside0.mk (Kd.C_below KE.out hb)
  replace KD := Aside0.mk (Kd.C_below KD.out hb)
  replace HB := bs_ HB hb
  (try clear hb)
  refine hK.out _ _ ⟨c2_ BKg1, c2_ BKg2, c2_ BKg3, c2_ BKg4, c2_ BKg5, c2_ BKg6, c2_ BKg7, c2_ BKg8⟩ (fun hHeld => ?_)
  clear hK K
  refine nM_ ?_
  refine pM_ HT_ 11 108 4095 ?_
  refine pM_ HT_ 12 109 8191 ?_
  refine pM_ HT_ 13 110 16383 ?_
  refine tM_ HT_ HW_ hHeld 14 111 32767 ?_
  refine oM_ HT_ 15 (some 112) 65535 (fun K hK => ?_)
  refine gM_ Tryz.func20 (waterhourlaw02_span.calls 115 115 115 115 _ rfl) ?_
  rintro e x15 ⟨rfl, hb⟩
  refine ⟨.agg #[.int .i64 115, .int .i64 115], rfl, ?_⟩
  replace hb := nb_ HB hb
  replace BKg1 := kb_ BKg1 hb
  replace BKg2 := kb_ BKg2 hb
  replace BKg3 := kb_ BKg3 hb
  replace BKg4 := kb_ BKg4 hb
  replace BKg5 := kb_ BKg5 hb
  replace BKg6 := kb_ BKg6 hb
  replace BKg7 := kb_ BKg7 hb
  replace BKg8 := kb_ BKg8 hb
  replace KE := Aside0.mk (Kd.C_below KE.out hb)
  replace KD := Aside0.mk (Kd.C_below KD.out hb)
  replace HB := bs_ HB hb
  (try clear hb)
  refine hK.out _ _ ⟨c2_ BKg1, c2_ BKg2, c2_ BKg3, c2_ BKg4, c2_ BKg5, c2_ BKg6, c2_ BKg7, c2_ BKg8⟩ (fun hHeld => ?_)
  clear hK K
  refine nM_ ?_
  refine pM_ HT_ 16 113 131071 ?_
  refine pM_ HT_ 17 114 262143 ?_
  refine pM_ HT_ 18 115 524287 ?_
  refine tM_ HT_ HW_ hHeld 19 116 1048575 ?_
  refine oM_ HT_ 20 (some 117) 2097151 (fun K hK => ?_)
  refine gM_ Tryz.func20 (waterhourlaw02_span.calls 13 13 13 13 _ rfl) ?_
  rintro e x20 ⟨rfl, hb⟩
  refine ⟨.agg #[.int .i64 13, .int .i64 13], rfl, ?_⟩
  replace hb := nb_ HB hb
  replace BKg1 := kb_ BKg1 hb
  replace BKg2 := kb_ BKg2 hb
  replace BKg3 := kb_ BKg3 hb
  replace BKg4 := kb_ BKg4 hb
  replace BKg5 := kb_ BKg5 hb
  replace BKg6 := kb_ BKg6 hb
  replace BKg7 := kb_ BKg7 hb
  replace BKg8 := kb_ BKg8 hb
  replace KE := Aside0.mk (Kd.C_below KE.out hb)
  replace KD := Aside0.mk (Kd.C_below KD.out hb)
  replace HB := bs_ HB hb
  (try clear hb)
  refine hK.out _ _ ⟨c2_ BKg1, c2_ BKg2, c2_ BKg3, c2_ BKg4, c2_ BKg5, c2_ BKg6, c2_ BKg7, c2_ BKg8⟩ (fun hHeld => ?_)
  clear hK K
  refine nM_ ?_
  refine pM_ HT_ 21 118 4194303 ?_
  refine pM_ HT_ 22 119 8388607 ?_
  refine pM_ HT_ 23 120 16777215 ?_
  refine tM_ HT_ HW_ hHeld 24 121 33554431 ?_
  refine oM_ HT_ 25 (some 122) 67108863 (fun K hK => ?_)
  refine gM_ Tryz.func20 (waterhourlaw02_span.calls 10 11 10 11 _ rfl) ?_
  rintro e x25 ⟨rfl, hb⟩
  refine ⟨.agg #[.int .i64 10, .int .i64 11], rfl, ?_⟩
  replace hb := nb_ HB hb
  replace BKg1 := kb_ BKg1 hb
  replace BKg2 := kb_ BKg2 hb
  replace BKg3 := kb_ BKg3 hb
  replace BKg4 := kb_ BKg4 hb
  replace BKg5 := kb_ BKg5 hb
  replace BKg6 := kb_ BKg6 hb
  replace BKg7 := kb_ BKg7 hb
  replace BKg8 := kb_ BKg8 hb
  replace KE := Aside0.mk (Kd.C_below KE.out hb)
  replace KD := Aside0.mk (Kd.C_below KD.out hb)
  replace HB := bs_ HB hb
  (try clear hb)
  refine hK.out _ _ ⟨c2_ BKg1, c2_ BKg2, c2_ BKg3, c2_ BKg4, c2_ BKg5, c2_ BKg6, c2_ BKg7, c2_ BKg8⟩ (fun hHeld => ?_)
  clear hK K
  refine nM_ ?_
  refine pM_ HT_ 26 123 134217727 ?_
  refine pM_ HT_ 27 124 268435455 ?_
  refine pM_ HT_ 28 125 536870911 ?_
  refine tM_ HT_ HW_ hHeld 29 126 1073741823 ?_
  refine oM_ HT_ 30 (some 127) 2147483647 (fun K hK => ?_)
  refine gM_ Tryz.func20 (waterhourlaw02_span.calls 7 8 7 8 _ rfl) ?_
  rintro e x30 ⟨rfl, hb⟩
  refine ⟨.agg #[.int .i64 7, .int .i64 8], rfl, ?_⟩
  replace hb := nb_ HB hb
  replace BKg1 := kb_ BKg1 hb
  replace BKg2 := kb_ BKg2 hb
  replace BKg3 := kb_ BKg3 hb
  replace BKg4 := kb_ BKg4 hb
  replace BKg5 := kb_ BKg5 hb
  replace BKg6 := kb_ BKg6 hb
  replace BKg7 := kb_ BKg7 hb
  replace BKg8 := kb_ BKg8 hb
  replace KE := Aside0.mk (Kd.C_below KE.out hb)
  replace KD := Aside0.mk (Kd.C_below KD.out hb)
  replace HB := bs_ HB hb
  (try clear hb)
  refine hK.out _ _ ⟨c2_ BKg1, c2_ BKg2, c2_ BKg3, c2_ BKg4, c2_ BKg5, c2_ BKg6, c2_ BKg7, c2_ BKg8⟩ (fun hHeld => ?_)
  clear hK K
  refine nM_ ?_
  refine pM_ HT_ 31 128 4294967295 ?_
  refine pM_ HT_ 32 129 8589934591 ?_
  refine pM_ HT_ 33 130 17179869183 ?_
  refine tM_ HT_ HW_ hHeld 34 131 34359738367 ?_
  refine oM_ HT_ 35 (some 132) 68719476735 (fun K hK => ?_)
  refine gM_ Tryz.func20 (waterhourlaw02_span.calls 14 14 14 14 _ rfl) ?_
  rintro e x35 ⟨rfl, hb⟩
  refine ⟨.agg #[.int .i64 14, .int .i64 14], rfl, ?_⟩
  replace hb := nb_ HB hb
  replace BKg1 := kb_ BKg1 hb
  replace BKg2 := kb_ BKg2 hb
  replace BKg3 := kb_ BKg3 hb
  replace BKg4 := kb_ BKg4 hb
  replace BKg5 := kb_ BKg5 hb
  replace BKg6 := kb_ BKg6 hb
  replace BKg7 := kb_ BKg7 hb
  replace BKg8 := kb_ BKg8 hb
  replace KE := Aside0.mk (Kd.C_below KE.out hb)
  replace KD := Aside0.mk (Kd.C_below KD.out hb)
  replace HB := bs_ HB hb
  (try clear hb)
  refine hK.out _ _ ⟨c2_ BKg1, c2_ BKg2, c2_ BKg3, c2_ BKg4, c2_ BKg5, c2_ BKg6, c2_ BKg7, c2_ BKg8⟩ (fun hHeld => ?_)
  clear hK K
  refine nM_ ?_
  refine pM_ HT_ 36 133 137438953471 ?_
  refine pM_ HT_ 37 134 274877906943 ?_
  refine dM_ HT_ ?_
  clear BKg1 BKg2 BKg3 BKg4 BKg5 BKg6 BKg7 BKg8 KD
  go_wp2_with fail
  refine (vessel_Marks.calls AE cE exA 3 exF 0 _ KE.out CE.out rfl).mono ?_
  rintro e y1 ⟨v1, rfl, ho1, hb⟩
  replace hb := nb_ HB hb
  replace KE := Aside0.mk (Kd.C_below KE.out hb)
  replace HB := bs_ HB hb
  obtain ⟨A1, c1, rfl, hc1, k1⟩ := Kd.R_reads ho1
  have C1 := Aside0.mk hc1
  have K1 := Aside0.mk k1
  clear ho1 hc1 k1
  clear hb
  go_wp2_with fail
  refine (vessel_Cut.calls AE cE exA 12 exE 0 _ KE.out CE.out rfl).mono ?_
  rintro e y2 ⟨v2, rfl, ho1, hb⟩
  replace hb := nb_ HB hb
  replace KE := Aside0.mk (Kd.C_below KE.out hb)
  replace K1 := Aside0.mk (Kd.C_below K1.out hb)
  replace HB := bs_ HB hb
  obtain ⟨A2, c2, rfl, hc1, k1⟩ := Kd.R_reads ho1
  have C2 := Aside0.mk hc1
  have K2 := Aside0.mk k1
  clear ho1 hc1 k1
  clear hb
  go_wp2_with fail
  refine (vessel_Cut.calls _ 1 exD 5 [] 11 _ (litC k79 y2 35 (rep79 y2 y2.heap.size exD) (by decide)) (by decide) rfl).mono ?_
  rintro e y3 ⟨v3, rfl, ho1, hb⟩
  replace hb := below_step (below_alloc (Below.refl _ y2) _) hb
  replace hb := nb_ HB hb
  replace KE := Aside0.mk (Kd.C_below KE.out hb)
  replace K1 := Aside0.mk (Kd.C_below K1.out hb)
  replace K2 := Aside0.mk (Kd.C_below K2.out hb)
  replace HB := bs_ HB hb
  clear ho1
  clear hb
  go_wp2_with fail
  refine (vessel_Emptying.calls AE cE exA exG 0 _ KE.out CE.out (by kernel_rfl)).mono ?_
  rintro e y4 ⟨v4, rfl, ho1, hb⟩
  replace hb := nb_ HB hb
  replace KE := Aside0.mk (Kd.C_below KE.out hb)
  replace K1 := Aside0.mk (Kd.C_below K1.out hb)
  replace K2 := Aside0.mk (Kd.C_below K2.out hb)
  replace HB := bs_ HB hb
  obtain ⟨A4, c4, rfl, hc1, k1⟩ := Kd.R_reads ho1
  have C4 := Aside0.mk hc1
  have K4 := Aside0.mk k1
  clear ho1 hc1 k1
  clear hb
  go_wp2_with fail
  refine (vessel_Before.calls AE cE exA 10 11 0 0 4 _ KE.out CE.out (by decide)).mono ?_
  rintro e y5 ⟨rfl, hb⟩
  replace hb := nb_ HB hb
  replace KE := Aside0.mk (Kd.C_below KE.out hb)
  replace K1 := Aside0.mk (Kd.C_below K1.out hb)
  replace K2 := Aside0.mk (Kd.C_below K2.out hb)
  replace K4 := Aside0.mk (Kd.C_below K4.out hb)
  replace HB := bs_ HB hb
  clear hb
  go_wp2_with fail
  refine (waterhourlaw02_span.calls 10 10 10 10 _ rfl).mono ?_
  rintro e y6 ⟨rfl, hb⟩
  replace hb := nb_ HB hb
  replace KE := Aside0.mk (Kd.C_below KE.out hb)
  replace K1 := Aside0.mk (Kd.C_below K1.out hb)
  replace K2 := Aside0.mk (Kd.C_below K2.out hb)
  replace K4 := Aside0.mk (Kd.C_below K4.out hb)
  replace HB := bs_ HB hb
  clear hb
  go_wp2_with fail
  refine (waterhourlaw02_span.calls 5 5 5 5 _ rfl).mono ?_
  rintro e y7 ⟨rfl, hb⟩
  replace hb := nb_ HB hb
  replace KE := Aside0.mk (Kd.C_below KE.out hb)
  replace K1 := Aside0.mk (Kd.C_below K1.out hb)
  replace K2 := Aside0.mk (Kd.C_below K2.out hb)
  replace K4 := Aside0.mk (Kd.C_below K4.out hb)
  replace HB := bs_ HB hb
  clear hb
  go_wp2_with fail
  refine (api_Span_59.calls 5 A1 c1 exF _ 2 exF true _ (Kd.C_below K1.out (below_alloc (Below.refl _ y7) _)) C1.out (litC k27 y7 37 (rep27 y7 y7.heap.size exF) (by decide)) (by decide) (by kernel_rfl)).mono ?_
  rintro e y8 ⟨rfl, hb⟩
  replace hb := hb.below
  replace hb := below_step (below_alloc (Below.refl _ y7) _) hb
  replace hb := nb_ HB hb
  replace KE := Aside0.mk (Kd.C_below KE.out hb)
  replace K1 := Aside0.mk (Kd.C_below K1.out hb)
  replace K2 := Aside0.mk (Kd.C_below K2.out hb)
  replace K4 := Aside0.mk (Kd.C_below K4.out hb)
  replace HB := bs_ HB hb
  clear hb
  go_wp2_with fail
  refine (waterhourref02_Same.calls 5 A2 c2 exE _ 2 exE true _ (Kd.C_below K2.out (below_alloc (Below.refl _ y8) _)) C2.out (litC k79 y8 35 (rep79 y8 y8.heap.size exE) (by decide)) (by decide) (by kernel_rfl)).mono ?_
  rintro e y9 ⟨rfl, hb⟩
  replace hb := hb.below
  replace hb := below_step (below_alloc (Below.refl _ y8) _) hb
  replace hb := nb_ HB hb
  replace KE := Aside0.mk (Kd.C_below KE.out hb)
  replace K1 := Aside0.mk (Kd.C_below K1.out hb)
  replace K2 := Aside0.mk (Kd.C_below K2.out hb)
  replace K4 := Aside0.mk (Kd.C_below K4.out hb)
  replace HB := bs_ HB hb
  clear hb
  go_wp2_with fail
  refine (api_Point_54.calls 5 A4 c4 exG _ 3 exG true _ (Kd.C_below K4.out (below_alloc (Below.refl _ y9) _)) C4.out (litC k60 y9 53 (rep60 y9 y9.heap.size exG) (by decide)) (by decide) (by kernel_rfl)).mono ?_
  rintro e y10 ⟨rfl, hb⟩
  replace hb := hb.below
  replace hb := below_step (below_alloc (Below.refl _ y9) _) hb
  replace hb := nb_ HB hb
  replace KE := Aside0.mk (Kd.C_below KE.out hb)
  replace K1 := Aside0.mk (Kd.C_below K1.out hb)
  replace K2 := Aside0.mk (Kd.C_below K2.out hb)
  replace K4 := Aside0.mk (Kd.C_below K4.out hb)
  replace HB := bs_ HB hb
  clear hb
  go_wp2_with fail
  refine (vessel_Check.calls 30 none 0 [] 20 _ (Kd.C_nil _ _) (Nat.le_refl _) rfl).mono ?_
  rintro e y11 ⟨rfl, hb⟩
  replace hb := nb_ HB hb
  replace KE := Aside0.mk (Kd.C_below KE.out hb)
  replace K1 := Aside0.mk (Kd.C_below K1.out hb)
  replace K2 := Aside0.mk (Kd.C_below K2.out hb)
  replace K4 := Aside0.mk (Kd.C_below K4.out hb)
  replace HB := bs_ HB hb
  clear hb
  go_wp2
  go_ret
  exact ⟨rfl, HB.out⟩
end Go.Proofs.YtlhfclpbodfmcaaGreatDoor.Pr
