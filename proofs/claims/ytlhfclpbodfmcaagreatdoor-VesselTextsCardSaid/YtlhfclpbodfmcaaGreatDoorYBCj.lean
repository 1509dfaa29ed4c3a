/- A part of the proof: Cj. -/
import Derived.Test.YtlhfclpbodfmcaaGreatDoorYBVm
import Derived.Test.YtlhfclpbodfmcaaGreatDoorYBPr4
import Derived.Test.YtlhfclpbodfmcaaGreatDoorYBKq
namespace Go.Proofs.YtlhfclpbodfmcaaGreatDoor.Pr
open Go.RowKit Go.Proofs.YtlhfclpbodfmcaaGreatDoorW.PrintWords Go.Proofs.YtlhfclpbodfmcaaGreatDoorW.PrintLast Go.Proofs.YtlhfclpbodfmcaaGreatDoorW.PrintMore
open Go.Proofs.YtlhfclpbodfmcaaGreatDoor.Vm
theorem wr {n : Int} (h0 : -9223372036854775808 ≤ n) (h1 : n ≤ 9223372036854775807) : wrap64 n = n := by unfold wrap64; omega
def ringB (r : S79) : Bool := decide (1 ≤ r.f0 ∧ r.f0 ≤ 1000 ∧ 1 ≤ r.f1 ∧ r.f1 ≤ 100000 ∧ 1 ≤ r.f2 ∧ r.f2 ≤ 20000)
def chainB : List S79 → Bool
  | [] => true
  | [r] => ringB r
  | a :: b :: l => ringB a && decide (a.f1 * b.f2 ≤ b.f1 * a.f2) && chainB (b :: l)
def validB (l : List S79) : Bool := decide (1 ≤ l.length ∧ l.length ≤ 24) && chainB l
def checkF (l : List S79) : Int := if validB l then 0 else 20
theorem isRing_eq (r : S79) : vessel_isRing.f r.f0 r.f1 r.f2 = some (ringB r) := by
  have key : ∀ (a b c d e f : Prop) [Decidable a] [Decidable b] [Decidable c] [Decidable d] [Decidable e] [Decidable f],
      (if a then (if b then (if c then (if d then (if e then (some (decide f)) else some false) else some false) else some false) else some false) else some false) = some (decide (a ∧ b ∧ c ∧ d ∧ e ∧ f)) := by
    intro a b c d e f _ _ _ _ _ _
    by_cases a <;> by_cases b <;> by_cases c <;> by_cases d <;> by_cases e <;> simp_all
  unfold vessel_isRing.f ringB
  exact key _ _ _ _ _ _
theorem ringB_iff {r : S79} : ringB r = true ↔ 1 ≤ r.f0 ∧ r.f0 ≤ 1000 ∧ 1 ≤ r.f1 ∧ r.f1 ≤ 100000 ∧ 1 ≤ r.f2 ∧ r.f2 ≤ 20000 := by unfold ringB; exact decide_eq_true_iff
theorem chain_ring : ∀ {l : List S79}, chainB l = true → ∀ r, r ∈ l → ringB r = true
  | [], _, r, hr => by simp at hr
  | [a], h, r, hr => by simp at hr; subst hr; exact h
  | a :: b :: l, h, r, hr => by
    simp only [chainB, Bool.and_eq_true] at h
    rcases List.mem_cons.1 hr with rfl | hr
    · exact h.1.1
    · exact chain_ring h.2 r hr
theorem mul_b {a b A B : Int} (h0 : 1 ≤ a) (h1 : a ≤ A) (h2 : 1 ≤ b) (h3 : b ≤ B) : 0 ≤ a * b ∧ a * b ≤ A * B :=
  ⟨Int.mul_nonneg (by omega) (by omega), Int.mul_le_mul h1 h3 (by omega) (by omega)⟩
/-- The chain from ring i on, the ring below it known. -/
theorem chain_step (l : List S79) (i : Nat) (hi : i + 1 < l.length) : chainB (l.drop i) = (ringB (rd_T79 l (i : Int)) && decide ((rd_T79 l (i : Int)).f1 * (rd_T79 l ((i + 1 : Nat) : Int)).f2 ≤ (rd_T79 l ((i + 1 : Nat) : Int)).f1 * (rd_T79 l (i : Int)).f2) && chainB (l.drop (i + 1))) := by
  have e1 : l.drop i = rd_T79 l (i : Int) :: rd_T79 l ((i + 1 : Nat) : Int) :: l.drop (i + 2) := by
    rw [List.drop_eq_getElem_cons (by omega), List.drop_eq_getElem_cons (by omega)]
    simp [rd_T79, List.getD_eq_getElem?_getD, List.getElem?_eq_getElem hi, List.getElem?_eq_getElem (show i < l.length by omega)]
  have e2 : l.drop (i + 1) = rd_T79 l ((i + 1 : Nat) : Int) :: l.drop (i + 2) := by
    rw [List.drop_eq_getElem_cons (by omega)]
    simp [rd_T79, List.getD_eq_getElem?_getD, List.getElem?_eq_getElem hi]
  rw [e1, e2]; rfl
theorem chain_last (l : List S79) (i : Nat) (hi : i + 1 = l.length) : chainB (l.drop i) = ringB (rd_T79 l (i : Int)) := by
  have e1 : l.drop i = [rd_T79 l (i : Int)] := by
    rw [List.drop_eq_getElem_cons (by omega), List.drop_of_length_le (by omega)]
    simp [rd_T79, List.getD_eq_getElem?_getD, List.getElem?_eq_getElem (show i < l.length by omega)]
  rw [e1]; rfl
/-- A step of the test, in plain words: ring i behind ring i - 1, which is one. -/
theorem test_step (l : List S79) (i : Nat) (hi : i < l.length) (h0 : 1 ≤ i) (hp : ringB (rd_T79 l ((i - 1 : Nat) : Int)) = true) :
    chainB (l.drop (i - 1)) = (ringB (rd_T79 l (i : Int)) && decide ((rd_T79 l ((i - 1 : Nat) : Int)).f1 * (rd_T79 l (i : Int)).f2 ≤ (rd_T79 l (i : Int)).f1 * (rd_T79 l ((i - 1 : Nat) : Int)).f2) && chainB (l.drop i)) := by
  have := chain_step l (i - 1) (by omega)
  rw [show i - 1 + 1 = i by omega, hp, Bool.true_and] at this
  rw [this]
  cases hr : ringB (rd_T79 l (i : Int)) with
  | true => simp
  | false =>
    have : chainB (l.drop i) = false := by
      by_cases he : i + 1 = l.length
      · rw [chain_last l i he, hr]
      · rw [chain_step l i (by omega), hr]; simp
    simp [this]
/-- A valid vessel's scales. -/
theorem valid_GV {l : List S79} (h : validB l = true) : GV (l.map (·.f0)) (l.map (·.f1)) (l.map (·.f2)) := by
  unfold validB at h
  rw [Bool.and_eq_true, decide_eq_true_iff] at h
  have hr : ∀ r, r ∈ l → _ := fun r hr => ringB_iff.1 (chain_ring h.2 r hr)
  refine ⟨⟨?_, ?_, by simpa using h.1.1, by simpa using h.1.2⟩, ⟨?_, ?_, by simpa using h.1.1, by simpa using h.1.2⟩, ⟨?_, ?_, by simpa using h.1.1, by simpa using h.1.2⟩, by simp, by simp⟩ <;>
  · intro a ha
    obtain ⟨r, h1, rfl⟩ := List.mem_map.1 ha
    have := hr r h1
    omega
end Go.Proofs.YtlhfclpbodfmcaaGreatDoor.Pr
namespace Go.Proofs.YtlhfclpbodfmcaaGreatDoor.Pr
open Go.RowKit Go.Proofs.YtlhfclpbodfmcaaGreatDoorW.PrintWords Go.Proofs.YtlhfclpbodfmcaaGreatDoorW.PrintLast Go.Proofs.YtlhfclpbodfmcaaGreatDoorW.PrintMore
open Go.Proofs.YtlhfclpbodfmcaaGreatDoor.Vm
set_option linter.unusedVariables false
set_option linter.unusedSimpArgs false
attribute [local go_sem] fld79_0 fld79_1 fld79_2
section
variable {P : Program} {ops : Array Oper} {Q : Exit → Act → World → Prop} {md : Region.Mode} {S : World → Prop} {ds : List Nat}
theorem pU_ {T : Bool × List (List Nat × List Nat)} {n m fuel : Nat} {oi : Oper} {a a' : Act} {w : World} (HT : Aside0 (rtab md ops = T)) (i : Nat) (N : Option Tmp) (m' : Nat)
    (h : wpAnyLast P md ops Q S ds fuel (bm n m') a' w)
    (hi : ops[i]? = some oi := by rfl) (hN : oi.dst = N := by rfl) (hc : anyT T (bm n m).toList (bm n m').toList i = true := by kernel_rfl)
    (hQ : ∀ c a w, Q (.panic c) (a.put oi.dst undef) w → Q (.panic c) a w := by exact fun _ _ _ h => h)
    (hy : Yields P ops oi undef a := by exact Or.inr ⟨by rfl, rfl⟩)
    (ha : a.put N undef = a' := by (simp only [Act.put, List.setIfInBounds_toArray, List.set_cons_zero, List.set_cons_succ, i64_w, i32_w]; rfl)) :
    wpAnyLast P md ops Q S ds (fuel + 1) (bm n m) a w :=
  pure_ (i := i) (N := N) (bm n m') hi hN (any_of HT.out hc) hQ hy ha h
end
def vessel_Check.T6 : Bool × List (List Nat × List Nat) := (true, [([], []), ([0], [0]), ([1], [1]), ([2, 1], [2]), ([3], [3]), ([4, 3], [3, 4]), ([5, 3, 3], [3, 5]), ([6], [6]), ([7, 6], [6, 7]), ([6], [6]), ([6], [6]), ([10, 6], [6, 10]), ([9, 11, 6], [6, 9, 11]), ([12, 6], [6, 12]), ([13, 6], [6, 13]), ([8, 14, 6], [6, 8, 14]), ([6], [6]), ([6], [6]), ([17, 6], [6, 17]), ([16, 18, 6], [6, 16, 18]), ([19, 6], [6, 19]), ([20, 6], [6, 20]), ([6], [6]), ([22, 6], [6, 22]), ([21, 23, 6], [6, 21, 23]), ([15, 24, 6], [6, 15, 24]), ([6, 25, 3], [3, 6, 25]), ([3, 26], [3, 26])])
def vessel_Check.B6 : List Nat := [0, 1, 3, 7, 15, 31, 63, 127, 255, 127, 127, 1151, 3711, 7807, 15999, 32767, 127, 127, 131199, 458879, 983167, 2031743, 127, 4194431, 16711807, 33554431, 67108863, 134217727]
theorem vessel_Check.tab6 : rtab .any (opsOf Tryz.f26 6) = vessel_Check.T6 := by kernel_rfl
theorem vessel_Check.bits6 : waitsOk vessel_Check.T6.2 vessel_Check.B6 = true := by kernel_rfl
def vessel_Check.f (k : Nat) (l0 : List S79) : Option Int := some (checkF l0)
theorem vessel_Check.mono : ∀ a0 k, LeO (vessel_Check.f k a0) (vessel_Check.f (k + 1) a0) := fun _ _ => LeO.refl _
theorem wrq_ {n : Int} (h0 : -9223372036854775808 ≤ n) (h1 : n ≤ 9223372036854775807) : wrap64 n = n := wr h0 h1
set_option maxHeartbeats 1600000 in
set_option maxRecDepth 100000 in
theorem vessel_Check.run (A0 : Option Addr) (c0 : Nat) (l0 : List S79) (w : World) (hr0 : Kd.C k79 w A0 l0.length l0) : Calls Tryz.prog 26 #[.slice A0 l0.length c0] w fun e w' => e = .returned (.int .i64 (checkF l0)) ∧ Below w.heap.size w w' := by
  have hu79 := Tryz.underlying35
  have HR0 := Aside0.mk hr0
  have HB := Aside0.mk (Below.refl w.heap.size w)
  clear hr0
  by_cases hL : 1 ≤ l0.length ∧ l0.length ≤ 24
  · have HE : Aside0 (checkF l0 = if chainB l0 then 0 else 20) := ⟨by unfold checkF validB; rw [decide_eq_true hL, Bool.true_and]⟩
    have HL := Aside0.mk hL
    have q1 : decide ((l0.length : Int) < 1) = false := decide_eq_false (by omega)
    have q2 : decide (24 < (l0.length : Int)) = false := decide_eq_false (by omega)
    have q3 : decide (24 < l0.length) = false := decide_eq_false (by omega)
    have q5 : ¬ l0.length = 0 := by omega
    clear hL
    go_enter Tryz.func26, Tryz.ntmps26
    go_wp2
    go_loopg [15] l0.length (fun kq v15 w' => ∃ j : Nat, v15 = .int .i64 (j : Int) ∧ Aside0 (j ≤ l0.length ∧ l0.length - j ≤ kq ∧ (j = 0 ∨ ringB (rd_T79 l0 ((j - 1 : Nat) : Int)) = true) ∧ chainB l0 = chainB (l0.drop (j - 1))) ∧ Aside0 (Below w.heap.size w w'))
    case atStart => exact ⟨0, rfl, ⟨Nat.zero_le _, by omega, .inl rfl, rfl⟩, HB⟩
    case round =>
      clear HB q1 q2 q3 q5
      obtain ⟨j, rfl, HJ, HB⟩ := hrel
      by_cases hj : j < l0.length
      · have hd : decide ((j : Int) < (l0.length : Int)) = true := decide_eq_true (by omega)
        have hd2 : decide (j < l0.length) = true := decide_eq_true hj
        have HJL := Aside0.mk hj
        have hi0 : (0 : Int) ≤ (j : Int) := by omega
        have hi1 : (j : Int) < (l0.length : Int) := by omega
        obtain ⟨ad, q_, x0_, x1_, x2_⟩ := at_T79 HR0.out (j : Int) hi0 hi1
        subst q_
        simp only [Int.toNat_natCast] at x0_ x1_ x2_
        have X0 := Aside0.mk x0_
        have X1 := Aside0.mk x1_
        have X2 := Aside0.mk x2_
        clear x0_ x1_ x2_
        have EW : Aside0 (wrap64 ((j : Int) + 1) = ((j + 1 : Nat) : Int)) := ⟨by have := HL.out; rw [wrq_ (by omega) (by omega)]; rfl⟩
        clear hj
        have hx0 := pw_cell_below HB.out X0.out
        have hx1 := pw_cell_below HB.out X1.out
        have hx2 := pw_cell_below HB.out X2.out
        go_upto_region 6 with (fail)
        clear hx0 hx1 hx2
        have BKgx := Aside0.mk (blk_new wr (.cells #[.int .i64 (rd_T79 l0 (j : Int)).f0, .int .i64 (rd_T79 l0 (j : Int)).f1, .int .i64 (rd_T79 l0 (j : Int)).f2] 35 (0, 0)))
        have hb := below_alloc (Below.refl _ wr) (.cells #[.int .i64 (rd_T79 l0 (j : Int)).f0, .int .i64 (rd_T79 l0 (j : Int)).f1, .int .i64 (rd_T79 l0 (j : Int)).f2] 35 (0, 0))
        replace HB := bs_ HB hb
        clear hb
        generalize wr.alloc (.cells #[.int .i64 (rd_T79 l0 (j : Int)).f0, .int .i64 (rd_T79 l0 (j : Int)).f1, .int .i64 (rd_T79 l0 (j : Int)).f2] 35 (0, 0)) = w2 at BKgx HB ⊢
        generalize wr.heap.size = gx at BKgx ⊢
        cases hr : ringB (rd_T79 l0 (j : Int))
        · have C1 : Aside0 (∀ W, Calls Tryz.prog 59 #[.agg #[.int .i64 (rd_T79 l0 (j : Int)).f0, .int .i64 (rd_T79 l0 (j : Int)).f1, .int .i64 (rd_T79 l0 (j : Int)).f2]] W fun e w' => e = .returned (.bool false) ∧ Below W.heap.size W w') := ⟨fun W => vessel_isRing.calls _ _ _ false W (by rw [isRing_eq, hr])⟩
          have HX : Aside0 (chainB l0 = false) := ⟨by
            have h := HJ.out
            have hj := HJL.out
            rw [h.2.2.2]
            rcases Nat.eq_zero_or_pos j with h0 | h0
            · subst h0
              by_cases he : 1 = l0.length
              · rw [show 0 - 1 = 0 from rfl, chain_last l0 0 (by omega)]; exact hr
              · rw [show 0 - 1 = 0 from rfl, chain_step l0 0 (by omega), show ringB (rd_T79 l0 ((0 : Nat) : Int)) = false from hr]; rfl
            · rw [test_step l0 j hj h0 (h.2.2.1.resolve_left (by omega)), hr]; rfl⟩
          clear hr
          go_wp2
          replace BKgx := kd_ BKgx
          replace HB := bd_ HB
          refine sM_ [] (fun w' => (w'.cell? ⟨gx, 0, none⟩ = some (.int .i64 (rd_T79 l0 (j : Int)).f0) ∧ w'.cell? ⟨gx, 1, none⟩ = some (.int .i64 (rd_T79 l0 (j : Int)).f1) ∧ w'.cell? ⟨gx, 2, none⟩ = some (.int .i64 (rd_T79 l0 (j : Int)).f2))) vessel_Check.tab6 vessel_Check.bits6 (c3_ BKgx) (fun hHeld HT_ HW_ => ?_)
          generalize w2.drew = w3 at BKgx HB hHeld ⊢
          refine tM_ HT_ HW_ hHeld 0 20 1 ?_
          refine oM_ HT_ 1 (some 21) 3 (fun K hK => ?_)
          refine gM_ Tryz.func59 (C1.out _) ?_
          rintro e w4 ⟨rfl, hb⟩
          refine ⟨.bool _, rfl, ?_⟩
          replace hb := nb_ HB hb
          replace BKgx := kb_ BKgx hb
          replace HB := bs_ HB hb
          (try clear hb)
          refine hK.out _ _ (c3_ BKgx) (fun hHeld => ?_)
          clear hK K
          refine nM_ ?_
          refine pM_ HT_ 2 22 7 ?_
          refine pM_ HT_ 3 23 15 ?_
          refine pU_ HT_ 4 (some 24) 31 ?_
          refine pU_ HT_ 5 (some 25) 63 ?_
          refine pU_ HT_ 6 (some 26) 127 ?_
          refine pU_ HT_ 7 (some 27) 255 ?_
          refine pU_ HT_ 8 (some 28) 511 ?_
          refine pU_ HT_ 9 (some 29) 1023 ?_
          refine pU_ HT_ 10 (some 30) 2047 ?_
          refine pU_ HT_ 11 (some 31) 4095 ?_
          refine pU_ HT_ 12 (some 32) 8191 ?_
          refine pU_ HT_ 13 (some 33) 16383 ?_
          refine pU_ HT_ 14 (some 34) 32767 ?_
          refine pU_ HT_ 15 (some 35) 65535 ?_
          refine pU_ HT_ 16 (some 36) 131071 ?_
          refine pU_ HT_ 17 (some 37) 262143 ?_
          refine pU_ HT_ 18 (some 38) 524287 ?_
          refine pU_ HT_ 19 (some 39) 1048575 ?_
          refine pU_ HT_ 20 (some 40) 2097151 ?_
          refine pU_ HT_ 21 (some 41) 4194303 ?_
          refine pU_ HT_ 22 (some 42) 8388607 ?_
          refine pU_ HT_ 23 (some 43) 16777215 ?_
          refine pU_ HT_ 24 (some 44) 33554431 ?_
          refine pU_ HT_ 25 (some 45) 67108863 ?_
          refine pU_ HT_ 26 (some 46) 134217727 ?_
          refine pM_ HT_ 27 47 268435455 ?_
          refine dM_ HT_ ?_
          go_wp2
          go_ret
          exact ⟨by rw [HE.out, HX.out]; rfl, HB.out⟩
        · have HRJ := Aside0.mk hr
          have C1 : Aside0 (∀ W, Calls Tryz.prog 59 #[.agg #[.int .i64 (rd_T79 l0 (j : Int)).f0, .int .i64 (rd_T79 l0 (j : Int)).f1, .int .i64 (rd_T79 l0 (j : Int)).f2]] W fun e w' => e = .returned (.bool true) ∧ Below W.heap.size W w') := ⟨fun W => vessel_isRing.calls _ _ _ true W (by rw [isRing_eq, hr])⟩
          clear hr
          rcases Nat.eq_zero_or_pos j with h0 | h0
          · have h1 : decide (0 < (j : Int)) = false := decide_eq_false (by omega)
            have h2 : decide (0 < j) = false := decide_eq_false (by omega)
            have HX : Aside0 (chainB l0 = chainB (l0.drop (j + 1 - 1))) := ⟨by rw [HJ.out.2.2.2, h0]⟩
            clear h0
            go_wp2
            replace BKgx := kd_ BKgx
            replace HB := bd_ HB
            refine sM_ [] (fun w' => (w'.cell? ⟨gx, 0, none⟩ = some (.int .i64 (rd_T79 l0 (j : Int)).f0) ∧ w'.cell? ⟨gx, 1, none⟩ = some (.int .i64 (rd_T79 l0 (j : Int)).f1) ∧ w'.cell? ⟨gx, 2, none⟩ = some (.int .i64 (rd_T79 l0 (j : Int)).f2))) vessel_Check.tab6 vessel_Check.bits6 (c3_ BKgx) (fun hHeld HT_ HW_ => ?_)
            generalize w2.drew = w3 at BKgx HB hHeld ⊢
            refine tM_ HT_ HW_ hHeld 0 20 1 ?_
            refine oM_ HT_ 1 (some 21) 3 (fun K hK => ?_)
            refine gM_ Tryz.func59 (C1.out _) ?_
            rintro e w4 ⟨rfl, hb⟩
            refine ⟨.bool _, rfl, ?_⟩
            replace hb := nb_ HB hb
            replace BKgx := kb_ BKgx hb
            replace HB := bs_ HB hb
            (try clear hb)
            refine hK.out _ _ (c3_ BKgx) (fun hHeld => ?_)
            clear hK K
            refine nM_ ?_
            refine pM_ HT_ 2 22 7 ?_
            refine pM_ HT_ 3 23 15 ?_
            refine pM_ HT_ 4 24 31 ?_
            refine pM_ HT_ 5 25 63 ?_
            refine pM_ HT_ 6 26 127 ?_
            refine pU_ HT_ 7 (some 27) 255 ?_
            refine pU_ HT_ 8 (some 28) 511 ?_
            refine pU_ HT_ 9 (some 29) 1023 ?_
            refine pU_ HT_ 10 (some 30) 2047 ?_
            refine pU_ HT_ 11 (some 31) 4095 ?_
            refine pU_ HT_ 12 (some 32) 8191 ?_
            refine pU_ HT_ 13 (some 33) 16383 ?_
            refine pU_ HT_ 14 (some 34) 32767 ?_
            refine pU_ HT_ 15 (some 35) 65535 ?_
            refine pU_ HT_ 16 (some 36) 131071 ?_
            refine pU_ HT_ 17 (some 37) 262143 ?_
            refine pU_ HT_ 18 (some 38) 524287 ?_
            refine pU_ HT_ 19 (some 39) 1048575 ?_
            refine pU_ HT_ 20 (some 40) 2097151 ?_
            refine pU_ HT_ 21 (some 41) 4194303 ?_
            refine pU_ HT_ 22 (some 42) 8388607 ?_
            refine pU_ HT_ 23 (some 43) 16777215 ?_
            refine pU_ HT_ 24 (some 44) 33554431 ?_
            refine pU_ HT_ 25 (some 45) 67108863 ?_
            refine pM_ HT_ 26 46 134217727 ?_
            refine pM_ HT_ 27 47 268435455 ?_
            refine dM_ HT_ ?_
            go_wp2
            go_roundg (gk - 1)
            case measure => have := HJ.out; have := HJL.out; omega
            case rel => exact ⟨j + 1, by rw [EW.out], ⟨by have := HJL.out; omega, by have := HJ.out; omega, .inr HRJ.out, HX.out⟩, HB⟩
          · obtain ⟨q, hq⟩ : ∃ q : Nat, q + 1 = j := ⟨j - 1, by omega⟩
            have h1 : decide (0 < (j : Int)) = true := decide_eq_true (by omega)
            have h2 : decide (0 < j) = true := decide_eq_true h0
            have hqj : wrap64 ((j : Int) - 1) = (q : Int) := by have := HL.out; have := HJL.out; rw [wrq_ (by omega) (by omega)]; omega
            have hql : q < l0.length := by have := HJL.out; omega
            have HQ : Aside0 (q + 1 = j) := ⟨hq⟩
            have HQR : Aside0 (ringB (rd_T79 l0 (q : Int)) = true) := ⟨by have h := HJ.out.2.2.1.resolve_left (by omega); rwa [show j - 1 = q by omega] at h⟩
            have gi0 : (0 : Int) ≤ (q : Int) := by omega
            have gi1 : (q : Int) < (l0.length : Int) := by omega
            obtain ⟨ad2, q_, x0_, x1_, x2_⟩ := at_T79 HR0.out (q : Int) gi0 gi1
            obtain rfl : ad = ad2 := Option.some.inj q_
            simp only [Int.toNat_natCast] at x0_ x1_ x2_
            have Y1 := Aside0.mk x1_
            have Y2 := Aside0.mk x2_
            clear x0_ x1_ x2_ q_ hq h0
            have HM : Aside0 (wrap64 ((rd_T79 l0 (j : Int)).f1 * (rd_T79 l0 (q : Int)).f2) = (rd_T79 l0 (j : Int)).f1 * (rd_T79 l0 (q : Int)).f2 ∧ wrap64 ((rd_T79 l0 (q : Int)).f1 * (rd_T79 l0 (j : Int)).f2) = (rd_T79 l0 (q : Int)).f1 * (rd_T79 l0 (j : Int)).f2) := ⟨by
              have r1 := ringB_iff.1 HRJ.out
              have r2 := ringB_iff.1 HQR.out
              have m1 := mul_b r1.2.2.1 r1.2.2.2.1 r2.2.2.2.2.1 r2.2.2.2.2.2
              have m2 := mul_b r2.2.2.1 r2.2.2.2.1 r1.2.2.2.2.1 r1.2.2.2.2.2
              exact ⟨wrq_ (by omega) (by omega), wrq_ (by omega) (by omega)⟩⟩
            have HTS : Aside0 (chainB (l0.drop (j - 1)) = (decide ((rd_T79 l0 (q : Int)).f1 * (rd_T79 l0 (j : Int)).f2 ≤ (rd_T79 l0 (j : Int)).f1 * (rd_T79 l0 (q : Int)).f2) && chainB (l0.drop j))) := ⟨by
              have h := test_step l0 j HJL.out (by have := HQ.out; omega) (by rw [show j - 1 = q by have := HQ.out; omega]; exact HQR.out)
              rw [HRJ.out, Bool.true_and, show j - 1 = q by have := HQ.out; omega] at h
              rw [show j - 1 = q by have := HQ.out; omega]; exact h⟩
            by_cases hc : (rd_T79 l0 (j : Int)).f1 * (rd_T79 l0 (q : Int)).f2 < (rd_T79 l0 (q : Int)).f1 * (rd_T79 l0 (j : Int)).f2
            · have hcd : decide (wrap64 ((rd_T79 l0 (j : Int)).f1 * (rd_T79 l0 (q : Int)).f2) < wrap64 ((rd_T79 l0 (q : Int)).f1 * (rd_T79 l0 (j : Int)).f2)) = true := by rw [HM.out.1, HM.out.2]; exact decide_eq_true hc
              have HX : Aside0 (chainB l0 = false) := ⟨by rw [HJ.out.2.2.2, HTS.out, decide_eq_false (by omega)]; rfl⟩
              clear hc
              go_wp2
              replace BKgx := kd_ BKgx
              replace HB := bd_ HB
              refine sM_ [] (fun w' => (w'.cell? ⟨gx, 0, none⟩ = some (.int .i64 (rd_T79 l0 (j : Int)).f0) ∧ w'.cell? ⟨gx, 1, none⟩ = some (.int .i64 (rd_T79 l0 (j : Int)).f1) ∧ w'.cell? ⟨gx, 2, none⟩ = some (.int .i64 (rd_T79 l0 (j : Int)).f2)) ∧ w'.cell? ⟨(ad.add (q * 3)).block, (ad.add (q * 3)).off + 1, none⟩ = some (.int .i64 (rd_T79 l0 (q : Int)).f1) ∧ w'.cell? ⟨(ad.add (q * 3)).block, (ad.add (q * 3)).off + 2, none⟩ = some (.int .i64 (rd_T79 l0 (q : Int)).f2)) vessel_Check.tab6 vessel_Check.bits6 ⟨c3_ BKgx, pw_cell_below HB.out Y1.out, pw_cell_below HB.out Y2.out⟩ (fun hHeld HT_ HW_ => ?_)
              generalize w2.drew = w3 at BKgx HB hHeld ⊢
              refine tM_ HT_ HW_ hHeld 0 20 1 ?_
              refine oM_ HT_ 1 (some 21) 3 (fun K hK => ?_)
              refine gM_ Tryz.func59 (C1.out _) ?_
              rintro e w4 ⟨rfl, hb⟩
              refine ⟨.bool _, rfl, ?_⟩
              replace hb := nb_ HB hb
              replace BKgx := kb_ BKgx hb
              replace HB := bs_ HB hb
              (try clear hb)
              refine hK.out _ _ ⟨c3_ BKgx, pw_cell_below HB.out Y1.out, pw_cell_below HB.out Y2.out⟩ (fun hHeld => ?_)
              clear hK K
              refine nM_ ?_
              refine pM_ HT_ 2 22 7 ?_
              refine pM_ HT_ 3 23 15 ?_
              refine pM_ HT_ 4 24 31 ?_
              refine pM_ HT_ 5 25 63 ?_
              refine pM_ HT_ 6 26 127 ?_
              refine pM_ HT_ 7 27 255 ?_
              refine pM_ HT_ 9 29 767 ?_
              refine pM_ HT_ 10 30 1791 ?_
              refine pM_ HT_ 11 31 3839 ?_
              refine pM_ HT_ 12 32 7935 ?_
              refine pM_ HT_ 13 33 16127 ?_
              refine pM_ HT_ 16 36 81663 ?_
              refine pM_ HT_ 17 37 212735 ?_
              refine pM_ HT_ 18 38 474879 ?_
              refine pM_ HT_ 19 39 999167 ?_
              refine pM_ HT_ 20 40 2047743 ?_
              refine pM_ HT_ 22 42 6242047 ?_
              refine tM_ HT_ HW_ hHeld 8 28 6242303 ?_
              refine tM_ HT_ HW_ hHeld 14 34 6258687 ?_
              refine pM_ HT_ 15 35 6291455 ?_
              refine tM_ HT_ HW_ hHeld 21 41 8388607 ?_
              refine tM_ HT_ HW_ hHeld 23 43 16777215 ?_
              refine pM_ HT_ 24 44 33554431 ?_
              refine pM_ HT_ 25 45 67108863 ?_
              refine pM_ HT_ 26 46 134217727 ?_
              refine pM_ HT_ 27 47 268435455 ?_
              refine dM_ HT_ ?_
              go_wp2
              go_ret
              exact ⟨by rw [HE.out, HX.out]; rfl, HB.out⟩
            · have hcd : decide (wrap64 ((rd_T79 l0 (j : Int)).f1 * (rd_T79 l0 (q : Int)).f2) < wrap64 ((rd_T79 l0 (q : Int)).f1 * (rd_T79 l0 (j : Int)).f2)) = false := by rw [HM.out.1, HM.out.2]; exact decide_eq_false hc
              have HX : Aside0 (chainB l0 = chainB (l0.drop (j + 1 - 1))) := ⟨by rw [HJ.out.2.2.2, HTS.out, decide_eq_true (by omega)]; rfl⟩
              clear hc
              go_wp2
              replace BKgx := kd_ BKgx
              replace HB := bd_ HB
              refine sM_ [] (fun w' => (w'.cell? ⟨gx, 0, none⟩ = some (.int .i64 (rd_T79 l0 (j : Int)).f0) ∧ w'.cell? ⟨gx, 1, none⟩ = some (.int .i64 (rd_T79 l0 (j : Int)).f1) ∧ w'.cell? ⟨gx, 2, none⟩ = some (.int .i64 (rd_T79 l0 (j : Int)).f2)) ∧ w'.cell? ⟨(ad.add (q * 3)).block, (ad.add (q * 3)).off + 1, none⟩ = some (.int .i64 (rd_T79 l0 (q : Int)).f1) ∧ w'.cell? ⟨(ad.add (q * 3)).block, (ad.add (q * 3)).off + 2, none⟩ = some (.int .i64 (rd_T79 l0 (q : Int)).f2)) vessel_Check.tab6 vessel_Check.bits6 ⟨c3_ BKgx, pw_cell_below HB.out Y1.out, pw_cell_below HB.out Y2.out⟩ (fun hHeld HT_ HW_ => ?_)
              generalize w2.drew = w3 at BKgx HB hHeld ⊢
              refine tM_ HT_ HW_ hHeld 0 20 1 ?_
              refine oM_ HT_ 1 (some 21) 3 (fun K hK => ?_)
              refine gM_ Tryz.func59 (C1.out _) ?_
              rintro e w4 ⟨rfl, hb⟩
              refine ⟨.bool _, rfl, ?_⟩
              replace hb := nb_ HB hb
              replace BKgx := kb_ BKgx hb
              replace HB := bs_ HB hb
              (try clear hb)
              refine hK.out _ _ ⟨c3_ BKgx, pw_cell_below HB.out Y1.out, pw_cell_below HB.out Y2.out⟩ (fun hHeld => ?_)
              clear hK K
              refine nM_ ?_
              refine pM_ HT_ 2 22 7 ?_
              refine pM_ HT_ 3 23 15 ?_
              refine pM_ HT_ 4 24 31 ?_
              refine pM_ HT_ 5 25 63 ?_
              refine pM_ HT_ 6 26 127 ?_
              refine pM_ HT_ 7 27 255 ?_
              refine pM_ HT_ 9 29 767 ?_
              refine pM_ HT_ 10 30 1791 ?_
              refine pM_ HT_ 11 31 3839 ?_
              refine pM_ HT_ 12 32 7935 ?_
              refine pM_ HT_ 13 33 16127 ?_
              refine pM_ HT_ 16 36 81663 ?_
              refine pM_ HT_ 17 37 212735 ?_
              refine pM_ HT_ 18 38 474879 ?_
              refine pM_ HT_ 19 39 999167 ?_
              refine pM_ HT_ 20 40 2047743 ?_
              refine pM_ HT_ 22 42 6242047 ?_
              refine tM_ HT_ HW_ hHeld 8 28 6242303 ?_
              refine tM_ HT_ HW_ hHeld 14 34 6258687 ?_
              refine pM_ HT_ 15 35 6291455 ?_
              refine tM_ HT_ HW_ hHeld 21 41 8388607 ?_
              refine tM_ HT_ HW_ hHeld 23 43 16777215 ?_
              refine pM_ HT_ 24 44 33554431 ?_
              refine pM_ HT_ 25 45 67108863 ?_
              refine pM_ HT_ 26 46 134217727 ?_
              refine pM_ HT_ 27 47 268435455 ?_
              refine dM_ HT_ ?_
              go_wp2
              go_roundg (gk - 1)
              case measure => have := HJ.out; have := HJL.out; omega
              case rel => exact ⟨j + 1, by rw [EW.out], ⟨by have := HJL.out; omega, by have := HJ.out; omega, .inr HRJ.out, HX.out⟩, HB⟩
      · have hd : decide ((j : Int) < (l0.length : Int)) = false := decide_eq_false (by omega)
        have hd2 : decide (j < l0.length) = false := decide_eq_false hj
        have HX : Aside0 (chainB l0 = true) := ⟨by have h := HJ.out; have := HL.out; rw [h.2.2.2, chain_last l0 (j - 1) (by omega)]; exact h.2.2.1.resolve_left (by omega)⟩
        clear hj
        go_wp2
        go_ret
        exact ⟨by rw [HE.out, HX.out]; rfl, HB.out⟩
  · have HE : Aside0 (checkF l0 = 20) := ⟨by unfold checkF validB; rw [decide_eq_false hL]; rfl⟩
    have hc : l0.length = 0 ∨ 0 < l0.length ∧ 24 < l0.length := by omega
    clear hL
    rcases hc with hc | ⟨hc1, hc2⟩
    · rw [HE.out]
      clear HE
      rw [hc]
      clear hc HR0
      go_enter Tryz.func26, Tryz.ntmps26
      go_wp2
      go_ret
      exact ⟨rfl, HB.out⟩
    · have q1 : decide ((l0.length : Int) < 1) = false := decide_eq_false (by omega)
      have q2 : decide (24 < (l0.length : Int)) = true := decide_eq_true (by omega)
      have q3 : decide (24 < l0.length) = true := decide_eq_true hc2
      have q4 : decide (l0.length = 0) = false := decide_eq_false (by omega)
      have q5 : ¬ l0.length = 0 := by omega
      rw [HE.out]
      clear HE hc1
      go_enter Tryz.func26, Tryz.ntmps26
      go_wp2
      go_ret
      exact ⟨rfl, HB.out⟩
theorem vessel_Check.calls (k : Nat) (A0 : Option Addr) (c0 : Nat) (l0 : List (S79)) (r : Int) (w : World) (hr0 : Kd.C k79 w A0 l0.length l0) (hc0 : l0.length ≤ c0) (h : vessel_Check.f k l0 = some r) :
    Calls Tryz.prog 26 #[.slice A0 l0.length c0] w fun e w' => e = .returned (.int .i64 r) ∧ Below w.heap.size w w' := by
  obtain rfl : checkF l0 = r := Option.some.inj h
  exact vessel_Check.run A0 c0 l0 w hr0
end Go.Proofs.YtlhfclpbodfmcaaGreatDoor.Pr
namespace Go.Proofs.YtlhfclpbodfmcaaGreatDoor.Pr
theorem vCheck (l : List S79) : vessel_Check.f 30 l = some (checkF l) := rfl
end Go.Proofs.YtlhfclpbodfmcaaGreatDoor.Pr
