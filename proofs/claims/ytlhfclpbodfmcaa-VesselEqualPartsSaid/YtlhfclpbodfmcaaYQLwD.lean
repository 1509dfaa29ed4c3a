/- A part of the proof: LwD. -/
import Derived.Test.YtlhfclpbodfmcaaYQVm
import Derived.Test.YtlhfclpbodfmcaaYQPr0
import Derived.Test.YtlhfclpbodfmcaaXRt
import Derived.Lib.AppendZeros
import Derived.Test.YtlhfclpbodfmcaaXLb
import Derived.Test.YtlhfclpbodfmcaaXSn
namespace Go.Proofs.Ytlhfclpbodfmcaa.Pr
open Go.RowKit Go.Proofs.YtlhfclpbodfmcaaW.PrintWords Go.Proofs.YtlhfclpbodfmcaaW.PrintLast Go.Proofs.YtlhfclpbodfmcaaW.PrintMore
open Go.Proofs.Ytlhfclpbodfmcaa.Vm
set_option linter.unusedVariables false
set_option linter.unusedSimpArgs false
attribute [local go_sem] fld27_0 fld27_1
theorem bsN_ {P : Program} {ops : Array Oper} {Q : Exit → Act → World → Prop} {o : Oper} {a : Act} {W : World} {Kc : Act → World → Prop} (N : Tmp) (cs : Array Value) (t : TypeId)
    (h : ∀ g, g = W.heap.size → ∀ w1, w1.heap[g]? = some (.cells cs t (0, 0)) → Below W.heap.size W w1 → Kc (a.put (some N) (.pointer (some ⟨g, 0, none⟩))) w1)
    (hw : Region.wanted o (yielded ops a.tmps) = true := by rfl) (hd : o.dst = some N := by rfl) (hrun : (execOp a.eval o).run P W = .ok (.value (.pointer (some ⟨W.heap.size, 0, none⟩))) (W.alloc (.cells cs t (0, 0))) := by first | (go_simp; done) | (go_simp; rfl)) : if Region.wanted o (yielded ops a.tmps) = true then Oper.wp P o a W Kc Q else Kc (a.put o.dst undef) W :=
  bs2_ N cs t (fun g hg w1 h1 h2 => by rw [hd]; exact h g hg w1 h1 h2) hw hd hrun
theorem row27 {W : World} {g : Nat} {x : S27} (h : W.heap[g]? = some (.cells #[.int .i64 x.f0, .int .i64 x.f1] 27 (0, 0))) : Kd.C k27 W (some ⟨g, 0, none⟩) [x].length [x] := by
  refine ⟨rfl, by simp, fun _ => ⟨⟨g, 0, none⟩, rfl, fun j p hj => ?_⟩⟩
  rcases j with _ | j
  · simp at hj; subst hj
    refine ⟨[.int .i64 x.f0, .int .i64 x.f1], rfl, k27_mk _ _, fun i u hu => ?_⟩
    rcases i with _ | _ | i
    · simp at hu; subst hu; simpa [add_plain] using (blk_cell h 0)
    · simp at hu; subst hu; simpa [add_plain] using (blk_cell h 1)
    · simp at hu
  · simp at hj
theorem row3 {W : World} {A0 A1 A2 : Option Addr} {c0 c1 c2 g : Nat} {l0 l1 l2 : List S27} (h0 : Kd.C k27 W A0 l0.length l0) (k0 : l0.length ≤ c0) (h1 : Kd.C k27 W A1 l1.length l1) (k1 : l1.length ≤ c1) (h2 : Kd.C k27 W A2 l2.length l2) (k2 : l2.length ≤ c2)
    (hg : W.heap[g]? = some (.cells #[.slice A0 l0.length c0, .slice A1 l1.length c1, .slice A2 l2.length c2] 62 (0, 0))) : Kd.C (Kd.slice 27 k27) W (some ⟨g, 0, none⟩) [l0, l1, l2].length [l0, l1, l2] := by
  refine ⟨rfl, by simp, fun _ => ⟨⟨g, 0, none⟩, rfl, fun j p hj => ?_⟩⟩
  rcases j with _ | _ | _ | j
  · simp at hj; subst hj
    refine ⟨[.slice A0 l0.length c0], rfl, ⟨A0, c0, rfl, k0, h0⟩, fun i u hu => ?_⟩
    rcases i with _ | i
    · simp at hu; subst hu; simpa [add_plain] using (blk_cell hg 0)
    · simp at hu
  · simp at hj; subst hj
    refine ⟨[.slice A1 l1.length c1], rfl, ⟨A1, c1, rfl, k1, h1⟩, fun i u hu => ?_⟩
    rcases i with _ | i
    · simp at hu; subst hu; simpa [add_plain, show (Kd.slice 27 k27).sz = 1 from rfl] using (blk_cell hg 1)
    · simp at hu
  · simp at hj; subst hj
    refine ⟨[.slice A2 l2.length c2], rfl, ⟨A2, c2, rfl, k2, h2⟩, fun i u hu => ?_⟩
    rcases i with _ | i
    · simp at hu; subst hu; simpa [add_plain, show (Kd.slice 27 k27).sz = 1 from rfl] using (blk_cell hg 2)
    · simp at hu
  · simp at hj
theorem eq_marks {l : List S79} {n : Int} (hv : validB l = true) (hp : 1 ≤ n ∧ n ≤ 60) : MarksF l n = (marksL l n (n - 1).toNat, 0) := by unfold MarksF; rw [if_pos hv, if_pos hp]
theorem sizes_ok {l : List S79} (hv : validB l = true) : SizesF l = (sm (hsO l), sm (vsO l), sm (dsO l), 0) := by unfold SizesF; rw [if_pos hv]
def equalParts.T13 : Bool × List (List Nat × List Nat) := (true, [([], []), ([], []), ([0, 1], [0, 1]), ([2], [2]), ([3], [3]), ([], []), ([], []), ([6], [6]), ([5, 7], [5, 7]), ([8], [8]), ([9], [9]), ([4, 10], [4, 10]), ([11], [11]), ([12], [12]), ([12], [12]), ([13, 14, 12], [12, 13, 14]), ([15, 12], [12, 15]), ([16, 12], [12, 16]), ([12], [12]), ([12], [12]), ([19, 12], [12, 19]), ([18, 20, 12], [12, 18, 20]), ([21, 12], [12, 21]), ([22, 12], [12, 22]), ([17, 23, 12], [12, 17, 23]), ([12, 24], [12, 24]), ([25, 12], [25]), ([26], [26]), ([26], [26]), ([27, 28, 26], [26, 27, 28]), ([29, 26], [26, 29]), ([30, 26], [26, 30]), ([26], [26]), ([26], [26]), ([32, 33, 26], [26, 32, 33]), ([34, 26], [26, 34]), ([35, 26], [26, 35]), ([31, 36, 26], [26, 31, 36]), ([26, 37], [26, 37])])
def equalParts.B13 : List Nat := [0, 0, 3, 7, 15, 0, 0, 64, 224, 480, 992, 2047, 4095, 8191, 8191, 32767, 65535, 131071, 8191, 8191, 532479, 1843199, 3940351, 8134655, 16777215, 33554431, 67108863, 134217727, 134217727, 536870911, 1073741823, 2147483647, 134217727, 134217727, 13019119615, 30198988799, 64558727167, 137438953471, 274877906943]
theorem equalParts.tab13 : rtab .any (opsOf Try.f15 13) = equalParts.T13 := by kernel_rfl
theorem equalParts.bits13 : waitsOk equalParts.T13.2 equalParts.B13 = true := by kernel_rfl
def equalParts.T15 : Bool × List (List Nat × List Nat) := (true, [([], []), ([], []), ([0, 1], [0, 1]), ([2], [2]), ([3], [3]), ([], []), ([], []), ([6], [6]), ([5, 7], [5, 7]), ([8], [8]), ([9], [9]), ([4, 10], [4, 10])])
def equalParts.B15 : List Nat := [0, 0, 3, 7, 15, 0, 0, 64, 224, 480, 992, 2047]
theorem equalParts.tab15 : rtab .any (opsOf Try.f15 15) = equalParts.T15 := by kernel_rfl
theorem equalParts.bits15 : waitsOk equalParts.T15.2 equalParts.B15 = true := by kernel_rfl
def equalParts.T16 : Bool × List (List Nat × List Nat) := (true, [([], []), ([], []), ([], []), ([2], [2]), ([1, 3], [1, 3]), ([4], [4]), ([5], [5]), ([], []), ([], []), ([7, 8], [7, 8]), ([9], [9]), ([10], [10]), ([0, 6, 11], [0, 6, 11]), ([12], [12]), ([13], [13]), ([13], [13]), ([], []), ([16, 14, 12, 0, 1, 2, 3, 4, 5, 6, 7, 8, 9, 10, 11, 12, 13, 14, 16], [14, 16]), ([15, 17, 0, 1, 2, 3, 4, 5, 6, 7, 8, 9, 10, 11, 12, 13, 14, 15, 16, 17], [15])])
def equalParts.B16 : List Nat := [0, 0, 0, 4, 14, 30, 62, 0, 0, 384, 896, 1920, 4095, 8191, 16383, 16383, 0, 98303, 262143]
theorem equalParts.tab16 : rtab .any (opsOf Try.f15 16) = equalParts.T16 := by kernel_rfl
theorem equalParts.bits16 : waitsOk equalParts.T16.2 equalParts.B16 = true := by kernel_rfl
def equalParts.T17 : Bool × List (List Nat × List Nat) := (true, [([], []), ([0], [0]), ([1], [1]), ([2], [2]), ([3, 2], [2, 3]), ([2], [2]), ([2], [2]), ([5, 6, 2], [2, 5, 6]), ([7, 2], [2, 7]), ([2], [2]), ([8, 9, 2], [2, 8, 9]), ([4, 10, 2], [2, 4, 10]), ([2, 11], [2, 11])])
def equalParts.B17 : List Nat := [0, 1, 3, 7, 15, 7, 7, 103, 231, 7, 999, 2047, 4095]
theorem equalParts.tab17 : rtab .any (opsOf Try.f15 17) = equalParts.T17 := by kernel_rfl
theorem equalParts.bits17 : waitsOk equalParts.T17.2 equalParts.B17 = true := by kernel_rfl
set_option maxHeartbeats 1600000 in
set_option maxRecDepth 100000 in
theorem equalParts.walk (A0 : Option Addr) (c0 : Nat) (l0 : List S79) (n : Int) (w : World) (hr0 : Kd.C k79 w A0 l0.length l0) (hc0 : l0.length ≤ c0) :
    Calls Try.prog 15 #[.slice A0 l0.length c0, .int .i64 n] w fun e w' => e = .returned (.bool true) ∧ Below w.heap.size w w' := by
  have hu27 := Try.underlying27
  have HR0 := Aside0.mk hr0
  have HC0 := Aside0.mk hc0
  clear hr0 hc0
  have HB := Aside0.mk (Below.refl w.heap.size w)
  cases hR : rightB l0 [] [] with
  | false =>
    have HRT : Aside0 (waterhourlaw02_right.f l0 [] [] = some false) := ⟨by simp [waterhourlaw02_right.f, hR]⟩
    clear hR
    go_enter Try.func15, Try.ntmps15
    go_wp2_with fail
    refine (waterhourlaw02_sane.calls true _ rfl).mono ?_
    rintro e w1 ⟨rfl, hb⟩
    replace hb := nb_ HB hb
    replace HB := bs_ HB hb
    clear hb
    go_wp2_with fail
    have K1 : Kd.C (Kd.int .i64) w1 none 0 [] := Kd.C_nil _ _
    have K2 := K1
    refine (waterhourlaw02_right.calls A0 c0 l0 _ 0 [] _ 0 [] false _ (kc_ HR0 HB) HC0.out K1 (Nat.le_refl _) K2 (Nat.le_refl _) HRT.out).mono ?_
    rintro e w2 ⟨rfl, hb⟩
    replace hb := nb_ HB hb
    replace HB := bs_ HB hb
    clear hb
    clear K1 K2
    go_wp2
    go_ret
    exact ⟨by first | rfl | (simp; done), by first | exact HB.out | exact fb_ HB⟩
  | true =>
    have HRT : Aside0 (waterhourlaw02_right.f l0 [] [] = some true) := ⟨by simp [waterhourlaw02_right.f, hR]⟩
    have HV := Aside0.mk (rightP hR).1
    clear hR
    have hc : n < 1 ∨ ¬ n < 1 ∧ (60 < n ∨ 1 ≤ n ∧ n ≤ 60) := by omega
    rcases hc with h | ⟨h, h2 | h2⟩
    · have d1 : decide (n < 1) = true := decide_eq_true (by omega)
      clear h
      go_enter Try.func15, Try.ntmps15
      go_wp2_with fail
      refine (waterhourlaw02_sane.calls true _ rfl).mono ?_
      rintro e w1 ⟨rfl, hb⟩
      replace hb := nb_ HB hb
      replace HB := bs_ HB hb
      clear hb
      go_wp2_with fail
      have K1 : Kd.C (Kd.int .i64) w1 none 0 [] := Kd.C_nil _ _
      have K2 := K1
      refine (waterhourlaw02_right.calls A0 c0 l0 _ 0 [] _ 0 [] true _ (kc_ HR0 HB) HC0.out K1 (Nat.le_refl _) K2 (Nat.le_refl _) HRT.out).mono ?_
      rintro e w2 ⟨rfl, hb⟩
      replace hb := nb_ HB hb
      replace HB := bs_ HB hb
      clear hb
      clear K1 K2
      go_wp2
      go_ret
      exact ⟨by first | rfl | (simp; done), by first | exact HB.out | exact fb_ HB⟩
    · have d1 : decide (n < 1) = false := decide_eq_false (by omega)
      have d2 : decide (60 < n) = true := decide_eq_true (by omega)
      clear h h2
      go_enter Try.func15, Try.ntmps15
      go_wp2_with fail
      refine (waterhourlaw02_sane.calls true _ rfl).mono ?_
      rintro e w1 ⟨rfl, hb⟩
      replace hb := nb_ HB hb
      replace HB := bs_ HB hb
      clear hb
      go_wp2_with fail
      have K1 : Kd.C (Kd.int .i64) w1 none 0 [] := Kd.C_nil _ _
      have K2 := K1
      refine (waterhourlaw02_right.calls A0 c0 l0 _ 0 [] _ 0 [] true _ (kc_ HR0 HB) HC0.out K1 (Nat.le_refl _) K2 (Nat.le_refl _) HRT.out).mono ?_
      rintro e w2 ⟨rfl, hb⟩
      replace hb := nb_ HB hb
      replace HB := bs_ HB hb
      clear hb
      clear K1 K2
      go_wp2
      go_ret
      exact ⟨by first | rfl | (simp; done), by first | exact HB.out | exact fb_ HB⟩
    · have d1 : decide (n < 1) = false := decide_eq_false (by omega)
      have d2 : decide (60 < n) = false := decide_eq_false (by omega)
      have HN := Aside0.mk h2
      obtain ⟨p, hp⟩ : ∃ p, marksL l0 n (n - 1).toNat = p := ⟨_, rfl⟩
      have Hp : Aside0 (vessel_Marks.f l0 n = some (p, 0)) := ⟨congrArg some (by rw [eq_marks HV.out h2, hp])⟩
      have hpl : (p.length : Int) = n - 1 := by rw [← hp, marksL_length]; omega
      obtain ⟨sh, hsh⟩ : ∃ x, sm (hsO l0) = x := ⟨_, rfl⟩
      obtain ⟨sd, hsd⟩ : ∃ x, sm (dsO l0) = x := ⟨_, rfl⟩
      have HS : Aside0 (vessel_Sizes.f l0 = some (sh, sm (vsO l0), sd, 0)) := ⟨congrArg some (by rw [← hsh, ← hsd]; exact sizes_ok HV.out)⟩
      obtain ⟨el, hel⟩ : ∃ x, eqList l0 n = x := ⟨_, rfl⟩
      have HEL : Aside0 (([[⟨sh, sh⟩], p, [⟨0, 0⟩]] : List (List S27)).flatten = el) := ⟨by rw [← hel, ← hsh, ← hp]; rfl⟩
      have HLN : Aside0 ((el.length : Int) = n + 1) := ⟨by rw [← hel]; exact eqList_length l0 h2.1⟩
      have HST : Aside0 (∀ k : Nat, (k : Int) + 1 ≤ n → StepS l0 n (rd_T27 el (k : Int)) (rd_T27 el ((k + 1 : Nat) : Int))) := ⟨fun k hk => by rw [← hel]; exact step_says HV.out h2 k hk⟩
      have HSD : Aside0 (sm (dsO l0) = sd ∧ 0 ≤ sd ∧ sd ≤ 480000) := ⟨⟨hsd, by rw [← hsd]; exact (valid_GV HV.out).d.pos.sum, by rw [← hsd]; exact (valid_GV HV.out).sums.2.2⟩⟩
      have e1 : wrap64 (n - 1) = n - 1 := by unfold wrap64; omega
      have q1 : ((p.length : Int) == n - 1) = true := beq_iff_eq.2 hpl
      have q2 : ((p.length : Int) != n - 1) = false := by unfold bne; rw [q1]; rfl
      have HPL := Aside0.mk hpl
      clear h h2 hp hpl hsh hsd hel
      have HCC : Aside0 (∀ W A c, Kd.C (Kd.slice 27 k27) W A 3 ([[⟨sh, sh⟩], p, [⟨0, 0⟩]] : List (List S27)) → Calls Try.prog 67 #[.slice A 3 c] W fun e w' => ∃ v, e = .returned v ∧ Kd.R k27 27 w' W.heap.size (fun _ => True) v el ∧ Below W.heap.size W w') := ⟨fun W A c h => by
        have hh := concat_run A c ([[⟨sh, sh⟩], p, [⟨0, 0⟩]] : List (List S27)) W h (by simp) (by rw [HEL.out]; have := HLN.out; have := HN.out; omega) (by rw [HEL.out]; have := HLN.out; have := HN.out; omega)
        rwa [HEL.out] at hh⟩
      go_enter Try.func15, Try.ntmps15
      go_wp2_with fail
      refine (waterhourlaw02_sane.calls true _ rfl).mono ?_
      rintro e w1 ⟨rfl, hb⟩
      replace hb := nb_ HB hb
      replace HB := bs_ HB hb
      clear hb
      go_wp2_with fail
      have K1 : Kd.C (Kd.int .i64) w1 none 0 [] := Kd.C_nil _ _
      have K2 := K1
      refine (waterhourlaw02_right.calls A0 c0 l0 _ 0 [] _ 0 [] true _ (kc_ HR0 HB) HC0.out K1 (Nat.le_refl _) K2 (Nat.le_refl _) HRT.out).mono ?_
      rintro e w2 ⟨rfl, hb⟩
      replace hb := nb_ HB hb
      replace HB := bs_ HB hb
      clear hb
      clear K1 K2
      go_wp2_with fail
      refine (vessel_Marks.calls A0 c0 l0 n p 0 _ (kc_ HR0 HB) HC0.out Hp.out).mono ?_
      rintro e w3 ⟨v1, rfl, ho, hb⟩
      obtain ⟨A1, c1, rfl, hc1, k1⟩ := Kd.R_reads ho
      have C1 := Aside0.mk hc1
      have K1 := Aside0.mk k1
      clear ho hc1 k1
      replace hb := nb_ HB hb
      replace HB := bs_ HB hb
      clear hb
      go_wp2_with fail
      refine (vessel_Sizes.calls A0 c0 l0 sh (sm (vsO l0)) sd 0 _ (kc_ HR0 HB) HC0.out HS.out).mono ?_
      rintro e w4 ⟨rfl, hb⟩
      replace hb := nb_ HB hb
      replace K1 := Aside0.mk (Kd.C_below K1.out hb)
      replace HB := bs_ HB hb
      clear hb
      go_wp2_with fail
      refine (waterhourlaw02_span.calls sh sh sh sh _ rfl).mono ?_
      rintro e w5 ⟨rfl, hb⟩
      replace hb := nb_ HB hb
      replace K1 := Aside0.mk (Kd.C_below K1.out hb)
      replace HB := bs_ HB hb
      clear hb
      clear d1 d2 q1 q2 Hp HS HRT
      go_wp2_with fail
      have b1 := ba_ w5 (.cells #[.int .i64 sh, .int .i64 sh] 27 (0, 0))
      have n1 := blk_new w5 (.cells #[.int .i64 sh, .int .i64 sh] 27 (0, 0))
      generalize hw1 : w5.alloc (.cells #[.int .i64 sh, .int .i64 sh] 27 (0, 0)) = x1 at b1 n1 ⊢
      have s1 : x1.heap.size = w5.heap.size + 1 := by rw [← hw1, World.size_alloc]
      have b2 := ba_ x1 (.cells #[.int .i64 0, .int .i64 0] 27 (0, 0))
      have n2 := blk_new x1 (.cells #[.int .i64 0, .int .i64 0] 27 (0, 0))
      generalize hw2 : x1.alloc (.cells #[.int .i64 0, .int .i64 0] 27 (0, 0)) = x2 at b2 n2 ⊢
      have s2 : x2.heap.size = w5.heap.size + 2 := by rw [← hw2, World.size_alloc, s1]
      have b3 := ba_ x2 (.cells #[.slice (some ⟨w5.heap.size, 0, none⟩) 1 1, .slice A1 p.length c1, .slice (some ⟨w5.heap.size + 1, 0, none⟩) 1 1] 62 (0, 0))
      have n3 := blk_new x2 (.cells #[.slice (some ⟨w5.heap.size, 0, none⟩) 1 1, .slice A1 p.length c1, .slice (some ⟨w5.heap.size + 1, 0, none⟩) 1 1] 62 (0, 0))
      rw [s2] at n3
      rw [s1] at n2
      have hb := below_step (below_step b1 b2) b3
      have n2' := blk_below n2 b3
      have n1' := blk_below (blk_below n1 b2) b3
      have R3 := row3 (row27 (x := ⟨sh, sh⟩) n1') (Nat.le_refl _) (Kd.C_below K1.out hb) C1.out (row27 (x := ⟨0, 0⟩) n2') (Nat.le_refl _) n3
      refine (HCC.out _ _ 3 R3).mono ?_
      rintro e wK ⟨v1, rfl, ho, hb2⟩
      replace hb2 := below_step hb hb2
      have HB0 := Aside0.mk (below_step HB.out hb2)
      obtain ⟨A2, c2, rfl, hc2, k2⟩ := Kd.R_reads ho
      have K2 := Aside0.mk k2
      have hr0 := kc_ HR0 HB0
      clear HR0 HB
      have HR0 := Aside0.mk hr0
      have HB := Aside0.mk (Below.refl wK.heap.size wK)
      clear hr0 ho hc2 k2 hb2 R3 n1' n2' n1 n2 n3 b1 b2 b3 hb hw1 hw2 s1 s2 K1 C1 HCC HEL
      (try clear x1 x2)
      go_wp2
      go_loopg [11] el.length (fun kq v11 w' => ∃ j : Nat, v11 = .int .i64 (j : Int) ∧ Aside0 (1 ≤ j ∧ j ≤ el.length ∧ el.length - j ≤ kq) ∧ Aside0 (Below wK.heap.size wK w'))
      case atStart => exact ⟨1, rfl, ⟨by omega, by have := HLN.out; have := HN.out; omega, by omega⟩, HB⟩
      case round =>
        clear HB
        obtain ⟨j, rfl, HI, HB⟩ := hrel
        by_cases hij : j < el.length
        · have hd : decide ((j : Int) < (el.length : Int)) = true := decide_eq_true (by omega)
          have hd2 : decide (j < el.length) = true := decide_eq_true hij
          have HIJ := Aside0.mk hij
          obtain ⟨k, hk⟩ : ∃ k : Nat, k + 1 = j := ⟨j - 1, by have := HI.out; omega⟩
          have HS1 : Aside0 (StepS l0 n (rd_T27 el (k : Int)) (rd_T27 el (j : Int))) := ⟨by have h := HST.out k (by have := HLN.out; omega); rw [hk] at h; exact h⟩
          have p0 : (0 : Int) ≤ (j : Int) := by omega
          have p1 : (j : Int) < (el.length : Int) := by omega
          have g0 : (0 : Int) ≤ (k : Int) := by omega
          have g1 : (k : Int) < (el.length : Int) := by omega
          obtain ⟨ad, e9, x0, x1⟩ := at_T27 K2.out (j : Int) p0 p1
          obtain ⟨ad2, e8, y0, y1⟩ := at_T27 K2.out (k : Int) g0 g1
          cases e9
          obtain rfl := Option.some.inj e8
          clear e8
          simp only [Int.toNat_natCast] at x0 x1 y0 y1
          have hkj : wrap64 ((j : Int) - 1) = (k : Int) := by have := HLN.out; have := HN.out; unfold wrap64; omega
          have EW : wrap64 ((j : Int) + 1) = ((j + 1 : Nat) : Int) := by have := HLN.out; have := HN.out; unfold wrap64; omega
          have HEW := Aside0.mk EW
          clear EW hk hij
          generalize rd_T27 el (j : Int) = b at *
          generalize rd_T27 el (k : Int) = a at *
          obtain ⟨b0, b1⟩ := b
          obtain ⟨a0, a1⟩ := a
          simp only at x0 x1 y0 y1
          have X0 := Aside0.mk x0
          have X1 := Aside0.mk x1
          have Y0 := Aside0.mk y0
          have Y1 := Aside0.mk y1
          clear x0 x1 y0 y1
          obtain ⟨s1, s2, s3, s4⟩ := HS1.out
          simp only at s1 s2 s3 s4
          have t1 : decide (a0 < b0) = false := decide_eq_false (by omega)
          have t2 : decide (a1 < b1) = false := decide_eq_false (by omega)
          have t3 : decide (b1 < b0) = false := decide_eq_false (by omega)
          have HS4 := Aside0.mk s4
          clear s1 s2 s3 s4 HS1
          go_wp2
          replace HB := bd_ HB
          refine sM_ [] (fun w' => w'.cell? (ad.add (j * 2)) = some (.int .i64 b0) ∧ w'.cell? ⟨(ad.add (j * 2)).block, (ad.add (j * 2)).off + 1, none⟩ = some (.int .i64 b1) ∧ w'.cell? (ad.add (k * 2)) = some (.int .i64 a0) ∧ w'.cell? ⟨(ad.add (k * 2)).block, (ad.add (k * 2)).off + 1, none⟩ = some (.int .i64 a1)) equalParts.tab13 equalParts.bits13 ⟨pw_cell_below HB.out X0.out, pw_cell_below HB.out X1.out, pw_cell_below HB.out Y0.out, pw_cell_below HB.out Y1.out⟩ (fun hHeld HT_ HW_ => ?_)
          generalize wr.drew = v1 at HB hHeld ⊢
          refine pM_ HT_ 0 68 1 ?_
          refine pM_ HT_ 1 69 3 ?_
          refine pM_ HT_ 2 70 7 ?_
          refine pM_ HT_ 3 71 15 ?_
          refine pM_ HT_ 5 73 47 ?_
          refine pM_ HT_ 6 74 111 ?_
          refine pM_ HT_ 7 75 239 ?_
          refine pM_ HT_ 8 76 495 ?_
          refine pM_ HT_ 9 77 1007 ?_
          refine tM_ HT_ HW_ hHeld 4 72 1023 ?_
          refine tM_ HT_ HW_ hHeld 10 78 2047 ?_
          refine pM_ HT_ 11 79 4095 ?_
          refine pM_ HT_ 12 80 8191 ?_
          refine pM_ HT_ 13 81 16383 ?_
          refine pM_ HT_ 14 82 32767 ?_
          refine pM_ HT_ 15 83 65535 ?_
          refine pM_ HT_ 16 84 131071 ?_
          refine pM_ HT_ 18 86 393215 ?_
          refine pM_ HT_ 19 87 917503 ?_
          refine pM_ HT_ 20 88 1966079 ?_
          refine pM_ HT_ 21 89 4063231 ?_
          refine pM_ HT_ 22 90 8257535 ?_
          refine tM_ HT_ HW_ hHeld 17 85 8388607 ?_
          refine tM_ HT_ HW_ hHeld 23 91 16777215 ?_
          refine pM_ HT_ 24 92 33554431 ?_
          refine pM_ HT_ 25 93 67108863 ?_
          refine pM_ HT_ 26 94 134217727 ?_
          refine pM_ HT_ 27 95 268435455 ?_
          refine pM_ HT_ 28 96 536870911 ?_
          refine pM_ HT_ 29 97 1073741823 ?_
          refine pM_ HT_ 30 98 2147483647 ?_
          refine pM_ HT_ 32 100 6442450943 ?_
          refine pM_ HT_ 33 101 15032385535 ?_
          refine pM_ HT_ 34 102 32212254719 ?_
          refine pM_ HT_ 35 103 66571993087 ?_
          refine tM_ HT_ HW_ hHeld 31 99 68719476735 ?_
          refine tM_ HT_ HW_ hHeld 36 104 137438953471 ?_
          refine pM_ HT_ 37 105 274877906943 ?_
          refine pM_ HT_ 38 106 549755813887 ?_
          refine dM_ HT_ ?_
          clear t1 t2 t3
          rcases HS4.out with t4 | ⟨t4, s, t, hs, ht⟩
          all_goals clear HS4
          · have t5 : decide (a0 < b1) = true := decide_eq_true t4
            clear t4
            go_wp2
            replace HB := bd_ HB
            refine sM_ [] (fun w' => w'.cell? (ad.add (j * 2)) = some (.int .i64 b0) ∧ w'.cell? ⟨(ad.add (j * 2)).block, (ad.add (j * 2)).off + 1, none⟩ = some (.int .i64 b1) ∧ w'.cell? (ad.add (k * 2)) = some (.int .i64 a0) ∧ w'.cell? ⟨(ad.add (k * 2)).block, (ad.add (k * 2)).off + 1, none⟩ = some (.int .i64 a1)) equalParts.tab15 equalParts.bits15 ⟨pw_cell_below HB.out X0.out, pw_cell_below HB.out X1.out, pw_cell_below HB.out Y0.out, pw_cell_below HB.out Y1.out⟩ (fun hHeld HT_ HW_ => ?_)
            generalize v1.drew = v2 at HB hHeld ⊢
            refine pM_ HT_ 0 107 1 ?_
            refine pM_ HT_ 1 108 3 ?_
            refine pM_ HT_ 2 109 7 ?_
            refine pM_ HT_ 3 110 15 ?_
            refine pM_ HT_ 5 112 47 ?_
            refine pM_ HT_ 6 113 111 ?_
            refine pM_ HT_ 7 114 239 ?_
            refine pM_ HT_ 8 115 495 ?_
            refine pM_ HT_ 9 116 1007 ?_
            refine tM_ HT_ HW_ hHeld 4 111 1023 ?_
            refine tM_ HT_ HW_ hHeld 10 117 2047 ?_
            refine pM_ HT_ 11 118 4095 ?_
            refine dM_ HT_ ?_
            go_wp2
            go_roundg (gk - 1)
            case measure => have := HI.out; have := HIJ.out; omega
            case rel => exact ⟨j + 1, by rw [HEW.out], ⟨by omega, by have := HIJ.out; omega, by have := HI.out; omega⟩, HB⟩
          · have t5 : decide (a0 < b1) = false := decide_eq_false (by omega)
            have HSK : Aside0 (vessel_Sinking.f l0 a0 b1 = some (s, t, 0)) := ⟨congrArg some hs⟩
            have HTT : Aside0 (t ≤ (sd + n - 1) / n) := ⟨by have := HSD.out.1; rw [← this]; exact ht⟩
            clear t4 hs ht
            go_wp2
            replace HB := bd_ HB
            refine sM_ [] (fun w' => w'.cell? (ad.add (j * 2)) = some (.int .i64 b0) ∧ w'.cell? ⟨(ad.add (j * 2)).block, (ad.add (j * 2)).off + 1, none⟩ = some (.int .i64 b1) ∧ w'.cell? (ad.add (k * 2)) = some (.int .i64 a0) ∧ w'.cell? ⟨(ad.add (k * 2)).block, (ad.add (k * 2)).off + 1, none⟩ = some (.int .i64 a1)) equalParts.tab15 equalParts.bits15 ⟨pw_cell_below HB.out X0.out, pw_cell_below HB.out X1.out, pw_cell_below HB.out Y0.out, pw_cell_below HB.out Y1.out⟩ (fun hHeld HT_ HW_ => ?_)
            generalize v1.drew = v2 at HB hHeld ⊢
            refine pM_ HT_ 0 107 1 ?_
            refine pM_ HT_ 1 108 3 ?_
            refine pM_ HT_ 2 109 7 ?_
            refine pM_ HT_ 3 110 15 ?_
            refine pM_ HT_ 5 112 47 ?_
            refine pM_ HT_ 6 113 111 ?_
            refine pM_ HT_ 7 114 239 ?_
            refine pM_ HT_ 8 115 495 ?_
            refine pM_ HT_ 9 116 1007 ?_
            refine tM_ HT_ HW_ hHeld 4 111 1023 ?_
            refine tM_ HT_ HW_ hHeld 10 117 2047 ?_
            refine pM_ HT_ 11 118 4095 ?_
            refine dM_ HT_ ?_
            go_wp2
            replace HB := bd_ HB
            refine sM_ [] (fun w' => w'.cell? (ad.add (j * 2)) = some (.int .i64 b0) ∧ w'.cell? ⟨(ad.add (j * 2)).block, (ad.add (j * 2)).off + 1, none⟩ = some (.int .i64 b1) ∧ w'.cell? (ad.add (k * 2)) = some (.int .i64 a0) ∧ w'.cell? ⟨(ad.add (k * 2)).block, (ad.add (k * 2)).off + 1, none⟩ = some (.int .i64 a1)) equalParts.tab16 equalParts.bits16 ⟨pw_cell_below HB.out X0.out, pw_cell_below HB.out X1.out, pw_cell_below HB.out Y0.out, pw_cell_below HB.out Y1.out⟩ (fun hHeld HT_ HW_ => ?_)
            generalize v2.drew = v3 at HB hHeld ⊢
            refine pM_ HT_ 0 120 1 ?_
            refine pM_ HT_ 1 121 3 ?_
            refine pM_ HT_ 2 122 7 ?_
            refine pM_ HT_ 3 123 15 ?_
            refine pM_ HT_ 4 124 31 ?_
            refine pM_ HT_ 5 125 63 ?_
            refine pM_ HT_ 7 127 191 ?_
            refine pM_ HT_ 8 128 447 ?_
            refine pM_ HT_ 9 129 959 ?_
            refine pM_ HT_ 10 130 1983 ?_
            refine tM_ HT_ HW_ hHeld 6 126 2047 ?_
            refine tM_ HT_ HW_ hHeld 11 131 4095 ?_
            refine twM_ HT_ 12 (some 132) 8191 16 (some 12) 69631 (fun K hK => ?_) (fun K hK => ?_)
            · refine gM_ Try.func21 (vessel_Sinking.calls A0 c0 l0 a0 b1 s t 0 _ (kc_ HR0 HB) HC0.out HSK.out) ?_
              rintro e z2 ⟨rfl, hb⟩
              refine ⟨.tuple #[.agg #[.int .i64 _, .int .i64 _], .int .i64 _], rfl, ?_⟩
              replace hb := nb_ HB hb
              replace HB := bs_ HB hb
              (try clear hb)
              refine hK.out _ _ ⟨pw_cell_below HB.out X0.out, pw_cell_below HB.out X1.out, pw_cell_below HB.out Y0.out, pw_cell_below HB.out Y1.out⟩ (fun hHeld => ?_)
              clear hK K
              refine nM_ ?_
              refine pM_ HT_ 13 119 16383 ?_
              refine pM_ HT_ 14 133 32767 ?_
              refine pM_ HT_ 15 134 65535 ?_
              refine oM_ HT_ 16 (some 12) 131071 (fun K hK => ?_)
              refine bsN_ 12 #[.int .i64 0, .int .i64 0] 27 ?_
              intro gs hg z3 hbox hb
              have GEgs := ge_ hg HB
              replace hb := nb_ HB hb
              replace HB := bs_ HB hb
              have BKgs := Aside0.mk hbox
              clear hb hbox hg
              refine hK.out _ _ ⟨pw_cell_below HB.out X0.out, pw_cell_below HB.out X1.out, pw_cell_below HB.out Y0.out, pw_cell_below HB.out Y1.out⟩ (fun hHeld => ?_)
              clear hK K
              refine nM_ ?_
              refine oM_ HT_ 17 none 262143 (fun K hK => ?_)
              have hc_ := cf2_ BKgs
              refine sk2_ ?_
              intro z4 hp_
              clear hc_
              replace BKgs := pp2_ BKgs hp_
              replace HB := pb2_ GEgs HB hp_
              clear hp_
              refine hK.out _ _ ⟨pw_cell_below HB.out X0.out, pw_cell_below HB.out X1.out, pw_cell_below HB.out Y0.out, pw_cell_below HB.out Y1.out⟩ (fun hHeld => ?_)
              clear hK K
              refine pM_ HT_ 18 13 524287 ?_
              refine dM_ HT_ ?_
              clear t5 hkj
              have e2 : wrap64 (sd + n) = sd + n := by have := HSD.out; have := HN.out; unfold wrap64; omega
              have e3 : wrap64 (sd + n - 1) = sd + n - 1 := by have := HSD.out; have := HN.out; unfold wrap64; omega
              have e4 : (sd + n - 1).tdiv n = (sd + n - 1) / n := Int.tdiv_eq_ediv_of_nonneg (by have := HSD.out; have := HN.out; omega)
              have z1 : (n == 0) = false := beq_eq_false_iff_ne.2 (by have := HN.out; omega)
              have z2 : ¬ n = 0 := by have := HN.out; omega
              have e5 : wrap64 ((sd + n - 1) / n) = (sd + n - 1) / n := by
                have hs := HSD.out
                have hn := HN.out
                have q1 := Int.ediv_le_self n (show 0 ≤ sd + n - 1 by omega)
                have q2 := Int.ediv_nonneg (show 0 ≤ sd + n - 1 by omega) (show 0 ≤ n by omega)
                unfold wrap64; omega
              have t6 : decide ((sd + n - 1) / n < t) = false := decide_eq_false (by have := HTT.out; omega)
              go_wp2
              replace BKgs := kd_ BKgs
              replace HB := bd_ HB
              refine sM_ [] (fun w' => (w'.cell? ⟨gs, 0, none⟩ = some (.int .i64 s) ∧ w'.cell? ⟨gs, 1, none⟩ = some (.int .i64 t))) equalParts.tab17 equalParts.bits17 (c2_ BKgs) (fun hHeld HT_ HW_ => ?_)
              generalize z4.drew = z5 at BKgs HB hHeld ⊢
              refine pM_ HT_ 0 135 1 ?_
              refine pM_ HT_ 1 136 3 ?_
              refine pM_ HT_ 2 137 7 ?_
              refine pM_ HT_ 3 138 15 ?_
              refine pM_ HT_ 5 140 47 ?_
              refine pM_ HT_ 6 141 111 ?_
              refine pM_ HT_ 7 142 239 ?_
              refine pM_ HT_ 8 143 495 ?_
              refine pM_ HT_ 9 144 1007 ?_
              refine pM_ HT_ 10 145 2031 ?_
              refine tM_ HT_ HW_ hHeld 4 139 2047 ?_
              refine pM_ HT_ 11 146 4095 ?_
              refine pM_ HT_ 12 147 8191 ?_
              refine dM_ HT_ ?_
              go_wp2
              go_roundg (gk - 1)
              case measure => have := HI.out; have := HIJ.out; omega
              case rel => exact ⟨j + 1, by rw [HEW.out], ⟨by omega, by have := HIJ.out; omega, by have := HI.out; omega⟩, HB⟩
            · refine bsN_ 12 #[.int .i64 0, .int .i64 0] 27 ?_
              intro gs hg z3 hbox hb
              have GEgs := ge_ hg HB
              replace hb := nb_ HB hb
              replace HB := bs_ HB hb
              have BKgs := Aside0.mk hbox
              clear hb hbox hg
              refine hK.out _ _ ⟨pw_cell_below HB.out X0.out, pw_cell_below HB.out X1.out, pw_cell_below HB.out Y0.out, pw_cell_below HB.out Y1.out⟩ (fun hHeld => ?_)
              clear hK K
              refine nM_ ?_
              refine oM_ HT_ 12 (some 132) 73727 (fun K hK => ?_)
              refine gM_ Try.func21 (vessel_Sinking.calls A0 c0 l0 a0 b1 s t 0 _ (kc_ HR0 HB) HC0.out HSK.out) ?_
              rintro e z2 ⟨rfl, hb⟩
              refine ⟨.tuple #[.agg #[.int .i64 _, .int .i64 _], .int .i64 _], rfl, ?_⟩
              replace hb := nb_ HB hb
              replace BKgs := kb_ BKgs hb
              replace HB := bs_ HB hb
              (try clear hb)
              refine hK.out _ _ ⟨pw_cell_below HB.out X0.out, pw_cell_below HB.out X1.out, pw_cell_below HB.out Y0.out, pw_cell_below HB.out Y1.out⟩ (fun hHeld => ?_)
              clear hK K
              refine nM_ ?_
              refine pM_ HT_ 13 119 81919 ?_
              refine pM_ HT_ 14 133 98303 ?_
              refine pM_ HT_ 15 134 131071 ?_
              refine oM_ HT_ 17 none 262143 (fun K hK => ?_)
              have hc_ := cf2_ BKgs
              refine sk2_ ?_
              intro z4 hp_
              clear hc_
              replace BKgs := pp2_ BKgs hp_
              replace HB := pb2_ GEgs HB hp_
              clear hp_
              refine hK.out _ _ ⟨pw_cell_below HB.out X0.out, pw_cell_below HB.out X1.out, pw_cell_below HB.out Y0.out, pw_cell_below HB.out Y1.out⟩ (fun hHeld => ?_)
              clear hK K
              refine pM_ HT_ 18 13 524287 ?_
              refine dM_ HT_ ?_
              clear t5 hkj
              have e2 : wrap64 (sd + n) = sd + n := by have := HSD.out; have := HN.out; unfold wrap64; omega
              have e3 : wrap64 (sd + n - 1) = sd + n - 1 := by have := HSD.out; have := HN.out; unfold wrap64; omega
              have e4 : (sd + n - 1).tdiv n = (sd + n - 1) / n := Int.tdiv_eq_ediv_of_nonneg (by have := HSD.out; have := HN.out; omega)
              have z1 : (n == 0) = false := beq_eq_false_iff_ne.2 (by have := HN.out; omega)
              have z2 : ¬ n = 0 := by have := HN.out; omega
              have e5 : wrap64 ((sd + n - 1) / n) = (sd + n - 1) / n := by
                have hs := HSD.out
                have hn := HN.out
                have q1 := Int.ediv_le_self n (show 0 ≤ sd + n - 1 by omega)
                have q2 := Int.ediv_nonneg (show 0 ≤ sd + n - 1 by omega) (show 0 ≤ n by omega)
                unfold wrap64; omega
              have t6 : decide ((sd + n - 1) / n < t) = false := decide_eq_false (by have := HTT.out; omega)
              go_wp2
              replace BKgs := kd_ BKgs
              replace HB := bd_ HB
              refine sM_ [] (fun w' => (w'.cell? ⟨gs, 0, none⟩ = some (.int .i64 s) ∧ w'.cell? ⟨gs, 1, none⟩ = some (.int .i64 t))) equalParts.tab17 equalParts.bits17 (c2_ BKgs) (fun hHeld HT_ HW_ => ?_)
              generalize z4.drew = z5 at BKgs HB hHeld ⊢
              refine pM_ HT_ 0 135 1 ?_
              refine pM_ HT_ 1 136 3 ?_
              refine pM_ HT_ 2 137 7 ?_
              refine pM_ HT_ 3 138 15 ?_
              refine pM_ HT_ 5 140 47 ?_
              refine pM_ HT_ 6 141 111 ?_
              refine pM_ HT_ 7 142 239 ?_
              refine pM_ HT_ 8 143 495 ?_
              refine pM_ HT_ 9 144 1007 ?_
              refine pM_ HT_ 10 145 2031 ?_
              refine tM_ HT_ HW_ hHeld 4 139 2047 ?_
              refine pM_ HT_ 11 146 4095 ?_
              refine pM_ HT_ 12 147 8191 ?_
              refine dM_ HT_ ?_
              go_wp2
              go_roundg (gk - 1)
              case measure => have := HI.out; have := HIJ.out; omega
              case rel => exact ⟨j + 1, by rw [HEW.out], ⟨by omega, by have := HIJ.out; omega, by have := HI.out; omega⟩, HB⟩
        · have hd : decide ((j : Int) < (el.length : Int)) = false := decide_eq_false (by omega)
          have hd2 : decide (j < el.length) = false := decide_eq_false hij
          clear hij
          go_wp2
          go_ret
          exact ⟨rfl, HB0.out.trans (HB.out.mono HB0.out.size)⟩
end Go.Proofs.Ytlhfclpbodfmcaa.Pr
