/- A part of the proof: Rt. -/
import Derived.Test.YtlhfclpbodfmcaaXFw
import Derived.Test.YtlhfclpbodfmcaaXTqF
namespace Go.Proofs.Ytlhfclpbodfmcaa.Pr
open Go.RowKit Go.Proofs.YtlhfclpbodfmcaaW.PrintWords Go.Proofs.YtlhfclpbodfmcaaW.PrintLast Go.Proofs.YtlhfclpbodfmcaaW.PrintMore
open Go.Proofs.Ytlhfclpbodfmcaa.Vm
set_option linter.unusedVariables false
set_option linter.unusedSimpArgs false
def lvlB (h n : Int) : Bool := decide (0 ≤ n) && decide (n ≤ h)
def rightB (l0 : List S79) (l1 l2 : List Int) : Bool := fewB l0 && (validB l0 && (l2.all (lvlB (sm (hsO l0))) && l1.all (lvlB 8388608)))
def waterhourlaw02_right.f (l0 : List S79) (l1 l2 : List Int) : Option Bool := if l1.length ≤ 1000 ∧ l2.length ≤ 1000 then some (rightB l0 l1 l2) else none
theorem all_firstI (p : Int → Bool) (l : List Int) : ∃ r : Nat, r ≤ l.length ∧ (∀ i : Nat, i < r → p (rd l (i : Int)) = true) ∧ (r < l.length → p (rd l (r : Int)) = false) ∧ l.all p = decide (¬ r < l.length) := all_first p 0 l
theorem lvlB_true {h n : Int} (hp : lvlB h n = true) : decide (n < 0) = false ∧ decide (h < n) = false := by
  unfold lvlB at hp
  rw [Bool.and_eq_true, decide_eq_true_iff, decide_eq_true_iff] at hp
  exact ⟨decide_eq_false (by omega), decide_eq_false (by omega)⟩
theorem lvlB_false {h n : Int} (hp : lvlB h n = false) : decide (n < 0) = true ∨ (decide (n < 0) = false ∧ decide (h < n) = true) := by
  unfold lvlB at hp
  by_cases h0 : n < 0
  · exact .inl (decide_eq_true h0)
  · rw [decide_eq_true (show 0 ≤ n by omega), Bool.true_and, decide_eq_false_iff_not] at hp
    exact .inr ⟨decide_eq_false h0, decide_eq_true (by omega)⟩
theorem litL {W : World} {A0 : Option Addr} {c0 : Nat} {l0 : List S79} (h : Kd.C k79 W A0 l0.length l0) (hc : l0.length ≤ c0) : Kd.C (Kd.slice 79 k79) (W.alloc (.cells #[.slice A0 l0.length c0] 23 (0, 0))) (some ⟨W.heap.size, 0, none⟩) ([l0] : List (List S79)).length [l0] := by
  refine ⟨rfl, by simp, fun _ => ⟨⟨W.heap.size, 0, none⟩, rfl, fun j p hj => ?_⟩⟩
  rcases j with _ | j
  · simp at hj
    subst hj
    refine ⟨[.slice A0 l0.length c0], rfl, ⟨A0, c0, rfl, hc, Kd.C_below h (below_alloc (Below.refl _ _) _)⟩, fun i u hu => ?_⟩
    rcases i with _ | i
    · simp at hu; subst hu; simp [add_plain]
    · simp at hu
  · simp at hj
set_option maxHeartbeats 1600000 in
set_option maxRecDepth 100000 in
theorem waterhourlaw02_right.calls (A0 : Option Addr) (c0 : Nat) (l0 : List S79) (A1 : Option Addr) (c1 : Nat) (l1 : List Int) (A2 : Option Addr) (c2 : Nat) (l2 : List Int) (r : Bool) (w : World) (hr0 : Kd.C k79 w A0 l0.length l0) (hc0 : l0.length ≤ c0) (hr1 : Kd.C (Kd.int .i64) w A1 l1.length l1) (hc1 : l1.length ≤ c1) (hr2 : Kd.C (Kd.int .i64) w A2 l2.length l2) (hc2 : l2.length ≤ c2) (h : waterhourlaw02_right.f l0 l1 l2 = some r) :
    Calls Try.prog 37 #[.slice A0 l0.length c0, .slice A1 l1.length c1, .slice A2 l2.length c2] w fun e w' => e = .returned (.bool r) ∧ Below w.heap.size w w' := by
  unfold waterhourlaw02_right.f at h
  by_cases hn : l1.length ≤ 1000 ∧ l2.length ≤ 1000
  case neg => rw [if_neg hn] at h; cases h
  rw [if_pos hn] at h
  obtain rfl := Option.some.inj h
  obtain ⟨hn1, hn2⟩ := hn
  clear h
  have HR0 := Aside0.mk hr0
  have HC0 := Aside0.mk hc0
  have HR1 := Aside0.mk hr1
  have HR2 := Aside0.mk hr2
  have hm1 := Kd.C_max hr1
  have hm2 := Kd.C_max hr2
  clear hr0 hc0 hr1 hr2
  have HB := Aside0.mk (Below.refl w.heap.size w)
  unfold rightB
  cases hf : fewB l0 with
  | false =>
    have HFW : Aside0 (waterhourlaw02_few.f [l0] = some false) := ⟨by simp [waterhourlaw02_few.f, hf]⟩
    clear hf
    go_enter Try.func37, Try.ntmps37
    go_wp2_with fail
    refine (waterhourlaw02_few.calls _ 1 [l0] false _ ?hC (by simp) ?hF).mono ?_
    (case hC => exact litL (Kd.C_below HR0.out HB.out) HC0.out)
    (case hF => exact HFW.out)
    rintro e w1 ⟨rfl, hb⟩
    replace hb := below_step (below_alloc (Below.refl _ _) _) hb
    replace hb := nb_ HB hb
    replace HB := bs_ HB hb
    clear hb
    go_wp2
    go_ret
    exact ⟨by first | rfl | simp, HB.out⟩
  | true =>
    have HFW : Aside0 (waterhourlaw02_few.f [l0] = some true) := ⟨by simp [waterhourlaw02_few.f, hf]⟩
    clear hf
    cases hv : validB l0 with
    | false =>
      have HK : Aside0 (vessel_Check.f 30 l0 = some 20) := ⟨by rw [vCheck]; unfold checkF; rw [hv]; rfl⟩
      clear hv
      go_enter Try.func37, Try.ntmps37
      go_wp2_with fail
      refine (waterhourlaw02_few.calls _ 1 [l0] true _ ?hC (by simp) ?hF).mono ?_
      (case hC => exact litL (Kd.C_below HR0.out HB.out) HC0.out)
      (case hF => exact HFW.out)
      rintro e w1 ⟨rfl, hb⟩
      replace hb := below_step (below_alloc (Below.refl _ _) _) hb
      replace hb := nb_ HB hb
      replace HB := bs_ HB hb
      clear hb
      go_wp2_with fail
      refine (vessel_Check.calls 30 A0 c0 l0 20 _ (Kd.C_below HR0.out HB.out) HC0.out HK.out).mono ?_
      rintro e w2 ⟨rfl, hb⟩
      replace hb := nb_ HB hb
      replace HB := bs_ HB hb
      clear hb
      go_wp2
      go_ret
      exact ⟨by first | rfl | simp, HB.out⟩
    | true =>
      have HK : Aside0 (vessel_Check.f 30 l0 = some 0) := ⟨by rw [vCheck]; unfold checkF; rw [hv]; rfl⟩
      have HS : Aside0 (vessel_Sizes.f l0 = some (sm (hsO l0), sm (vsO l0), sm (dsO l0), 0)) := ⟨by unfold vessel_Sizes.f SizesF; rw [if_pos hv]⟩
      obtain ⟨r2, s1, s2, s3, s4⟩ := all_firstI (lvlB (sm (hsO l0))) l2
      obtain ⟨r1, t1, t2, t3, t4⟩ := all_firstI (lvlB 8388608) l1
      rw [s4, t4]
      have S2 := Aside0.mk s2
      have S3 := Aside0.mk s3
      have T2 := Aside0.mk t2
      have T3 := Aside0.mk t3
      clear hv s2 s3 t2 t3 s4 t4
      generalize sm (hsO l0) = hi at HS S2 S3
      generalize sm (vsO l0) = vi at HS
      generalize sm (dsO l0) = di at HS
      go_enter Try.func37, Try.ntmps37
      go_wp2_with fail
      refine (waterhourlaw02_few.calls _ 1 [l0] true _ ?hC (by simp) ?hF).mono ?_
      (case hC => exact litL (Kd.C_below HR0.out HB.out) HC0.out)
      (case hF => exact HFW.out)
      rintro e w1 ⟨rfl, hb⟩
      replace hb := below_step (below_alloc (Below.refl _ _) _) hb
      replace hb := nb_ HB hb
      replace HB := bs_ HB hb
      clear hb
      go_wp2_with fail
      refine (vessel_Check.calls 30 A0 c0 l0 0 _ (Kd.C_below HR0.out HB.out) HC0.out HK.out).mono ?_
      rintro e w2 ⟨rfl, hb⟩
      replace hb := nb_ HB hb
      replace HB := bs_ HB hb
      clear hb
      go_wp2_with fail
      refine (vessel_Sizes.calls A0 c0 l0 hi vi di 0 _ (Kd.C_below HR0.out HB.out) HC0.out HS.out).mono ?_
      rintro e w3 ⟨rfl, hb⟩
      replace hb := nb_ HB hb
      replace HB := bs_ HB hb
      clear hb
      go_wp2
      go_loopg [33] l2.length (fun kq v33 w' => ∃ i : Nat, v33 = .int .i64 (i : Int) ∧ Aside0 (i ≤ r2 ∧ i + kq = l2.length) ∧ Aside0 (Below w.heap.size w w'))
      case atStart => exact ⟨0, rfl, ⟨by omega, by omega⟩, HB⟩
      case round =>
        clear HB
        obtain ⟨i, rfl, HI, HB⟩ := hrel
        obtain ⟨h1, h2⟩ := HI.out
        by_cases hij : i < l2.length
        · have hd : decide ((i : Int) < (l2.length : Int)) = true := decide_eq_true (by omega)
          have hd2 : decide (i < l2.length) = true := decide_eq_true hij
          have p1 : (0 : Int) ≤ (i : Int) := by omega
          have q1 : (i : Int) < (l2.length : Int) := by omega
          obtain ⟨ad, e1, x0⟩ := Kd.at_int HR2.out (i : Int) p1 q1
          subst e1
          replace x0 := pw_cell_below HB.out x0
          simp only [Int.toNat_natCast] at x0
          by_cases hir : i < r2
          · obtain ⟨d1, d2⟩ := lvlB_true (S2.out i hir)
            go_wp2
            go_roundg (gk - 1)
            case measure => omega
            case rel => exact ⟨i + 1, by go_num, ⟨by omega, by omega⟩, HB⟩
          · obtain rfl : i = r2 := by omega
            rcases lvlB_false (S3.out hij) with d1 | ⟨d1, d2⟩
            · go_wp2
              go_ret
              exact ⟨by first | rfl | (simp [hij]; done) | (simp; omega), HB.out⟩
            · go_wp2
              go_ret
              exact ⟨by first | rfl | (simp [hij]; done) | (simp; omega), HB.out⟩
        · have hd : decide ((i : Int) < (l2.length : Int)) = false := decide_eq_false (by omega)
          have hd2 : decide (i < l2.length) = false := decide_eq_false hij
          obtain rfl : i = r2 := by omega
          go_wp2
          clear hd hd2 HI h1 h2
          go_loopg [47] l1.length (fun kq v47 w' => ∃ i : Nat, v47 = .int .i64 (i : Int) ∧ Aside0 (i ≤ r1 ∧ i + kq = l1.length) ∧ Aside0 (Below w.heap.size w w'))
          case atStart => exact ⟨0, rfl, ⟨by omega, by omega⟩, HB⟩
          case round =>
            clear HB
            obtain ⟨i, rfl, HI, HB⟩ := hrel
            obtain ⟨h1, h2⟩ := HI.out
            by_cases hij : i < l1.length
            · have hd : decide ((i : Int) < (l1.length : Int)) = true := decide_eq_true (by omega)
              have hd2 : decide (i < l1.length) = true := decide_eq_true hij
              have p1 : (0 : Int) ≤ (i : Int) := by omega
              have q1 : (i : Int) < (l1.length : Int) := by omega
              obtain ⟨ad, e1, x0⟩ := Kd.at_int HR1.out (i : Int) p1 q1
              subst e1
              replace x0 := pw_cell_below HB.out x0
              simp only [Int.toNat_natCast] at x0
              by_cases hir : i < r1
              · obtain ⟨d1, d2⟩ := lvlB_true (T2.out i hir)
                go_wp2
                go_roundg (gk - 1)
                case measure => omega
                case rel => exact ⟨i + 1, by go_num, ⟨by omega, by omega⟩, HB⟩
              · obtain rfl : i = r1 := by omega
                rcases lvlB_false (T3.out hij) with d1 | ⟨d1, d2⟩
                · go_wp2
                  go_ret
                  exact ⟨by first | rfl | (simp [hij]; done) | (simp; omega), HB.out⟩
                · go_wp2
                  go_ret
                  exact ⟨by first | rfl | (simp [hij]; done) | (simp; omega), HB.out⟩
            · have hd : decide ((i : Int) < (l1.length : Int)) = false := decide_eq_false (by omega)
              have hd2 : decide (i < l1.length) = false := decide_eq_false hij
              obtain rfl : i = r1 := by omega
              go_wp2
              go_ret
              exact ⟨by first | rfl | (simp; omega), HB.out⟩
end Go.Proofs.Ytlhfclpbodfmcaa.Pr
