/- A part of the proof: ScB. -/
import Derived.Test.YtlhfclpbodfmcaaXKq
import Derived.Test.YtlhfclpbodfmcaaXPr6
import Derived.Test.YtlhfclpbodfmcaaXVm
import Derived.Outline
namespace Go.Proofs.Ytlhfclpbodfmcaa.Pr
open Go.RowKit Go.Proofs.YtlhfclpbodfmcaaW.PrintWords Go.Proofs.YtlhfclpbodfmcaaW.PrintLast Go.Proofs.YtlhfclpbodfmcaaW.PrintMore
open Go.Proofs.Ytlhfclpbodfmcaa.Vm
set_option linter.unusedVariables false
set_option linter.unusedSimpArgs false
set_option maxHeartbeats 1600000 in
set_option maxRecDepth 100000 in
theorem height_reached.calls (A0 : Option Addr) (c0 : Nat) (l0 : List Int) (x0 x1 x2 : Int) (r : Nat) (w : World) (hr0 : Kd.C (Kd.int .i64) w A0 l0.length l0) (hn : l0.length ≤ 1000) (hr : r ≤ l0.length) (hlt : ∀ i : Nat, i < r → rd l0 i ≤ x0) (hge : ∀ i : Nat, r ≤ i → i < l0.length → x0 < rd l0 i) :
    Calls Try.prog 147 #[.slice A0 l0.length c0, .func (.func 133) #[.agg #[.int .i64 x0, .int .i64 x1, .int .i64 x2]] #[]] w fun e w' => e = .returned (.int .i64 (r : Int)) ∧ Below w.heap.size w w' := by
  have HB := Aside0.mk (Below.refl w.heap.size w)
  have HR0 := Aside0.mk hr0
  have HLT := Aside0.mk hlt
  have HGE := Aside0.mk hge
  have hmx := Kd.C_max hr0
  clear hr0 hlt hge
  go_enter Try.func147, Try.ntmps147
  go_wp2
  go_loopg [5, 6] l0.length (fun kq v5 v6 w' => ∃ i j : Nat, v5 = .int .i64 (i : Int) ∧ v6 = .int .i64 (j : Int) ∧ Aside0 (i ≤ r ∧ r ≤ j ∧ j ≤ l0.length ∧ j - i ≤ kq) ∧ Aside0 (Below w.heap.size w w'))
  case atStart => exact ⟨0, l0.length, rfl, rfl, ⟨by omega, hr, by omega, by omega⟩, HB⟩
  case round =>
    clear HB
    obtain ⟨i, j, rfl, rfl, HI, HB⟩ := hrel
    obtain ⟨h1, h2, h3, h4⟩ := HI.out
    clear HI
    by_cases hij : i < j
    · have hd : decide ((i : Int) < (j : Int)) = true := decide_eq_true (by omega)
      have hd2 : decide (i < j) = true := decide_eq_true hij
      have hmn : (i + j) / 2 < l0.length := by omega
      have hm0 : (0 : Int) ≤ (((i + j) / 2 : Nat) : Int) := by omega
      have hm1 : (((i + j) / 2 : Nat) : Int) < (l0.length : Int) := by omega
      obtain ⟨ad, q1, x9⟩ := Kd.at_int HR0.out (((i + j) / 2 : Nat) : Int) hm0 hm1
      subst q1
      replace x9 := pw_cell_below HB.out x9
      simp only [Int.toNat_natCast] at x9
      by_cases hmr : (i + j) / 2 < r
      · have hv : vessel_exact_below.f x0 x1 x2 (rd l0 (((i + j) / 2 : Nat) : Int)) = some false := by
          simp only [vessel_exact_below.f, Option.some.injEq]
          exact decide_eq_false (by have := HLT.out _ hmr; omega)
        have HV := Aside0.mk hv
        clear hv
        go_wp2_with fail
        refine (vessel_exact_below.calls x0 x1 x2 _ false _ HV.out).mono ?_
        rintro e wc ⟨rfl, hb⟩
        have HB2 := Aside0.mk (below_step HB.out hb)
        clear hb HB
        go_wp2
        go_roundg (gk - 1)
        case measure => omega
        case rel => exact ⟨(i + j) / 2 + 1, j, by go_num, rfl, ⟨by omega, by omega, by omega, by omega⟩, HB2⟩
      · have hv : vessel_exact_below.f x0 x1 x2 (rd l0 (((i + j) / 2 : Nat) : Int)) = some true := by
          simp only [vessel_exact_below.f, Option.some.injEq]
          exact decide_eq_true (HGE.out _ (by omega) hmn)
        have HV := Aside0.mk hv
        clear hv
        go_wp2_with fail
        refine (vessel_exact_below.calls x0 x1 x2 _ true _ HV.out).mono ?_
        rintro e wc ⟨rfl, hb⟩
        have HB2 := Aside0.mk (below_step HB.out hb)
        clear hb HB
        go_wp2
        go_roundg (gk - 1)
        case measure => omega
        case rel => exact ⟨i, (i + j) / 2, rfl, by go_num, ⟨by omega, by omega, by omega, by omega⟩, HB2⟩
    · have hd : decide ((i : Int) < (j : Int)) = false := decide_eq_false (by omega)
      have hd2 : decide (i < j) = false := decide_eq_false hij
      obtain rfl : i = r := by omega
      go_wp2
      go_ret
      exact ⟨rfl, HB.out⟩
set_option maxHeartbeats 1600000 in
set_option maxRecDepth 100000 in
theorem minute_reached.calls (A0 : Option Addr) (c0 : Nat) (l0 : List Int) (x0 x1 x2 : Int) (r : Nat) (w : World) (hr0 : Kd.C (Kd.int .i64) w A0 l0.length l0) (hn : l0.length ≤ 1000) (hr : r ≤ l0.length) (hlt : ∀ i : Nat, i < r → rd l0 i ≤ x0) (hge : ∀ i : Nat, r ≤ i → i < l0.length → x0 < rd l0 i) :
    Calls Try.prog 134 #[.slice A0 l0.length c0, .func (.func 133) #[.agg #[.int .i64 x0, .int .i64 x1, .int .i64 x2]] #[]] w fun e w' => e = .returned (.int .i64 (r : Int)) ∧ Below w.heap.size w w' := by
  have HB := Aside0.mk (Below.refl w.heap.size w)
  have HR0 := Aside0.mk hr0
  have HLT := Aside0.mk hlt
  have HGE := Aside0.mk hge
  have hmx := Kd.C_max hr0
  clear hr0 hlt hge
  go_enter Try.func134, Try.ntmps134
  go_wp2
  go_loopg [5, 6] l0.length (fun kq v5 v6 w' => ∃ i j : Nat, v5 = .int .i64 (i : Int) ∧ v6 = .int .i64 (j : Int) ∧ Aside0 (i ≤ r ∧ r ≤ j ∧ j ≤ l0.length ∧ j - i ≤ kq) ∧ Aside0 (Below w.heap.size w w'))
  case atStart => exact ⟨0, l0.length, rfl, rfl, ⟨by omega, hr, by omega, by omega⟩, HB⟩
  case round =>
    clear HB
    obtain ⟨i, j, rfl, rfl, HI, HB⟩ := hrel
    obtain ⟨h1, h2, h3, h4⟩ := HI.out
    clear HI
    by_cases hij : i < j
    · have hd : decide ((i : Int) < (j : Int)) = true := decide_eq_true (by omega)
      have hd2 : decide (i < j) = true := decide_eq_true hij
      have hmn : (i + j) / 2 < l0.length := by omega
      have hm0 : (0 : Int) ≤ (((i + j) / 2 : Nat) : Int) := by omega
      have hm1 : (((i + j) / 2 : Nat) : Int) < (l0.length : Int) := by omega
      obtain ⟨ad, q1, x9⟩ := Kd.at_int HR0.out (((i + j) / 2 : Nat) : Int) hm0 hm1
      subst q1
      replace x9 := pw_cell_below HB.out x9
      simp only [Int.toNat_natCast] at x9
      by_cases hmr : (i + j) / 2 < r
      · have hv : vessel_exact_below.f x0 x1 x2 (rd l0 (((i + j) / 2 : Nat) : Int)) = some false := by
          simp only [vessel_exact_below.f, Option.some.injEq]
          exact decide_eq_false (by have := HLT.out _ hmr; omega)
        have HV := Aside0.mk hv
        clear hv
        go_wp2_with fail
        refine (vessel_exact_below.calls x0 x1 x2 _ false _ HV.out).mono ?_
        rintro e wc ⟨rfl, hb⟩
        have HB2 := Aside0.mk (below_step HB.out hb)
        clear hb HB
        go_wp2
        go_roundg (gk - 1)
        case measure => omega
        case rel => exact ⟨(i + j) / 2 + 1, j, by go_num, rfl, ⟨by omega, by omega, by omega, by omega⟩, HB2⟩
      · have hv : vessel_exact_below.f x0 x1 x2 (rd l0 (((i + j) / 2 : Nat) : Int)) = some true := by
          simp only [vessel_exact_below.f, Option.some.injEq]
          exact decide_eq_true (HGE.out _ (by omega) hmn)
        have HV := Aside0.mk hv
        clear hv
        go_wp2_with fail
        refine (vessel_exact_below.calls x0 x1 x2 _ true _ HV.out).mono ?_
        rintro e wc ⟨rfl, hb⟩
        have HB2 := Aside0.mk (below_step HB.out hb)
        clear hb HB
        go_wp2
        go_roundg (gk - 1)
        case measure => omega
        case rel => exact ⟨i, (i + j) / 2, rfl, by go_num, ⟨by omega, by omega, by omega, by omega⟩, HB2⟩
    · have hd : decide ((i : Int) < (j : Int)) = false := decide_eq_false (by omega)
      have hd2 : decide (i < j) = false := decide_eq_false hij
      obtain rfl : i = r := by omega
      go_wp2
      go_ret
      exact ⟨rfl, HB.out⟩
set_option maxHeartbeats 1600000 in
set_option maxRecDepth 100000 in
theorem volume_reached.calls (A0 : Option Addr) (c0 : Nat) (l0 : List Int) (x0 x1 x2 : Int) (r : Nat) (w : World) (hr0 : Kd.C (Kd.int .i64) w A0 l0.length l0) (hn : l0.length ≤ 1000) (hr : r ≤ l0.length) (hlt : ∀ i : Nat, i < r → rd l0 i ≤ x0) (hge : ∀ i : Nat, r ≤ i → i < l0.length → x0 < rd l0 i) :
    Calls Try.prog 136 #[.slice A0 l0.length c0, .func (.func 133) #[.agg #[.int .i64 x0, .int .i64 x1, .int .i64 x2]] #[]] w fun e w' => e = .returned (.int .i64 (r : Int)) ∧ Below w.heap.size w w' := by
  have HB := Aside0.mk (Below.refl w.heap.size w)
  have HR0 := Aside0.mk hr0
  have HLT := Aside0.mk hlt
  have HGE := Aside0.mk hge
  have hmx := Kd.C_max hr0
  clear hr0 hlt hge
  go_enter Try.func136, Try.ntmps136
  go_wp2
  go_loopg [5, 6] l0.length (fun kq v5 v6 w' => ∃ i j : Nat, v5 = .int .i64 (i : Int) ∧ v6 = .int .i64 (j : Int) ∧ Aside0 (i ≤ r ∧ r ≤ j ∧ j ≤ l0.length ∧ j - i ≤ kq) ∧ Aside0 (Below w.heap.size w w'))
  case atStart => exact ⟨0, l0.length, rfl, rfl, ⟨by omega, hr, by omega, by omega⟩, HB⟩
  case round =>
    clear HB
    obtain ⟨i, j, rfl, rfl, HI, HB⟩ := hrel
    obtain ⟨h1, h2, h3, h4⟩ := HI.out
    clear HI
    by_cases hij : i < j
    · have hd : decide ((i : Int) < (j : Int)) = true := decide_eq_true (by omega)
      have hd2 : decide (i < j) = true := decide_eq_true hij
      have hmn : (i + j) / 2 < l0.length := by omega
      have hm0 : (0 : Int) ≤ (((i + j) / 2 : Nat) : Int) := by omega
      have hm1 : (((i + j) / 2 : Nat) : Int) < (l0.length : Int) := by omega
      obtain ⟨ad, q1, x9⟩ := Kd.at_int HR0.out (((i + j) / 2 : Nat) : Int) hm0 hm1
      subst q1
      replace x9 := pw_cell_below HB.out x9
      simp only [Int.toNat_natCast] at x9
      by_cases hmr : (i + j) / 2 < r
      · have hv : vessel_exact_below.f x0 x1 x2 (rd l0 (((i + j) / 2 : Nat) : Int)) = some false := by
          simp only [vessel_exact_below.f, Option.some.injEq]
          exact decide_eq_false (by have := HLT.out _ hmr; omega)
        have HV := Aside0.mk hv
        clear hv
        go_wp2_with fail
        refine (vessel_exact_below.calls x0 x1 x2 _ false _ HV.out).mono ?_
        rintro e wc ⟨rfl, hb⟩
        have HB2 := Aside0.mk (below_step HB.out hb)
        clear hb HB
        go_wp2
        go_roundg (gk - 1)
        case measure => omega
        case rel => exact ⟨(i + j) / 2 + 1, j, by go_num, rfl, ⟨by omega, by omega, by omega, by omega⟩, HB2⟩
      · have hv : vessel_exact_below.f x0 x1 x2 (rd l0 (((i + j) / 2 : Nat) : Int)) = some true := by
          simp only [vessel_exact_below.f, Option.some.injEq]
          exact decide_eq_true (HGE.out _ (by omega) hmn)
        have HV := Aside0.mk hv
        clear hv
        go_wp2_with fail
        refine (vessel_exact_below.calls x0 x1 x2 _ true _ HV.out).mono ?_
        rintro e wc ⟨rfl, hb⟩
        have HB2 := Aside0.mk (below_step HB.out hb)
        clear hb HB
        go_wp2
        go_roundg (gk - 1)
        case measure => omega
        case rel => exact ⟨i, (i + j) / 2, rfl, by go_num, ⟨by omega, by omega, by omega, by omega⟩, HB2⟩
    · have hd : decide ((i : Int) < (j : Int)) = false := decide_eq_false (by omega)
      have hd2 : decide (i < j) = false := decide_eq_false hij
      obtain rfl : i = r := by omega
      go_wp2
      go_ret
      exact ⟨rfl, HB.out⟩
end Go.Proofs.Ytlhfclpbodfmcaa.Pr
