/- A part of the proof: CvB. -/
import Derived.RangeFuncNested
import Derived.RangeFuncBound
import Derived.RangeFuncCalls
import Derived.RangeFuncLeaves
import Derived.Shelf.Abstract
import Derived.Shelf.RegionOpen
import Derived.WalkKit
import Derived.OwnWalkIn
import Derived.TacticsInMore
import Derived.LoopNIn
import Derived.LoopIn
import Derived.Test.YtlhfclpbodfmcaaGreatDoorYBCvA
namespace Go.Proofs.YtlhfclpbodfmcaaGreatDoor.Pr
open Go.RowKit Go.Shelf Go.Proofs.YtlhfclpbodfmcaaGreatDoorW.PrintWords Go.Proofs.YtlhfclpbodfmcaaGreatDoorW.PrintLast Go.Proofs.YtlhfclpbodfmcaaGreatDoorW.PrintMore
open Go.Proofs.YtlhfclpbodfmcaaGreatDoor.Vm
set_option linter.unusedVariables false
set_option linter.unusedSimpArgs false
attribute [local go_sem] Oper.semAt_some
/-- What has come when k rounds are over. -/
def upto {α : Type} (f : Nat → α) (k : Nat) : List α := (List.range k).map f
theorem upto_succ {α : Type} (f : Nat → α) (k : Nat) : upto f (k + 1) = upto f k ++ [f k] := by simp [upto, List.range_succ]
theorem upto_length {α : Type} (f : Nat → α) (k : Nat) : (upto f k).length = k := by simp [upto]
/-- The line between two neighbours. -/
def lineAt (l : List S60) (i : Nat) : S60 × S60 := (rd_T60 l (i : Int), rd_T60 l ((i : Int) + 1))
def lineV (x : S60 × S60) : Array Value := #[.agg #[.int .i64 x.1.f0, .int .i64 x.1.f1, .int .i64 x.2.f0, .int .i64 x.2.f1]]
theorem curve_lines.calls (A0 : Option Addr) (n c : Nat) (w : World) :
    CallsIn Fence.wide 8 Tryz.prog 97 #[.slice A0 n c] w fun e w' => e = .returned (.func (.func 114) #[] #[.pointer (some ⟨w.heap.size, 0, none⟩)]) ∧ w' = w.alloc (.cells #[.slice A0 n c] 47) := by
  refine callsIn_of_wp Tryz.func97 rfl trivial ?_ rfl
  simp only [Tryz.ntmps97, List.size_toArray, List.length_cons, List.length_nil, Nat.reduceAdd, Nat.reduceSub, Array.replicate_succ, Array.replicate_zero, List.push_toArray, List.append_toArray, List.nil_append, List.cons_append]
  gi_wp2
  go_ret
  exact ⟨rfl, rfl⟩
set_option maxRecDepth 100000 in
set_option maxHeartbeats 4000000 in
theorem curve_lines_1.walks (l Bs n₀ c : Nat) (ad : Addr) (l0 : List S60) (hb : ad.block < n₀) (hn : l0.length ≤ 1000) (J Jx : List (S60 × S60) → World → Prop)
    (hY : ∀ pre x W, J pre W → pre.length < l0.length - 1 → YieldAt Fence.wide 7 Tryz.prog l (lineV x) W fun e W' =>
      (e = .returned (.bool true) ∧ J (pre ++ [x]) W' ∧ Below n₀ W W') ∨ (e = .returned (.bool false) ∧ Jx (pre ++ [x]) W'))
    (hJd : ∀ pre W, J pre W → J pre W.drew)
    (W : World) (hC : ∀ W', Below n₀ W W' → Kd.C k60 W' (some ad) l0.length l0) (hBs : W.cell? ⟨Bs, 0, none⟩ = some (.slice (some ad) l0.length c)) (hBn : Bs < n₀) (h0 : J [] W) :
    CallsIn Fence.wide 8 Tryz.prog 114 #[.func (.yield l) #[] #[], .pointer (some ⟨Bs, 0, none⟩)] W fun e W' => (∃ v, e = .returned v) ∧
      ((∃ ys, ys = upto (lineAt l0) (l0.length - 1) ∧ J ys W') ∨ (∃ pre, (∃ k, k ≤ l0.length - 1 ∧ pre = upto (lineAt l0) k) ∧ Jx pre W')) := by
  have hu60 := Tryz.underlying53
  have hu129 := Tryz.underlying145
  have hmix : Tryz.prog.follows .mixedOrders = true := by kernel_rfl
  refine callsIn_of_wp Tryz.func114 rfl trivial ?_ rfl
  simp only [Tryz.ntmps114, List.size_toArray, List.length_cons, List.length_nil, Nat.reduceAdd, Nat.reduceSub, Array.replicate_succ, Array.replicate_zero, List.push_toArray, List.append_toArray, List.nil_append, List.cons_append]
  gi_wp2
  gi_loopw [3] (fun i wr => ∃ k : Nat, k ≤ l0.length - 1 ∧ i = .int .i64 ((k : Int) + 1) ∧ J (upto (lineAt l0) k) wr ∧ Below n₀ W wr)
    (fun i _ => l0.length - (intOf i).toNat)
  case atStart => exact ⟨0, Nat.zero_le _, by simp, h0, Below.refl _ _⟩
  case round =>
    obtain ⟨k, hk, rfl, hJs, hnx⟩ := hrel
    have hBs' : wr.cell? ⟨Bs, 0, none⟩ = some (.slice (some ad) l0.length c) := (hnx.cell (p := ⟨Bs, 0, none⟩) hBn).trans hBs
    by_cases hlt : k + 1 < l0.length
    · have hd : decide ((k : Int) + 1 < (l0.length : Int)) = true := decide_eq_true (by omega)
      obtain ⟨ad1, q1, x0, x1⟩ := at_T60 (hC wr hnx) (k : Int) (by omega) (by omega)
      obtain ⟨ad2, q2, y0, y1⟩ := at_T60 (hC wr hnx) ((k : Int) + 1) (by omega) (by omega)
      cases q1
      cases q2
      have e1 : ((k : Int) + 1).toNat = k + 1 := by omega
      rw [e1] at y0 y1
      simp only [Int.toNat_natCast] at x0 x1
      obtain ⟨fn, tmps, assign, body, hy, hR⟩ := hY _ (lineAt l0 k) wr.drew (hJd _ _ hJs) (by rw [upto_length]; omega)
      dsimp only [lineV, lineAt] at hy
      have p1 : (0 : Int) ≤ (k : Int) := by omega
      have p2 : (k : Int) < (l0.length : Int) := by omega
      have p3 : (k : Int) + 1 < (l0.length : Int) := by omega
      have p4 : (0 : Int) ≤ (k : Int) + 1 := by omega
      have hR2 := hR.mono (R' := fun e W' => ∃ bb : Bool, e = .returned (.bool bb) ∧ Aside0 (if bb = true then J (upto (lineAt l0) k ++ [lineAt l0 k]) W' ∧ Below n₀ wr.drew W' else Jx (upto (lineAt l0) k ++ [lineAt l0 k]) W'))
        (by rintro e W' (⟨rfl, h1, h2⟩ | ⟨rfl, h1⟩); exact ⟨true, rfl, ⟨by simp; exact ⟨h1, h2⟩⟩⟩; exact ⟨false, rfl, ⟨by simpa using h1⟩⟩)
      clear hR
      replace p1 := eq_true p1
      replace p2 := eq_true p2
      replace p3 := eq_true p3
      replace p4 := eq_true p4
      have p5 : (k < l0.length) = True := eq_true (by omega)
      have p6 : (k + 1 < l0.length) = True := eq_true (by omega)
      have e2 : IntKind.i64.wrap (k : Int) = (k : Int) := by rw [i64_w]; unfold wrap64; omega
      have e3 : IntKind.i64.wrap ((k : Int) + 1) = (k : Int) + 1 := by rw [i64_w]; unfold wrap64; omega
      gi_wp2
      gi_region_with (refine hR2.mono ?_; rintro e W3 ⟨bb, rfl, hbb⟩)
      all_goals (
        cases bb with
        | true =>
          have hbb2 : J (upto (lineAt l0) k ++ [lineAt l0 k]) W3 ∧ Below n₀ wr.drew W3 := by simpa using hbb.out
          obtain ⟨hJ3, hk3⟩ := hbb2
          gi_wp2
          go_roundw
          case rel => exact ⟨k + 1, by omega, by simp, by rw [upto_succ]; exact hJ3, hnx.trans ((Below.refl n₀ wr).drew.trans hk3)⟩
          case measure => simp [intOf]; omega
        | false =>
          have hJx3 : Jx (upto (lineAt l0) k ++ [lineAt l0 k]) W3 := by simpa using hbb.out
          gi_wp2
          refine bodyPost_ret (results_none rfl _ _ _) rfl ?_
          exact ⟨⟨_, rfl⟩, .inr ⟨_, ⟨k + 1, by omega, (upto_succ _ _).symm⟩, hJx3⟩⟩)
    · have hd : decide ((k : Int) + 1 < (l0.length : Int)) = false := decide_eq_false (by omega)
      obtain rfl : k = l0.length - 1 := by omega
      gi_wp2
      go_end0
      exact ⟨⟨_, rfl⟩, .inl ⟨_, rfl, hJs⟩⟩
theorem drew_grown (w : World) : w.grownBy w.drew none := ⟨rfl, rfl, rfl, Nat.le_refl _, fun _ _ _ => rfl⟩
theorem curve_lines.stops (Bs c : Nat) (ad : Addr) (l0 : List S60) (hn : l0.length ≤ 1000) (w0 w : World) (hC : Kd.C k60 w0 (some ad) l0.length l0) (hB0 : Below w0.heap.size w0 w) (hb : ad.block < w0.heap.size) (hBs : w.cell? ⟨Bs, 0, none⟩ = some (.slice (some ad) l0.length c)) (hBn : Bs < w.heap.size) :
    SeqStopsK Fence.wide 8 Tryz.prog 114 #[.pointer (some ⟨Bs, 0, none⟩)] lineV (Below w.heap.size) (fun ys => ys = upto (lineAt l0) (l0.length - 1)) (fun pre => ∃ k, k ≤ l0.length - 1 ∧ pre = upto (lineAt l0) k) (l0.length - 1) w := fun l J Jx W hW hJ hJx hY h0 =>
  curve_lines_1.walks l Bs w.heap.size c ad l0 (Nat.lt_of_lt_of_le hb hB0.size) hn J Jx hY (fun pre W' h => hJ pre W' W'.drew none h (drew_grown W') (fun r e => by cases e)) W
    (fun W' h => Kd.C_below hC (hB0.trans ((hW.trans h).mono hB0.size))) ((hW.cell (p := ⟨Bs, 0, none⟩) hBn).trans hBs) hBn h0
end Go.Proofs.YtlhfclpbodfmcaaGreatDoor.Pr
