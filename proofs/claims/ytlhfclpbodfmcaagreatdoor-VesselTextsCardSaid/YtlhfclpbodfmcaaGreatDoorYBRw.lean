/- A part of the proof: Rw. -/
import Derived.Deep.Slices
import Derived.Deep.Strs
import Derived.ChangeArms
import Derived.Test.YtlhfclpbodfmcaaGreatDoorYBPr0
namespace Go.Proofs.YtlhfclpbodfmcaaGreatDoor.Pr
open Go.RowKit Go.ChangeShapes Go.WideShapes Go.Deep Go.Proofs.YtlhfclpbodfmcaaGreatDoorW.PrintWords
set_option linter.unusedVariables false
theorem cells79 : Tryz.prog.cellsOf 35 = 3 := by kernel_rfl
theorem cells3 : Tryz.prog.cellsOf 3 = 1 := by kernel_rfl
instance : Inhabited S79 := ⟨z79⟩
set_option maxRecDepth 100000 in
theorem ring_cells {H : Type} {enc : TypeId × Value → H} {W : World} {spare : Nat → Bool} {held : Bool} {n : Nat} {cs : List Value} {x : DataW H × List MemPlace} (h : DataW.trod enc Tryz.prog W 0 spare held n 35 cs = some x) :
    ∃ r : S79, cs = [.int .i64 r.f0, .int .i64 r.f1, .int .i64 r.f2] := by
  obtain ⟨y0, y1, y2, k, _, hl, h0, h1, h2⟩ := trod_struct3 Tryz.underlying35 h
  rw [cells79] at hl
  match cs, hl with
  | [a, b, c], _ =>
    simp only [cells3, List.drop_zero, List.drop_succ_cons, List.take_succ_cons, List.take_zero] at h0 h1 h2
    obtain ⟨p0, e0, _, _⟩ := DataW.trod_int Tryz.underlying3 h0
    obtain ⟨p1, e1, _, _⟩ := DataW.trod_int Tryz.underlying3 h1
    obtain ⟨p2, e2, _, _⟩ := DataW.trod_int Tryz.underlying3 h2
    simp only [List.cons.injEq, and_true] at e0 e1 e2
    exact ⟨⟨p0, p1, p2⟩, by rw [e0, e1, e2]⟩
set_option maxRecDepth 100000 in
theorem open_rings {H : Type} {enc : TypeId × Value → H} {W : World} {held : Bool} {n : Nat} {a : Option Addr} {len cap : Nat} {x : DataW H × List MemPlace} (h : DataW.trod enc Tryz.prog W 0 (fun _ => true) held n 23 [.slice a len cap] = some x) :
    ∃ zs : List S79, zs.length = len ∧ zs.length ≤ cap ∧ Kd.C k79 W a zs.length zs := by
  rcases open_slice Tryz.underlying23 h with ⟨hcs, _⟩ | ⟨ad, l, c, m, k, D, Pl, hcs, hb, hl, hm, hmm, _, hx⟩
  · simp only [List.cons.injEq, and_true, Value.slice.injEq] at hcs
    obtain ⟨rfl, rfl, rfl⟩ := hcs
    exact ⟨[], rfl, Nat.le_refl _, Kd.C_nil _ _⟩
  · simp only [List.cons.injEq, and_true, Value.slice.injEq] at hcs
    obtain ⟨rfl, rfl, rfl⟩ := hcs
    simp only [if_true] at hmm
    subst hmm
    have each : ∀ i, i < len → ∃ r : S79, ∀ j u, [Value.int .i64 r.f0, .int .i64 r.f1, .int .i64 r.f2][j]? = some u → W.cell? (ad.add (i * 3 + j)) = some u := by
      intro i hi
      obtain ⟨cs', h1, h2⟩ := hx i (by omega)
      rw [cells79] at h1
      obtain ⟨_, hlen, hcell⟩ := World.cells?_some h1
      obtain ⟨r, rfl⟩ := ring_cells h2
      refine ⟨r, fun j u hj => ?_⟩
      have hj3 : j < 3 := by
        have := (List.getElem?_eq_some_iff.1 hj).1
        simpa using this
      have e := hcell j hj3
      rw [Go.Deep.add_add] at e
      rw [e, hj]
    obtain ⟨q, hq⟩ := choose_lt each
    refine ⟨(List.range len).map q, by simp, by simpa using hl, ⟨rfl, by simp [maxLen] at hm ⊢; omega, fun _ => ⟨ad, rfl, fun j p hj => ?_⟩⟩⟩
    simp only [List.getElem?_map, Option.map_eq_some_iff] at hj
    obtain ⟨i, hi, rfl⟩ := hj
    obtain ⟨hi1, hi2⟩ := List.getElem?_eq_some_iff.1 hi
    simp at hi1 hi2
    subst hi2
    exact ⟨_, rfl, k79_mk W (q j), fun i u hu => hq j hi1 i u hu⟩
end Go.Proofs.YtlhfclpbodfmcaaGreatDoor.Pr
