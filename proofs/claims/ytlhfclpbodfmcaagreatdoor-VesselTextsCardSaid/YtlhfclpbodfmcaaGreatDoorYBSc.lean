/- A part of the proof: Sc. -/
import Derived.Test.YtlhfclpbodfmcaaGreatDoorYBPr0
namespace Go.Proofs.YtlhfclpbodfmcaaGreatDoor.Pr
open Go.RowKit Go.Proofs.YtlhfclpbodfmcaaGreatDoorW.PrintWords Go.Proofs.YtlhfclpbodfmcaaGreatDoorW.PrintLast Go.Proofs.YtlhfclpbodfmcaaGreatDoorW.PrintMore
section
variable {P : Program} {ops : Array Oper} {Q : Exit → Act → World → Prop}
theorem goesV_ {oi : Oper} {N : Option Tmp} {a : Act} {w : World} {K : Act → World → Prop} {f : FuncId} {fn : Func} {c : Operand} {fst cap : Array Value} {xa : Array Operand} {ts : Array TypeId} (hf : P.funcs[f]? = some fn) (hname : (fn.name == "runtime.NumGoroutine") = false) (hb : fn.body.isSome = true) (args : Array Value)
    (hw : Region.wanted oi (yielded ops a.tmps) = true) (hN : oi.dst = N) (hop : oi.op = .call { callee := .value c, args := xa, argTypes := ts }) (hc : a.eval c = .func (.func f) fst cap) (hargs : (fst ++ xa.map a.eval) ++ cap = args)
    (h : Calls P f args w fun e w' => ∃ v, e = .returned v ∧ K (a.put N v) w') : if Region.wanted oi (yielded ops a.tmps) = true then Oper.wp P oi a w K Q else K (a.put N undef) w := by
  refine call_ f args hw hN ?_ h
  have he := enters_ hf hname hb args w
  unfold execOp
  simp [hop, resolve, Deferred.ofValue, invoke, hc]
  rw [← Array.append_assoc, hargs]
  simpa using he
theorem goesVL_ {rest : List Oper} {oi : Oper} {a : Act} {w : World} (N : Option Tmp) (hd : oi.dst = N) (hg : oi.guard = none) {f : FuncId} {fn : Func} {c : Operand} {fst cap : Array Value} {xa : Array Operand} {ts : Array TypeId} (hf : P.funcs[f]? = some fn) (hname : (fn.name == "runtime.NumGoroutine") = false) (hb : fn.body.isSome = true) (args : Array Value)
    (hop : oi.op = .call { callee := .value c, args := xa, argTypes := ts }) (hc : a.eval c = .func (.func f) fst cap) (hargs : (fst ++ xa.map a.eval) ++ cap = args)
    (h : Calls P f args w fun e w' => ∃ v, e = .returned v ∧ wpList P ops Q rest (a.put N v) w') : wpList P ops Q (oi :: rest) a w := by
  refine wpList_plain hg fun K hK => ?_
  have he := enters_ hf hname hb args w
  have hrun : (execOp a.eval oi).run P w = .ok (.enter f args) w := by
    unfold execOp
    simp [hop, resolve, Deferred.ofValue, invoke, hc]
    rw [← Array.append_assoc, hargs]
    simpa using he
  unfold Oper.wp
  rw [hrun, Oper.upon_enter]
  refine h.mono fun e w'' hh => ?_
  obtain ⟨v, rfl, hk⟩ := hh
  subst hd
  exact hK _ _ hk
end
/-- The sums below each size, from s on, and the sum of all. -/
def sums (s : Int) : List Int → List Int
  | [] => [s]
  | a :: l => s :: sums (wrap64 (s + a)) l
theorem sums_length (l : List Int) : ∀ s, (sums s l).length = l.length + 1 := by
  induction l with
  | nil => intro s; rfl
  | cons a l ih => intro s; simp only [sums, List.length_cons, ih]
/-- The pointer g leads to a scale of the sizes xs, with the sums bs. -/
def Sc (w : World) (g : Nat) (xs bs : List Int) : Prop :=
  ∃ (a1 a2 : Option Addr) (c1 c2 : Nat), w.cell? ⟨g, 0, none⟩ = some (.slice a1 xs.length c1) ∧ w.cell? ⟨g, 1, none⟩ = some (.slice a2 bs.length c2) ∧
    Kd.C (Kd.int .i64) w a1 xs.length xs ∧ Kd.C (Kd.int .i64) w a2 bs.length bs ∧ xs.length ≤ c1 ∧ bs.length ≤ c2
theorem Sc.below {w w' : World} {g : Nat} {xs bs : List Int} (h : Sc w g xs bs) (hb : Below w.heap.size w w') : Sc w' g xs bs := by
  obtain ⟨a1, a2, c1, c2, h1, h2, h3, h4, h5, h6⟩ := h
  exact ⟨a1, a2, c1, c2, (hb.cell (World.block_lt_of_cell? w _ h1)).trans h1, (hb.cell (World.block_lt_of_cell? w _ h2)).trans h2, Kd.C_below h3 hb, Kd.C_below h4 hb, h5, h6⟩
theorem cut_sums {P : Program} (t e : TypeId) (ht : P.underlying t = some (.slice e)) (he : (P.info? e).map (fun i => (i.zero, i.size, i.bytes)) = some (some (.int .i64 0), 1, 8)) {w : World} {A : Option Addr} {c : Nat} {bs : List Int} (h : Kd.C (Kd.int .i64) w A bs.length bs) (hc : bs.length ≤ c) (n : Nat) (h1 : 1 ≤ n) (hn : n ≤ bs.length) :
    ∃ A' c', (∀ W : World, (Instr.slice t (.slice A bs.length c) (some (.int .i64 1)) (some (.int .i64 (n : Int))) none).run P W = .ok (.slice A' ((bs.take n).drop 1).length c') W) ∧ Kd.C (Kd.int .i64) w A' ((bs.take n).drop 1).length ((bs.take n).drop 1) := by
  obtain ⟨i, hi, hz⟩ := Option.map_eq_some_iff.1 he
  simp only [Prod.mk.injEq] at hz
  have h2 := cut_mid (P := P) t e .i64 .i64 ht hi 1 hz.2.1 A bs.length c 1 (n : Int) (by omega) (by omega) (by omega) hc
  have h3 := Kd.C_mid (lo := 1) (hi := n) h h1 hn hc
  refine ⟨_, c - 1, fun W => ?_, h3⟩
  have h4 := h2 W
  have h5 : ((bs.take n).drop 1).length = n - 1 := by rw [List.length_drop, List.length_take]; omega
  rw [h5]
  simpa [show (Kd.int .i64).sz = 1 from rfl] using h4
theorem rd_cut (bs : List Int) (n i : Nat) (h : i + 1 < n) : rd ((bs.take n).drop 1) (i : Int) = rd bs ((i : Int) + 1) := by
  have e : ((i : Int) + 1).toNat = i + 1 := by omega
  unfold rd
  rw [e]
  simp only [Int.toNat_natCast, List.getD_eq_getElem?_getD, List.getElem?_drop, List.getElem?_take]
  rw [if_pos (by omega), Nat.add_comm]
end Go.Proofs.YtlhfclpbodfmcaaGreatDoor.Pr
