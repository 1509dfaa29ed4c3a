/- A part of the proof: Kq. -/
import Derived.Test.YtlhfclpbodfmcaaGreatDoorYBSc
namespace Go.Proofs.YtlhfclpbodfmcaaGreatDoor.Pr
open Go.RowKit Go.Proofs.YtlhfclpbodfmcaaGreatDoorW.PrintWords Go.Proofs.YtlhfclpbodfmcaaGreatDoorW.PrintLast Go.Proofs.YtlhfclpbodfmcaaGreatDoorW.PrintMore
set_option linter.unusedVariables false
/-- n Bools, the bits of m. -/
def bm (n m : Nat) : Array Bool := ((List.range n).map (fun i => m.testBit i)).toArray
section
variable {P : Program} {ops : Array Oper} {Q : Exit → Act → World → Prop} {md : Region.Mode} {S : World → Prop} {ds : List Nat}
theorem pM_ {T : Bool × List (List Nat × List Nat)} {n m fuel : Nat} {oi : Oper} {v : Value} {a a' : Act} {w : World} (HT : Aside0 (rtab md ops = T)) (i d m' : Nat)
    (h : wpAnyLast P md ops Q S ds fuel (bm n m') a' w)
    (hi : ops[i]? = some oi := by rfl) (hN : oi.dst = some d := by rfl) (hc : anyT T (bm n m).toList (bm n m').toList i = true := by kernel_rfl)
    (hQ : ∀ c a w, Q (.panic c) (a.put oi.dst v) w → Q (.panic c) a w := by exact fun _ _ _ h => h)
    (hy : Yields P ops oi v a := by (refine Or.inl ⟨by rfl, ?_⟩; intro w'; go_simp; with_reducible rfl))
    (ha : a.put (some d) v = a' := by (simp only [Act.put, List.setIfInBounds_toArray, List.set_cons_zero, List.set_cons_succ, i64_w, i32_w]; rfl)) :
    wpAnyLast P md ops Q S ds (fuel + 1) (bm n m) a w :=
  pure_ (i := i) (N := some d) (bm n m') hi hN (any_of HT.out hc) hQ hy ha h
theorem sM_ {id n : Nat} {a : Act} {w : World} {T : Bool × List (List Nat × List Nat)} {B : List Nat} (ds : List Nat) (S : World → Prop) (hT : rtab .any ops = T) (hB : waitsOk T.2 B = true) (hS : S w.drew)
    (h : S w.drew → Aside0 (rtab .any ops = T) → Aside0 (waitsOk T.2 B = true) → wpAnyLast P .any ops Q S ds n (bm n 0) a w.drew)
    (hm : P.follows .mixedOrders = true := by kernel_rfl) (hn : ops.size = n := by rfl) (hl : Array.replicate n false = bm n 0 := by kernel_rfl) : (Code.region id ops true).wp P Q a w :=
  start_ (bm n 0) hm hn hl hS (fun hs => h hs ⟨hT⟩ ⟨hB⟩)
theorem tM_ {T : Bool × List (List Nat × List Nat)} {B : List Nat} {n m fuel : Nat} {oi : Oper} {v : Value} {a a' : Act} {w : World} (HT : Aside0 (rtab md ops = T)) (HW : Aside0 (waitsOk T.2 B = true)) (hS : S w) (i d m' : Nat)
    (h : wpAnyLast P md ops Q S ds fuel (bm n m') a' w)
    (hi : ops[i]? = some oi := by rfl) (hN : oi.dst = some d := by rfl) (hc : takeW T B ds (bm n m).toList (bm n m').toList i = true := by kernel_rfl)
    (hQ : ∀ c a w, Q (.panic c) (a.put oi.dst v) w → Q (.panic c) a w := by exact fun _ _ _ h => h)
    (hy : YieldsIf P ops S oi v a := by (refine Or.inl ⟨by rfl, ?_⟩; intro w' hs_; go_simp; with_reducible rfl))
    (ha : a.put (some d) v = a' := by (simp only [Act.put, List.setIfInBounds_toArray, List.set_cons_zero, List.set_cons_succ, i64_w, i32_w]; rfl)) :
    wpAnyLast P md ops Q S ds (fuel + 1) (bm n m) a w :=
  take_ (i := i) (N := some d) (bm n m') hi hN (take_ofW HT.out HW.out hc) hQ hy hS ha h
theorem oM_ {T : Bool × List (List Nat × List Nat)} {n m fuel : Nat} {oi : Oper} {a : Act} {w : World} (HT : Aside0 (rtab md ops = T)) (i : Nat) (N : Option Tmp) (m' : Nat)
    (h : ∀ K : Act → World → Prop, Shut (∀ a' w', S w' → (S w' → wpAnyLast P md ops Q S ds fuel (bm n m') a' w') → K a' w') → if Region.wanted oi (yielded ops a.tmps) = true then Oper.wp P oi a w K Q else K (a.put N undef) w)
    (hi : ops[i]? = some oi := by rfl) (hN : oi.dst = N := by rfl) (hc : (readyT T.2 (bm n m).toList == [i] && (bm n m).toList.set i true == (bm n m').toList) = true := by kernel_rfl) (hd : i ∉ ds := by decide) :
    wpAnyLast P md ops Q S ds (fuel + 1) (bm n m) a w :=
  one_ (bm n m') hi hN (one_of HT.out hc) hd h
theorem lM_ {T : Bool × List (List Nat × List Nat)} {n m fuel : Nat} {oi : Oper} {a : Act} {w : World} (HT : Aside0 (rtab md ops = T)) (i : Nat) (N : Option Tmp) (m' : Nat)
    (h : ∀ K : Act → World → Prop, Shut (∀ a' w', wpAnyLast P md ops Q S ds fuel (bm n m') a' w' → K a' w') → if Region.wanted oi (yielded ops a.tmps) = true then Oper.wp P oi a w K Q else K (a.put N undef) w)
    (hi : ops[i]? = some oi := by rfl) (hN : oi.dst = N := by rfl) (hc : (readyT T.2 (bm n m).toList == [i] && (bm n m).toList.set i true == (bm n m').toList) = true := by kernel_rfl) (hd : i ∈ ds := by decide) :
    wpAnyLast P md ops Q S ds (fuel + 1) (bm n m) a w :=
  last_ (bm n m') hi hN (one_of HT.out hc) hd h
theorem dM_ {T : Bool × List (List Nat × List Nat)} {n m fuel : Nat} {a : Act} {w : World} (HT : Aside0 (rtab md ops = T)) (h : Q .normal a w) (hc : (readyT T.2 (bm n m).toList == []) = true := by kernel_rfl) : wpAnyLast P md ops Q S ds fuel (bm n m) a w :=
  done_ (done_of HT.out hc) h
theorem twM_ {T : Bool × List (List Nat × List Nat)} {n m fuel : Nat} {oi oj : Oper} {a : Act} {w : World} (HT : Aside0 (rtab md ops = T)) (i : Nat) (Ni : Option Tmp) (mi j : Nat) (Nj : Option Tmp) (mj : Nat)
    (h1 : ∀ K : Act → World → Prop, Shut (∀ a' w', S w' → (S w' → wpAnyLast P md ops Q S ds fuel (bm n mi) a' w') → K a' w') → if Region.wanted oi (yielded ops a.tmps) = true then Oper.wp P oi a w K Q else K (a.put Ni undef) w)
    (h2 : ∀ K : Act → World → Prop, Shut (∀ a' w', S w' → (S w' → wpAnyLast P md ops Q S ds fuel (bm n mj) a' w') → K a' w') → if Region.wanted oj (yielded ops a.tmps) = true then Oper.wp P oj a w K Q else K (a.put Nj undef) w)
    (hi : ops[i]? = some oi := by rfl) (hj : ops[j]? = some oj := by rfl) (hNi : oi.dst = Ni := by rfl) (hNj : oj.dst = Nj := by rfl)
    (hc : (readyT T.2 (bm n m).toList == [i, j] && (bm n m).toList.set i true == (bm n mi).toList && (bm n m).toList.set j true == (bm n mj).toList) = true := by kernel_rfl) (hdi : i ∉ ds := by decide) (hdj : j ∉ ds := by decide) :
    wpAnyLast P md ops Q S ds (fuel + 1) (bm n m) a w :=
  two_ (bm n mi) (bm n mj) hi hj hNi hNj (two_of HT.out hc) hdi hdj h1 h2
theorem thM_ {T : Bool × List (List Nat × List Nat)} {n m fuel : Nat} {oi oj ok : Oper} {a : Act} {w : World} (HT : Aside0 (rtab md ops = T)) (i : Nat) (Ni : Option Tmp) (mi j : Nat) (Nj : Option Tmp) (mj k : Nat) (Nk : Option Tmp) (mk : Nat)
    (h1 : ∀ K : Act → World → Prop, Shut (∀ a' w', S w' → (S w' → wpAnyLast P md ops Q S ds fuel (bm n mi) a' w') → K a' w') → if Region.wanted oi (yielded ops a.tmps) = true then Oper.wp P oi a w K Q else K (a.put Ni undef) w)
    (h2 : ∀ K : Act → World → Prop, Shut (∀ a' w', S w' → (S w' → wpAnyLast P md ops Q S ds fuel (bm n mj) a' w') → K a' w') → if Region.wanted oj (yielded ops a.tmps) = true then Oper.wp P oj a w K Q else K (a.put Nj undef) w)
    (h3 : ∀ K : Act → World → Prop, Shut (∀ a' w', S w' → (S w' → wpAnyLast P md ops Q S ds fuel (bm n mk) a' w') → K a' w') → if Region.wanted ok (yielded ops a.tmps) = true then Oper.wp P ok a w K Q else K (a.put Nk undef) w)
    (hi : ops[i]? = some oi := by rfl) (hj : ops[j]? = some oj := by rfl) (hk : ops[k]? = some ok := by rfl) (hNi : oi.dst = Ni := by rfl) (hNj : oj.dst = Nj := by rfl) (hNk : ok.dst = Nk := by rfl)
    (hc : (readyT T.2 (bm n m).toList == [i, j, k] && (bm n m).toList.set i true == (bm n mi).toList && (bm n m).toList.set j true == (bm n mj).toList && (bm n m).toList.set k true == (bm n mk).toList) = true := by kernel_rfl) (hdi : i ∉ ds := by decide) (hdj : j ∉ ds := by decide) (hdk : k ∉ ds := by decide) :
    wpAnyLast P md ops Q S ds (fuel + 1) (bm n m) a w :=
  three_ (bm n mi) (bm n mj) (bm n mk) hi hj hk hNi hNj hNk (three_of HT.out hc) hdi hdj hdk h1 h2 h3
/-- The act written out again. -/
theorem nM_ {fuel : Nat} {l : Array Bool} {a a' : Act} {w : World} (h : wpAnyLast P md ops Q S ds fuel l a' w)
    (ha : a = a' := by (simp only [putAll, Act.put, List.setIfInBounds_toArray, List.set_cons_zero, List.set_cons_succ, i64_w, i32_w]; rfl)) : wpAnyLast P md ops Q S ds fuel l a w := norm_ ha h
end
theorem kb_ {W W' : World} {g : Nat} {o : Obj} (h : Aside0 (W.heap[g]? = some o)) (hb : Below W.heap.size W W') : Aside0 (W'.heap[g]? = some o) := ⟨blk_below h.out hb⟩
theorem bs_ {w W W' : World} (h : Aside0 (Below w.heap.size w W)) (hb : Below W.heap.size W W') : Aside0 (Below w.heap.size w W') := ⟨below_step h.out hb⟩
theorem kd_ {W : World} {g : Nat} {o : Obj} (h : Aside0 (W.heap[g]? = some o)) : Aside0 (W.drew.heap[g]? = some o) := ⟨blk_drew h.out⟩
theorem bd_ {n : Nat} {w W : World} (h : Aside0 (Below n w W)) : Aside0 (Below n w W.drew) := ⟨below_drew1 h.out⟩
/-- What stood ahead of some steps that make memory or draw alone. -/
theorem nb_ {n : Nat} {w W X W' : World} (HB : Aside0 (Below n w W)) (hb : Below X.heap.size X W') (h : Below W.heap.size W X := by repeat (first | exact Below.refl _ _ | apply below_alloc | apply pw_below_drewN | apply below_drew1)) : Below W.heap.size W W' := below_step h hb
theorem ne_ {W : World} {g k : Nat} {o : Obj} (hg : g = W.heap.size) (h : Aside0 (W.heap[k]? = some o)) : Aside0 (k ≠ g) := ⟨by rw [hg]; exact Nat.ne_of_lt (blk_lt h.out)⟩
theorem ge_ {w W : World} {g : Nat} (hg : g = W.heap.size) (h : Aside0 (Below w.heap.size w W)) : Aside0 (w.heap.size ≤ g) := ⟨by rw [hg]; exact below_size h.out⟩
/-- The cells of a block. -/
theorem c1_ {W : World} {g t : Nat} {x : Value} (h : Aside0 (W.heap[g]? = some (.cells #[x] t (0, 0)))) : W.cell? ⟨g, 0, none⟩ = some x := (blk_cell h.out 0).trans rfl
theorem c2_ {W : World} {g t : Nat} {x y : Value} (h : Aside0 (W.heap[g]? = some (.cells #[x, y] t (0, 0)))) : W.cell? ⟨g, 0, none⟩ = some x ∧ W.cell? ⟨g, 1, none⟩ = some y := ⟨(blk_cell h.out 0).trans rfl, (blk_cell h.out 1).trans rfl⟩
theorem c3_ {W : World} {g t : Nat} {x y z : Value} (h : Aside0 (W.heap[g]? = some (.cells #[x, y, z] t (0, 0)))) : W.cell? ⟨g, 0, none⟩ = some x ∧ W.cell? ⟨g, 1, none⟩ = some y ∧ W.cell? ⟨g, 2, none⟩ = some z := ⟨(blk_cell h.out 0).trans rfl, (blk_cell h.out 1).trans rfl, (blk_cell h.out 2).trans rfl⟩
section
variable {P : Program} {ops : Array Oper} {Q : Exit → Act → World → Prop}
theorem bx_ {o : Oper} {rest : List Oper} {a : Act} {W : World} (N : Tmp) (cs : Array Value) (t : TypeId)
    (h : ∀ g, g = W.heap.size → ∀ w1, w1.heap[g]? = some (.cells cs t (0, 0)) → Below W.heap.size W w1 → wpList P ops Q rest (a.put o.dst (.pointer (some ⟨g, 0, none⟩))) w1)
    (hgd : o.guard = none := by rfl) (hd : o.dst = some N := by rfl) (hrun : (execOp a.eval o).run P W = .ok (.value (.pointer (some ⟨W.heap.size, 0, none⟩))) (W.alloc (.cells cs t (0, 0))) := by first | (go_simp; done) | (go_simp; rfl)) : wpList P ops Q (o :: rest) a W := box_event hgd hd hrun h
theorem bs2_ {o : Oper} {a : Act} {W : World} {Kc : Act → World → Prop} (N : Tmp) (cs : Array Value) (t : TypeId)
    (h : ∀ g, g = W.heap.size → ∀ w1, w1.heap[g]? = some (.cells cs t (0, 0)) → Below W.heap.size W w1 → Kc (a.put o.dst (.pointer (some ⟨g, 0, none⟩))) w1)
    (hw : Region.wanted o (yielded ops a.tmps) = true := by rfl) (hd : o.dst = some N := by rfl) (hrun : (execOp a.eval o).run P W = .ok (.value (.pointer (some ⟨W.heap.size, 0, none⟩))) (W.alloc (.cells cs t (0, 0))) := by first | (go_simp; done) | (go_simp; rfl)) : if Region.wanted o (yielded ops a.tmps) = true then Oper.wp P o a W Kc Q else Kc (a.put o.dst undef) W := box_step hw hd hrun h
theorem gL_ {rest : List Oper} {oi : Oper} {a : Act} {w : World} {f : FuncId} {fn : Func} {args : Array Value} {xa : Array Operand} {ts : Array TypeId} {R : Ending → World → Prop} (N : Option Tmp) (hf : P.funcs[f]? = some fn) (hc : Calls P f args w R)
    (h : ∀ e w', R e w' → ∃ v, e = .returned v ∧ wpList P ops Q rest (a.put N v) w') (hd : oi.dst = N := by rfl) (hg : oi.guard = none := by rfl) (hname : (fn.name == "runtime.NumGoroutine") = false := by kernel_rfl) (hb : fn.body.isSome = true := by rfl)
    (hop : oi.op = .call { callee := .value (.func f), args := xa, argTypes := ts } := by rfl) (hargs : xa.map a.eval = args := by ((try simp only [List.map_toArray, List.map_cons, List.map_nil]); first | done | rfl)) : wpList P ops Q (oi :: rest) a w :=
  goesL_ N hd hg hf hname hb args hop hargs (hc.mono h)
theorem gM_ {oi : Oper} {N : Option Tmp} {a : Act} {w : World} {K : Act → World → Prop} {f : FuncId} {fn : Func} {args : Array Value} {xa : Array Operand} {ts : Array TypeId} {R : Ending → World → Prop} (hf : P.funcs[f]? = some fn) (hc : Calls P f args w R)
    (h : ∀ e w', R e w' → ∃ v, e = .returned v ∧ K (a.put N v) w') (hname : (fn.name == "runtime.NumGoroutine") = false := by kernel_rfl) (hb : fn.body.isSome = true := by rfl)
    (hw : Region.wanted oi (yielded ops a.tmps) = true := by rfl) (hN : oi.dst = N := by rfl) (hop : oi.op = .call { callee := .value (.func f), args := xa, argTypes := ts } := by rfl) (hargs : xa.map a.eval = args := by ((try simp only [List.map_toArray, List.map_cons, List.map_nil]); first | done | rfl)) :
    if Region.wanted oi (yielded ops a.tmps) = true then Oper.wp P oi a w K Q else K (a.put N undef) w := goes_ hf hname hb args hw hN hop hargs (hc.mono h)
theorem gV_ {oi : Oper} {N : Option Tmp} {a : Act} {w : World} {K : Act → World → Prop} {f : FuncId} {fn : Func} {c : Operand} {fst cap args : Array Value} {xa : Array Operand} {ts : Array TypeId} {R : Ending → World → Prop} (hf : P.funcs[f]? = some fn) (hc : Calls P f args w R)
    (h : ∀ e w', R e w' → ∃ v, e = .returned v ∧ K (a.put N v) w') (hname : (fn.name == "runtime.NumGoroutine") = false := by kernel_rfl) (hb : fn.body.isSome = true := by rfl)
    (hw : Region.wanted oi (yielded ops a.tmps) = true := by rfl) (hN : oi.dst = N := by rfl) (hop : oi.op = .call { callee := .value c, args := xa, argTypes := ts } := by rfl) (hcv : a.eval c = .func (.func f) fst cap := by rfl) (hargs : (fst ++ xa.map a.eval) ++ cap = args := by ((try simp only [List.map_toArray, List.map_cons, List.map_nil]); first | done | rfl)) :
    if Region.wanted oi (yielded ops a.tmps) = true then Oper.wp P oi a w K Q else K (a.put N undef) w := goesV_ hf hname hb args hw hN hop hcv hargs (hc.mono h)
end
structure Put2 (W W' : World) (g : Nat) (x y : Value) : Prop where
  e : ((W.setCell ⟨g, 0, none⟩ x).setCell ⟨g, 1, none⟩ y) = W'
theorem pp2_ {W W' : World} {g t : Nat} {a b x y : Value} (h : Aside0 (W.heap[g]? = some (.cells #[a, b] t (0, 0)))) (p : Put2 W W' g x y) : Aside0 (W'.heap[g]? = some (.cells #[x, y] t (0, 0))) := by
  have k1 : ((W.setCell ⟨g, 0, none⟩ x)).heap[g]? = some (.cells #[x, b] t (0, 0)) := blk_put h.out 0 x rfl
  have k2 : (((W.setCell ⟨g, 0, none⟩ x).setCell ⟨g, 1, none⟩ y)).heap[g]? = some (.cells #[x, y] t (0, 0)) := blk_put k1 1 y rfl
  exact ⟨by rw [← p.e]; exact k2⟩
theorem pf2_ {W W' : World} {g k t : Nat} {cs : Array Value} {x y : Value} (n : Aside0 (k ≠ g)) (h : Aside0 (W.heap[k]? = some (.cells cs t (0, 0)))) (p : Put2 W W' g x y) : Aside0 (W'.heap[k]? = some (.cells cs t (0, 0))) := ⟨by rw [← p.e]; exact (blk_far (p := ⟨g, 1, none⟩) (blk_far (p := ⟨g, 0, none⟩) h.out n.out x) n.out y)⟩
theorem pf2r_ {W W' : World} {g k t : Nat} {cs : Array Value} {x y : Value} (n : Aside0 (g ≠ k)) (h : Aside0 (W.heap[k]? = some (.cells cs t (0, 0)))) (p : Put2 W W' g x y) : Aside0 (W'.heap[k]? = some (.cells cs t (0, 0))) := pf2_ ⟨n.out.symm⟩ h p
theorem pb2_ {w W W' : World} {g : Nat} {x y : Value} (n : Aside0 (w.heap.size ≤ g)) (h : Aside0 (Below w.heap.size w W)) (p : Put2 W W' g x y) : Aside0 (Below w.heap.size w W') := ⟨by rw [← p.e]; exact (below_set (below_set h.out n.out) n.out)⟩
theorem cf2_ {W : World} {g t : Nat} {x y : Value} (h : Aside0 (W.heap[g]? = some (.cells #[x, y] t (0, 0)))) : W.cell? ⟨g, 0, none⟩ = some x ∧ W.cell? ⟨g, 1, none⟩ = some y ∧ W.frozen? ⟨g, 0, none⟩ = false ∧ W.frozen? ⟨g, 1, none⟩ = false := ⟨(blk_cell h.out 0).trans rfl, (blk_cell h.out 1).trans rfl, blk_frozen h.out 0, blk_frozen h.out 1⟩
theorem st2_ {P : Program} {ops : Array Oper} {o : Oper} {rest : List Oper} {a : Act} {Q : Exit → Act → World → Prop} {W : World} {g : Nat} {x y : Value} (h : ∀ W', Put2 W W' g x y → wpList P ops Q rest a W') (hgd : o.guard = none := by rfl) (hd : o.dst = none := by rfl) (hrun : (execOp a.eval o).run P W = .ok .skip ((W.setCell ⟨g, 0, none⟩ x).setCell ⟨g, 1, none⟩ y) := by first | (go_simp; done) | (go_simp; rfl)) : wpList P ops Q (o :: rest) a W := by
  refine wpList_plain hgd fun K hK => ?_
  unfold Oper.wp
  rw [hrun]
  show K (a.put o.dst undef) _
  rw [hd]
  exact hK _ _ (h _ ⟨rfl⟩)
theorem sk2_ {P : Program} {ops : Array Oper} {oi : Oper} {a : Act} {Q : Exit → Act → World → Prop} {K : Act → World → Prop} {W : World} {g : Nat} {x y : Value} (h : ∀ W', Put2 W W' g x y → K a W') (hw : Region.wanted oi (yielded ops a.tmps) = true := by rfl) (hN : oi.dst = none := by rfl) (hrun : (execOp a.eval oi).run P W = .ok .skip ((W.setCell ⟨g, 0, none⟩ x).setCell ⟨g, 1, none⟩ y) := by first | (go_simp; done) | (go_simp; rfl)) : if Region.wanted oi (yielded ops a.tmps) = true then Oper.wp P oi a W K Q else K (a.put none undef) W :=
  skip_ hw hN hrun (h _ ⟨rfl⟩)
structure Put3 (W W' : World) (g : Nat) (x y z : Value) : Prop where
  e : (((W.setCell ⟨g, 0, none⟩ x).setCell ⟨g, 1, none⟩ y).setCell ⟨g, 2, none⟩ z) = W'
theorem pp3_ {W W' : World} {g t : Nat} {a b c x y z : Value} (h : Aside0 (W.heap[g]? = some (.cells #[a, b, c] t (0, 0)))) (p : Put3 W W' g x y z) : Aside0 (W'.heap[g]? = some (.cells #[x, y, z] t (0, 0))) := by
  have k1 : ((W.setCell ⟨g, 0, none⟩ x)).heap[g]? = some (.cells #[x, b, c] t (0, 0)) := blk_put h.out 0 x rfl
  have k2 : (((W.setCell ⟨g, 0, none⟩ x).setCell ⟨g, 1, none⟩ y)).heap[g]? = some (.cells #[x, y, c] t (0, 0)) := blk_put k1 1 y rfl
  have k3 : ((((W.setCell ⟨g, 0, none⟩ x).setCell ⟨g, 1, none⟩ y).setCell ⟨g, 2, none⟩ z)).heap[g]? = some (.cells #[x, y, z] t (0, 0)) := blk_put k2 2 z rfl
  exact ⟨by rw [← p.e]; exact k3⟩
theorem pf3_ {W W' : World} {g k t : Nat} {cs : Array Value} {x y z : Value} (n : Aside0 (k ≠ g)) (h : Aside0 (W.heap[k]? = some (.cells cs t (0, 0)))) (p : Put3 W W' g x y z) : Aside0 (W'.heap[k]? = some (.cells cs t (0, 0))) := ⟨by rw [← p.e]; exact (blk_far (p := ⟨g, 2, none⟩) (blk_far (p := ⟨g, 1, none⟩) (blk_far (p := ⟨g, 0, none⟩) h.out n.out x) n.out y) n.out z)⟩
theorem pf3r_ {W W' : World} {g k t : Nat} {cs : Array Value} {x y z : Value} (n : Aside0 (g ≠ k)) (h : Aside0 (W.heap[k]? = some (.cells cs t (0, 0)))) (p : Put3 W W' g x y z) : Aside0 (W'.heap[k]? = some (.cells cs t (0, 0))) := pf3_ ⟨n.out.symm⟩ h p
theorem pb3_ {w W W' : World} {g : Nat} {x y z : Value} (n : Aside0 (w.heap.size ≤ g)) (h : Aside0 (Below w.heap.size w W)) (p : Put3 W W' g x y z) : Aside0 (Below w.heap.size w W') := ⟨by rw [← p.e]; exact (below_set (below_set (below_set h.out n.out) n.out) n.out)⟩
theorem cf3_ {W : World} {g t : Nat} {x y z : Value} (h : Aside0 (W.heap[g]? = some (.cells #[x, y, z] t (0, 0)))) : W.cell? ⟨g, 0, none⟩ = some x ∧ W.cell? ⟨g, 1, none⟩ = some y ∧ W.cell? ⟨g, 2, none⟩ = some z ∧ W.frozen? ⟨g, 0, none⟩ = false ∧ W.frozen? ⟨g, 1, none⟩ = false ∧ W.frozen? ⟨g, 2, none⟩ = false := ⟨(blk_cell h.out 0).trans rfl, (blk_cell h.out 1).trans rfl, (blk_cell h.out 2).trans rfl, blk_frozen h.out 0, blk_frozen h.out 1, blk_frozen h.out 2⟩
theorem st3_ {P : Program} {ops : Array Oper} {o : Oper} {rest : List Oper} {a : Act} {Q : Exit → Act → World → Prop} {W : World} {g : Nat} {x y z : Value} (h : ∀ W', Put3 W W' g x y z → wpList P ops Q rest a W') (hgd : o.guard = none := by rfl) (hd : o.dst = none := by rfl) (hrun : (execOp a.eval o).run P W = .ok .skip (((W.setCell ⟨g, 0, none⟩ x).setCell ⟨g, 1, none⟩ y).setCell ⟨g, 2, none⟩ z) := by first | (go_simp; done) | (go_simp; rfl)) : wpList P ops Q (o :: rest) a W := by
  refine wpList_plain hgd fun K hK => ?_
  unfold Oper.wp
  rw [hrun]
  show K (a.put o.dst undef) _
  rw [hd]
  exact hK _ _ (h _ ⟨rfl⟩)
theorem sk3_ {P : Program} {ops : Array Oper} {oi : Oper} {a : Act} {Q : Exit → Act → World → Prop} {K : Act → World → Prop} {W : World} {g : Nat} {x y z : Value} (h : ∀ W', Put3 W W' g x y z → K a W') (hw : Region.wanted oi (yielded ops a.tmps) = true := by rfl) (hN : oi.dst = none := by rfl) (hrun : (execOp a.eval oi).run P W = .ok .skip (((W.setCell ⟨g, 0, none⟩ x).setCell ⟨g, 1, none⟩ y).setCell ⟨g, 2, none⟩ z) := by first | (go_simp; done) | (go_simp; rfl)) : if Region.wanted oi (yielded ops a.tmps) = true then Oper.wp P oi a W K Q else K (a.put none undef) W :=
  skip_ hw hN hrun (h _ ⟨rfl⟩)
end Go.Proofs.YtlhfclpbodfmcaaGreatDoor.Pr
