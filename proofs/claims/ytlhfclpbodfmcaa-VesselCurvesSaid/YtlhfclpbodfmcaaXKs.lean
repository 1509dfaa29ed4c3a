/- A part of the proof: Ks. -/
import Derived.Test.YtlhfclpbodfmcaaXScS
import Derived.Test.YtlhfclpbodfmcaaXKq
namespace Go.Proofs.Ytlhfclpbodfmcaa.Pr
open Go.RowKit Go.Proofs.YtlhfclpbodfmcaaW.PrintWords Go.Proofs.YtlhfclpbodfmcaaW.PrintLast Go.Proofs.YtlhfclpbodfmcaaW.PrintMore
set_option linter.unusedVariables false
structure SetJ (W W' : World) (g j : Nat) (u : Value) : Prop where
  e : W.setCell ⟨g, j, none⟩ u = W'
section
variable {P : Program} {ops : Array Oper} {Q : Exit → Act → World → Prop}
theorem lS_ {o : Oper} {a : Act} {W : World} {Kc : Act → World → Prop} (N : Tmp) (y : Int) (E : TypeId)
    (h : ∀ g, g = W.heap.size → ∀ w1, w1.heap[g]? = some (.cells #[.int .i64 y] E (0, 0)) → Below W.heap.size W w1 → Kc (a.put o.dst (.slice (some ⟨g, 0, none⟩) 1 1)) w1)
    (hw : Region.wanted o (yielded ops a.tmps) = true := by rfl) (hd : o.dst = some N := by rfl) (hrun : (execOp a.eval o).run P W = .ok (.value (.slice (some ⟨W.heap.size, 0, none⟩) 1 1)) (W.alloc (.cells #[.int .i64 y] E (0, 0))) := by first | (go_simp; done) | (go_simp; rfl)) : if Region.wanted o (yielded ops a.tmps) = true then Oper.wp P o a W Kc Q else Kc (a.put o.dst undef) W := lit_step hw hd hrun h
theorem sk1_0_ {oi : Oper} {a : Act} {K : Act → World → Prop} {W : World} {g : Nat} {u : Value} (h : ∀ W', SetJ W W' g 0 u → K a W') (hw : Region.wanted oi (yielded ops a.tmps) = true := by rfl) (hN : oi.dst = none := by rfl) (hrun : (execOp a.eval oi).run P W = .ok .skip (W.setCell ⟨g, 0, none⟩ u) := by first | (go_simp; done) | (go_simp; rfl)) : if Region.wanted oi (yielded ops a.tmps) = true then Oper.wp P oi a W K Q else K (a.put none undef) W :=
  skip_ hw hN hrun (h _ ⟨rfl⟩)
theorem rgo0_ {w W W' : World} {T E gs c t : Nat} {cs : Array Value} {v1 v2 r1 r2 u : Value} {xs ys : List Int} (h : Aside0 (Rg w W T E gs v1 v2 r1 r2 xs ys)) (hk : Aside0 (W.heap[c]? = some (.cells cs t (0, 0)))) (p : SetJ W W' gs 0 u) (ht : t ≠ T := by decide) : Aside0 (W'.heap[c]? = some (.cells cs t (0, 0))) := ⟨by rw [← p.e]; exact Rg.other_set (j := 0) ht h.out hk.out⟩
theorem rgs0_ {w W W' : World} {T E gs : Nat} {v1 v2 r1 r2 u : Value} {xs ys : List Int} (h : Aside0 (Rg w W T E gs v1 v2 r1 r2 xs ys)) (p : SetJ W W' gs 0 u) (hT : ∀ q, q ∈ E :: (Kd.int .i64).E → q ≠ T := by decide) : Aside0 (Rg w W' T E gs u v2 r1 r2 xs ys) := ⟨by rw [← p.e]; exact Rg.set0 hT h.out⟩
theorem sk1_1_ {oi : Oper} {a : Act} {K : Act → World → Prop} {W : World} {g : Nat} {u : Value} (h : ∀ W', SetJ W W' g 1 u → K a W') (hw : Region.wanted oi (yielded ops a.tmps) = true := by rfl) (hN : oi.dst = none := by rfl) (hrun : (execOp a.eval oi).run P W = .ok .skip (W.setCell ⟨g, 1, none⟩ u) := by first | (go_simp; done) | (go_simp; rfl)) : if Region.wanted oi (yielded ops a.tmps) = true then Oper.wp P oi a W K Q else K (a.put none undef) W :=
  skip_ hw hN hrun (h _ ⟨rfl⟩)
theorem rgo1_ {w W W' : World} {T E gs c t : Nat} {cs : Array Value} {v1 v2 r1 r2 u : Value} {xs ys : List Int} (h : Aside0 (Rg w W T E gs v1 v2 r1 r2 xs ys)) (hk : Aside0 (W.heap[c]? = some (.cells cs t (0, 0)))) (p : SetJ W W' gs 1 u) (ht : t ≠ T := by decide) : Aside0 (W'.heap[c]? = some (.cells cs t (0, 0))) := ⟨by rw [← p.e]; exact Rg.other_set (j := 1) ht h.out hk.out⟩
theorem rgs1_ {w W W' : World} {T E gs : Nat} {v1 v2 r1 r2 u : Value} {xs ys : List Int} (h : Aside0 (Rg w W T E gs v1 v2 r1 r2 xs ys)) (p : SetJ W W' gs 1 u) (hT : ∀ q, q ∈ E :: (Kd.int .i64).E → q ≠ T := by decide) : Aside0 (Rg w W' T E gs v1 u r1 r2 xs ys) := ⟨by rw [← p.e]; exact Rg.set1 hT h.out⟩
end
end Go.Proofs.Ytlhfclpbodfmcaa.Pr
