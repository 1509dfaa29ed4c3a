/- A part of the proof: Dr. -/
import Derived.Test.YtlhfclpbodfmcaaGreatDoorYBCvC
namespace Go.Proofs.YtlhfclpbodfmcaaGreatDoor.Pr
open Go.RowKit Go.Proofs.YtlhfclpbodfmcaaGreatDoorW.PrintWords Go.Proofs.YtlhfclpbodfmcaaGreatDoorW.PrintLast Go.Proofs.YtlhfclpbodfmcaaGreatDoorW.PrintMore
open Go.Proofs.YtlhfclpbodfmcaaGreatDoor.Vm
set_option linter.unusedVariables false
set_option linter.unusedSimpArgs false
def ptsF (hs ds : List Int) (n : Nat) : List S60 := (List.range n).map (fun (i : Nat) => (⟨rd (sums 0 hs) (i : Int), rd (sums 0 ds) (i : Int)⟩ : S60))
theorem ptsF_length (hs ds : List Int) (n : Nat) : (ptsF hs ds n).length = n := by simp [ptsF]
theorem ptsF_succ (hs ds : List Int) (n : Nat) : ptsF hs ds n ++ [⟨rd (sums 0 hs) (n : Int), rd (sums 0 ds) (n : Int)⟩] = ptsF hs ds (n + 1) := by simp [ptsF, List.range_succ]
def drawF (f : S79 → Int) (l : List S79) : List S60 × Int := if validB l then (ptsF (hsO l) (l.map f) (l.length + 1), checkC (ptsF (hsO l) (l.map f) (l.length + 1))) else ([], 20)
theorem recRow60 {W : World} {g E : Nat} {x : S60} (h : W.heap[g]? = some (.cells #[.int .i64 x.f0, .int .i64 x.f1] E (0, 0))) : ReadsRow (fun (x : S60) (cs : List Value) => cs = [.int .i64 x.f0, .int .i64 x.f1]) 2 W (some ⟨g, 0, none⟩) 1 [x] := by
  refine ⟨rfl, by omega, fun _ => ⟨⟨g, 0, none⟩, rfl, fun j p hj => ?_⟩⟩
  rcases j with _ | j
  · simp at hj
    subst hj
    refine ⟨[.int .i64 x.f0, .int .i64 x.f1], rfl, rfl, fun i u hu => ?_⟩
    rcases i with _ | _ | i
    · simp at hu; subst hu; simpa [add_plain] using (blk_cell h 0)
    · simp at hu; subst hu; simpa [add_plain] using (blk_cell h 1)
    · simp at hu
  · simp at hj
theorem app60_list {P : Program} {ops : Array Oper} {o : Oper} {rest : List Oper} {a : Act} {Q : Exit → Act → World → Prop} {w W : World} (hgd : o.guard = none) (s x : Operand) (t e : TypeId)
    (ho : o.op = .call { callee := .builtin .append, args := #[s, x], argTypes := #[t, t] }) (ht : P.underlying t = some (.slice e)) (hi : (P.info? e).map (fun i => (i.zero, i.size, i.bytes)) = some (some (.agg #[.int .i64 0, .int .i64 0]), 2, 16))
    (v : Value) (xs : List S60) (y : S60) (ga : Nat) (hs : a.eval s = v) (hx : a.eval x = .slice (some ⟨ga, 0, none⟩) 1 1) (HO : Kd.R k60 e W w.heap.size (fun _ => True) v xs) (HL : W.heap[ga]? = some (.cells #[.int .i64 y.f0, .int .i64 y.f1] e (0, 0))) (HB : Below w.heap.size w W) (hl : xs.length ≤ 1000)
    (h : ∀ v1 w1, Kd.R k60 e w1 w.heap.size (fun _ => True) v1 (xs ++ [y]) → Below w.heap.size w w1 → W.grownBy w1 v.ownBlock → (v1.ownBlock = v.ownBlock ∨ ∃ b, v1.ownBlock = some b ∧ W.heap.size ≤ b) → wpList P ops Q rest (a.put o.dst v1) w1) :
    wpList P ops Q (o :: rest) a W := by
  refine Kd.R_append_rows k60 (w0 := w) w.heap.size hgd s x t e (.agg #[.int .i64 0, .int .i64 0]) 16 ho ht hi (by rfl) (by decide) (by decide) v xs [y] (some ⟨ga, 0, none⟩) 1 1 (fun _ => True) (fun _ => False) hs hx HO (recRow60 HL) ?_ (fun k hk => hk.elim) (fun k hk => trivial) HB HB.size (by omega) h
  intro x cs hc
  subst hc
  exact k60_mkM _ _ _ x
set_option maxHeartbeats 1600000 in
set_option maxRecDepth 100000 in
theorem minute_drawn.calls (A0 : Option Addr) (c0 : Nat) (l0 : List S79) (r1 : List S60) (r2 : Int) (w : World) (hr0 : Kd.C k79 w A0 l0.length l0) (hc0 : l0.length ≤ c0) (h : drawF (·.f2) l0 = (r1, r2)) :
    Calls Tryz.prog 57 #[.slice A0 l0.length c0, .func (.func 58) #[] #[]] w fun e w' => ∃ v0_ : Value, e = .returned (.tuple #[v0_, .int .i64 r2]) ∧ Kd.R k60 53 w' w.heap.size (fun _ => True) v0_ r1 ∧ Below w.heap.size w w' := by
  have hu60 := Tryz.underlying53
  have hu153 := Tryz.underlying121
  have hu150 := Tryz.underlying118
  have HR0 := Aside0.mk hr0
  have HC0 := Aside0.mk hc0
  clear hr0 hc0
  have HB := Aside0.mk (Below.refl w.heap.size w)
  unfold drawF at h
  by_cases hv : validB l0 = true
  · rw [if_pos hv] at h
    obtain ⟨rfl, rfl⟩ : (ptsF (l0.map (·.f0)) (l0.map (·.f2)) (l0.length + 1)) = r1 ∧ checkC (ptsF (l0.map (·.f0)) (l0.map (·.f2)) (l0.length + 1)) = r2 := by simpa using h
    clear h
    have hK : vessel_Check.f 30 l0 = some 0 := by rw [vCheck]; unfold checkF; rw [hv]; rfl
    have HK := Aside0.mk hK
    have hG : GV (hsO l0) (vsO l0) (dsO l0) := valid_GV hv
    have hlen := hG.h.ln
    rw [List.length_map] at hlen
    have HN : Aside0 (l0.length ≤ 900) := ⟨by omega⟩
    have HLEN := Aside0.mk hlen
    clear hK hv hG hlen
    go_enter Tryz.func57, Tryz.ntmps57
    go_wp2_with (first | ((with_reducible refine gate_callee (f := 26) rfl ?_); refine gL_ (some 13) Tryz.func26 (vessel_Check.calls 30 A0 c0 l0 0 _ (Kd.C_below HR0.out HB.out) HC0.out HK.out) ?_; rintro e w2 ⟨rfl, hb⟩; refine ⟨.int .i64 0, rfl, ?_⟩; replace hb := nb_ HB hb; replace HB := bs_ HB hb; clear hb))
    refine (height_scaled.calls A0 c0 l0 _ (Kd.C_below HR0.out HB.out) HN.out).mono ?_
    rintro e w3 ⟨g1, rfl, s_, hb⟩
    replace hb := nb_ HB hb
    replace HB := bs_ HB hb
    have SC1 := Aside0.mk (ScX.sc s_)
    clear s_ hb
    go_wp2_with fail
    refine (minute_scaled.calls A0 c0 l0 _ (Kd.C_below HR0.out HB.out) HN.out).mono ?_
    rintro e w4 ⟨g2, rfl, s_, hb⟩
    replace hb := nb_ HB hb
    replace SC1 := Aside0.mk (Sc.below SC1.out hb)
    replace HB := bs_ HB hb
    have SC2 := Aside0.mk (ScX.sc s_)
    clear s_ hb
    obtain ⟨a1, a2, cc1, cc2, e1, e2, d1, d2, l1, l2⟩ := SC1.out
    obtain ⟨b1, b2, dd1, dd2, f1, f2, t1, t2, m1, m2⟩ := SC2.out
    have hlx : (sums 0 (l0.map (·.f0))).length = l0.length + 1 := by rw [sums_length, List.length_map]
    have hly : (sums 0 (l0.map (·.f2))).length = l0.length + 1 := by rw [sums_length, List.length_map]
    rw [hlx] at e2 d2 l2
    rw [hly] at f2 t2 m2
    have E2 := Aside0.mk e2
    have F2 := Aside0.mk f2
    have D2 := Aside0.mk d2
    have T2 := Aside0.mk t2
    have HLX := Aside0.mk hlx
    have HLY := Aside0.mk hly
    have HV := Aside0.mk (Below.refl w4.heap.size w4)
    have HWV := Aside0.mk HB.out.size
    clear e1 d1 l1 l2 f1 t1 m1 m2 d2 t2 hlx hly SC1 SC2 f2
    go_wp2
    clear e2
    have RO : Aside0 (Kd.R k60 53 w4 w4.heap.size (fun _ => True) (.slice none 0 0) (ptsF (l0.map (·.f0)) (l0.map (·.f2)) 0)) := ⟨Kd.R_nil _ _ _ _ _⟩
    go_loopg [9, 27] (l0.length + 1) (fun kq v9 v27 w' => ∃ (n : Nat), v27 = .int .i64 (n : Int) ∧ Aside0 (n + kq = l0.length + 1) ∧ Aside0 (Kd.R k60 53 w' w4.heap.size (fun _ => True) v9 (ptsF (l0.map (·.f0)) (l0.map (·.f2)) n)) ∧ Aside0 (Below w.heap.size w w') ∧ Aside0 (Below w4.heap.size w4 w'))
    case atStart => exact ⟨0, rfl, ⟨by omega⟩, RO, HB, HV⟩
    case round =>
      clear RO HB HV
      obtain ⟨n, rfl, HI, RO, HB, HV⟩ := hrel
      by_cases hij : n < l0.length + 1
      · have hd : decide ((n : Int) < ((l0.length + 1 : Nat) : Int)) = true := decide_eq_true (by omega)
        have hd3 : decide ((n : Int) < (l0.length : Int) + 1) = true := decide_eq_true (by omega)
        have hd2 : decide (n < l0.length + 1) = true := decide_eq_true hij
        have h0 : (0 : Int) ≤ (n : Int) := by omega
        have h1 : (n : Int) < ((l0.length + 1 : Nat) : Int) := by omega
        have h2 : (n : Int) < (l0.length : Int) + 1 := by omega
        obtain ⟨ad1, q1, x1⟩ := Kd.at_int D2.out (n : Int) h0 h1
        obtain ⟨ad2, q2, x2⟩ := Kd.at_int T2.out (n : Int) h0 h1
        subst q1 q2
        simp only [Int.toNat_natCast] at x1 x2
        have hn24 : n ≤ 24 := by have := HLEN.out; omega
        have HPL : Aside0 ((ptsF (l0.map (·.f0)) (l0.map (·.f2)) n).length ≤ 1000) := ⟨by rw [ptsF_length]; have := HLEN.out; omega⟩
        have X1 := pw_cell_below HV.out x1
        have X2 := pw_cell_below HV.out x2
        have X3 := pw_cell_below HV.out F2.out
        clear x1 x2
        replace h0 := eq_true h0
        replace h1 := eq_true h1
        replace h2 := eq_true h2
        have h3 : (n < l0.length + 1) = True := eq_true hij
        go_wp2_with (first | ((with_reducible refine gate_dst (N := 42) rfl ?_); refine litv_list ?hg (N := 42) ?hd (cs := #[.int .i64 (rd (sums 0 (l0.map (·.f0))) (n : Int)), .int .i64 (rd (sums 0 (l0.map (·.f2))) (n : Int))]) (E := 53) ?hr ?_; (case hd => rfl); (case hg => rfl); (case hr => first | (go_simp; done) | (go_simp; rfl)); intro ga hg w10 hbox hb; replace hb := nb_ HB hb; replace RO := Aside0.mk (Kd.R_below RO.out hb); replace HB := bs_ HB hb; replace HV := bs_ HV hb; have BKga := Aside0.mk hbox; clear hb hbox hg X1 X2 X3) | ((with_reducible refine gate_dst (N := 43) rfl ?_); refine app60_list (w := w4) ?hg (.tmp 32) (.tmp 42) 47 53 ?ho Tryz.underlying47 info60 u9 (ptsF (l0.map (·.f0)) (l0.map (·.f2)) n) ⟨rd (sums 0 (l0.map (·.f0))) (n : Int), rd (sums 0 (l0.map (·.f2))) (n : Int)⟩ ga ?hq1 ?hq2 RO.out BKga.out HV.out HPL.out ?_; (case hg => rfl); (case ho => rfl); (case hq1 => rfl); (case hq2 => rfl); intro u9_ w11 ho hb hg hat; have n0_ := Aside0.mk (pw_below_grown HB.out _ HB.out.size hg (fun k hk => Nat.le_trans HWV.out (Kd.R_base RO.out k hk))); have n1_ := Aside0.mk hb; rw [ptsF_succ] at ho; have n2_ := Aside0.mk ho; clear HB RO BKga HV; have HB := n0_; have HV := n1_; have RO := n2_; clear n0_ n1_ n2_ ho hb hg hat))
        go_roundg (gk - 1)
        case measure => have := HI.out; omega
        case rel => exact ⟨n + 1, by go_num, ⟨by have := HI.out; omega⟩, RO, HB, HV⟩
      · have hd : decide ((n : Int) < ((l0.length + 1 : Nat) : Int)) = false := decide_eq_false (by omega)
        have hd3 : decide ((n : Int) < (l0.length : Int) + 1) = false := decide_eq_false (by omega)
        have hd2 : decide (n < l0.length + 1) = false := decide_eq_false hij
        obtain rfl : n = l0.length + 1 := by have := HI.out; omega
        obtain ⟨A9, c9, rfl, l9, k9⟩ := Kd.R_reads RO.out
        have K9 := Aside0.mk k9
        have L9 := Aside0.mk l9
        clear k9 l9
        go_wp2_with (first | ((with_reducible refine gate_callee (f := 82) rfl ?_); refine gL_ (some 47) Tryz.func82 (curve_Check.calls A9 c9 (ptsF (l0.map (·.f0)) (l0.map (·.f2)) (l0.length + 1)) _ _ K9.out L9.out rfl) ?_; rintro e w12 ⟨rfl, hb⟩; refine ⟨.int .i64 (checkC (ptsF (l0.map (·.f0)) (l0.map (·.f2)) (l0.length + 1))), rfl, ?_⟩; replace hb := nb_ HB hb; replace RO := Aside0.mk (Kd.R_below RO.out hb); replace HB := bs_ HB hb; clear hb))
        go_ret2
        exact ⟨_, rfl, Kd.R_lower RO.out HWV.out, HB.out⟩
  · rw [if_neg hv] at h
    obtain ⟨rfl, rfl⟩ : ([] : List S60) = r1 ∧ (20 : Int) = r2 := by simpa using h
    clear h
    have hK : vessel_Check.f 30 l0 = some 20 := by rw [vCheck]; unfold checkF; rw [Bool.not_eq_true] at hv; rw [hv]; rfl
    have HK := Aside0.mk hK
    clear hK hv
    go_enter Tryz.func57, Tryz.ntmps57
    go_wp2_with (first | ((with_reducible refine gate_callee (f := 26) rfl ?_); refine gL_ (some 13) Tryz.func26 (vessel_Check.calls 30 A0 c0 l0 20 _ (Kd.C_below HR0.out HB.out) HC0.out HK.out) ?_; rintro e w2 ⟨rfl, hb⟩; refine ⟨.int .i64 20, rfl, ?_⟩; replace hb := nb_ HB hb; replace HB := bs_ HB hb; clear hb))
    go_ret2
    exact ⟨_, rfl, Kd.R_nil _ _ _ _ _, HB.out⟩
def vessel_Emptying.f (l0 : List S79) : Option (List S60 × Int) := some (drawF (·.f2) l0)
set_option maxHeartbeats 1600000 in
set_option maxRecDepth 100000 in
theorem vessel_Emptying.calls (A0 : Option Addr) (c0 : Nat) (l0 : List S79) (r1 : List S60) (r2 : Int) (w : World) (hr0 : Kd.C k79 w A0 l0.length l0) (hc0 : l0.length ≤ c0) (h : vessel_Emptying.f l0 = some (r1, r2)) :
    Calls Tryz.prog 23 #[.slice A0 l0.length c0] w fun e w' => ∃ v0_ : Value, e = .returned (.tuple #[v0_, .int .i64 r2]) ∧ Kd.R k60 53 w' w.heap.size (fun _ => True) v0_ r1 ∧ Below w.heap.size w w' := by
  have HB := Aside0.mk (Below.refl w.heap.size w)
  have C1 := minute_drawn.calls A0 c0 l0 r1 r2 w hr0 hc0 (Option.some.inj h)
  clear hr0 hc0 h
  go_enter Tryz.func23, Tryz.ntmps23
  go_wp2_with (first | ((with_reducible refine gate_dst (N := 5) rfl ?_); refine goesL_ (some 5) rfl rfl Tryz.func57 (by kernel_rfl) rfl #[.slice A0 l0.length c0, .func (.func 58) #[] #[]] rfl (by (try simp only [List.map_toArray, List.map_cons, List.map_nil]); first | done | rfl) ?_; refine C1.mono ?_; rintro e w2 ⟨v0_, rfl, RO, hb⟩; refine ⟨_, rfl, ?_⟩))
  go_ret2
  exact ⟨_, rfl, RO, hb⟩
end Go.Proofs.YtlhfclpbodfmcaaGreatDoor.Pr
