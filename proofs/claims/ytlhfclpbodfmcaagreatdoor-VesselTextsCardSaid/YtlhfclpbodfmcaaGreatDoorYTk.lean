/- The law VesselTexts: for every vessel and every text the call returns true, and both arguments read behind it as they read before; the listed variables of the library as the program's text lays them. -/
import Derived.Test.YtlhfclpbodfmcaaGreatDoorRows
import Derived.Test.YtlhfclpbodfmcaaGreatDoorCards
import Derived.Test.YtlhfclpbodfmcaaGreatDoorTie
import Derived.Test.YtlhfclpbodfmcaaGreatDoorYTj
import Derived.Test.YtlhfclpbodfmcaaGreatDoorYTl
import Derived.Test.YtlhfclpbodfmcaaGreatDoorYTw
import Derived.Test.YtlhfclpbodfmcaaGreatDoorYBRw
import Derived.WalkKit
import Derived.ProofKit
import Derived.OpenShut
import Derived.ShutString
import Derived.ChangeOld
import Derived.Below
import Derived.SizedLaws
import Derived.Deep.DeepHandedRow
import Derived.Lib.LaidTab
import Derived.Stop.LaidErr
import Derived.SevenTiedAt
namespace Go.Proofs.YtlhfclpbodfmcaaGreatDoor.vesselTexts
open Go.ChangeShapes Go.WideShapes Go.ChangeAt Go.RowKit
open Go.ChangeMaps (open_string shut_string)
open Go.Proofs.YtlhfclpbodfmcaaGreatDoor.Pr Go.Proofs.YtlhfclpbodfmcaaGreatDoorW.PrintWords
theorem own : ownKnob Tryz.prog.godebug = none := by kernel_rfl
theorem laidOut : laidOutB Tryz.prog = true := by kernel_rfl
theorem g10 : Tryz.prog.globalNamed "internal/strconv.uint64pow10" = some 2 := by kernel_rfl
theorem t10 : (Tryz.prog.globals[2]?).map (·.type) = some 170 := by kernel_rfl
theorem gR : Tryz.prog.globalNamed "strconv.ErrRange" = some 1 := by kernel_rfl
theorem tR : (Tryz.prog.globals[1]?).map (·.type) = some 64 := by kernel_rfl
theorem gS : Tryz.prog.globalNamed "strconv.ErrSyntax" = some 0 := by kernel_rfl
theorem tS : (Tryz.prog.globals[0]?).map (·.type) = some 64 := by kernel_rfl
theorem c170 : Tryz.prog.cellsOf 170 = 20 := by kernel_rfl
theorem c147 : Tryz.prog.cellsOf 147 = 1 := by kernel_rfl
theorem c178 : Tryz.prog.cellsOf 178 = 1 := by kernel_rfl
theorem c9 : Tryz.prog.cellsOf 9 = 1 := by kernel_rfl
theorem tab_eq : (Rows.laid_internal_strconv_uint64pow10 : DataW Unit) = Lib.tabData .u64 Lib.pow10Tab := by kernel_rfl
theorem star : "*" ++ "errors.errorString" = "*errors.errorString" := by decide
theorem row176 (u : TypeId) (h : Tryz.prog.typeName? 3 u = some "*errors.errorString") : u = 176 :=
  typeName_ptr_named (nm := "errors.errorString") (by rw [star]; kernel_rfl) (by kernel_rfl) (by decide) u (by rw [star]; exact h)
theorem env_of {W : World} (hL : laidMet Tryz.prog Rows.vesselTextsRow.laid W) (hsh : W.ShapedOpen Tryz.prog) : Env W := by
  have h3 := hL.tail.tail
  have h5 := h3.tail.tail
  obtain ⟨a1, s1, hv1, _⟩ := laid_sentinel h5 gR tR Tryz.underlying64 row176 Tryz.underlying176 Tryz.underlying178 rfl rfl Tryz.underlying9 c178 c9
  obtain ⟨a2, s2, hv2, _⟩ := laid_sentinel h5.tail gS tS Tryz.underlying64 row176 Tryz.underlying176 Tryz.underlying178 rfl rfl Tryz.underlying9 c178 c9
  refine ⟨?_, ?_, ⟨_, _, hv2⟩, ⟨_, _, hv1⟩⟩
  · exact Go.Proofs.cell_of_shapedOpen_int (zero := #[.int .i64 0]) (t := 3) hsh (of_decide_eq_true (by kernel_rfl)) (by kernel_rfl) rfl (by kernel_rfl) (by kernel_rfl) Tryz.underlying3
  · have h4 : laidMet Tryz.prog (("internal/strconv.uint64pow10", Rows.laid_internal_strconv_uint64pow10) :: _) W := h3
    rw [tab_eq] at h4
    exact Lib.tabIs_of_head g10 t10 Tryz.underlying170 Tryz.underlying147 c147 c170 h4
set_option maxRecDepth 100000 in
theorem lifted (os : Os) (started : os.Started) (H : Type) (enc : TypeId × Value → H) (F : Stop.Interp) :
    ReturnsInHanded {} Tryz.checked os 3 .any ((OpenSpec.ofChange Rows.vesselTextsSpec).preRow enc Tryz.prog Tryz.f3 Rows.vesselTextsRow.domain false Rows.vesselTextsRow.laid) (((OpenSpec.ofChange Rows.vesselTextsSpec).at F).post enc Tryz.prog Tryz.f3 false true false false) := by
  refine returnsInHanded_of_row (C := Tryz.checked) (s := OpenSpec.ofChange Rows.vesselTextsSpec) own started (by kernel_rfl) Tryz.func3 (start os enc) ?_
  intro W base args ds gs before hval0 hW hcnd0 _ _ hL hsh _
  have hval : ∀ (j : Nat) t v, Tryz.f3.params[j]? = some t → args[j]? = some v → Value.okWide Tryz.prog W .any base t v := hval0
  have hW' := hW
  obtain ⟨p, q, hA0, hV, rfl, hfz, hnd⟩ := hW
  have hA : DataW.TrodAll enc Tryz.prog W 0 (fun _ => true) true Tryz.f3.params.toList args.toList ds p := hA0
  rw [Tryz.params3] at hA hval
  obtain ⟨v0, vs0, d0, ds0, p0, q0, hargs, rfl, rfl, h0, r0⟩ := trodAll_cons hA
  obtain ⟨v1, vs1, d1, ds1, p1, q1, rfl, rfl, rfl, h1, r1⟩ := trodAll_cons r0
  obtain ⟨rfl, rfl, rfl⟩ := trodAll_nil r1
  obtain rfl : args = #[v0, v1] := by cases args; simp_all
  obtain ⟨rfl, rfl⟩ := trodVars_none hV
  obtain ⟨a0, len0, cap0, rfl⟩ := okWide_slice Tryz.underlying23 (hval 0 23 v0 rfl rfl)
  have k0 := h0
  have lt0 : ∀ x ∈ p0, x.block < W.heap.size := by obtain ⟨m, hm⟩ := k0; exact DataW.trod_lt m _ _ _ hm
  obtain ⟨z0, rfl, c0, w0⟩ : ∃ zs : List S79, zs.length = len0 ∧ zs.length ≤ cap0 ∧ Kd.C k79 W a0 zs.length zs := by
    obtain ⟨fuel, hf⟩ := h0
    exact open_rings hf
  obtain ⟨s, rfl, rfl, rfl, ws⟩ := open_string Tryz.underlying9 (hval 1 9 v1 rfl rfl) h1
  clear hA0 hval0
  refine (texts.walk a0 cap0 z0 s W w0 c0 (env_of hL hsh)).mono fun e W' ⟨he, bel⟩ => ?_
  subst he
  exact ⟨_, rfl, _, _, _, [], _, [], hW', trodAll_mk1 (shut_bool Tryz.underlying4 _), (trodAll_cons_mk (Below.trod laidOut (by kernel_rfl) (of_decide_eq_true (by kernel_rfl)) k0 bel lt0) (trodAll_cons_mk (shut_string Tryz.underlying9 ws) trodAll_mk0)), rfl, bel.frame _, fun h => by cases h⟩
theorem over : Rows.VesselTextsSaid :=
  OpenClaim.holds_of_cond 3 Tryz.f3 rfl rfl rfl rfl rfl rfl rfl ⟨rfl, rfl, rfl, rfl, rfl⟩ rfl rfl rfl rfl rfl (by kernel_rfl) Tryz.func3 closed
    (of_decide_eq_true (by kernel_rfl)) (by unfold Func.isWrapper; first | (rw [if_pos (by decide +kernel)]; kernel_rfl) | (rw [if_neg (by decide +kernel)]; exact ⟨rfl, rfl⟩))
    (fun os started H enc _ F0 => by rw [OpenClaim.pre_eq_preRow]; exact lifted os started H enc F0)
/-- The card, tied to the program's text. -/
theorem card : Rows.VesselTextsCardSaid :=
  Claim7.holds_tied_plain_at .later [] [.data, .data, .data, .data, .sentinel, .sentinel, .pinned] true (true, "64a78b88aef67a6a6a87299760b3be1434151ba2c92a033039ed9fb8428be0ef") true
    over (fun _ h => by cases h) (by kernel_rfl) (fun _ h => by cases h) vesselTexts_row_tie rfl ⟨rfl, rfl⟩ (by kernel_rfl) rfl
    (fun f fn hf hfn => by
      obtain rfl : f = 3 := Option.some.inj ((show Tryz.prog.funcNamed "waterhour/waterhourlaw02.VesselTexts" = some 3 by kernel_rfl).symm.trans hf) |>.symm
      obtain rfl : fn = Tryz.f3 := (Option.some.inj (Tryz.func3.symm.trans hfn)).symm
      exact ⟨by kernel_rfl, fun j t ht => by
        rw [Tryz.params3] at ht
        have hm : t ∈ [23, 9] := by simpa using Array.mem_of_getElem? ht
        have hall : ([23, 9].all fun u => !Tryz.prog.wantsStandIn u) = true := by kernel_rfl
        exact (show Tryz.prog.wantsStandIn t = false by simpa using List.all_eq_true.1 hall t hm)⟩)
    (by kernel_rfl)
#print axioms card
end Go.Proofs.YtlhfclpbodfmcaaGreatDoor.vesselTexts
namespace Go.Proofs.YtlhfclpbodfmcaaGreatDoor
/-- The card, under a short name, for the claim. -/
theorem vesselTexts_holds : Rows.VesselTextsCardSaid := vesselTexts.card
end Go.Proofs.YtlhfclpbodfmcaaGreatDoor
