/-
  Of any day, in any place: both dates are of that day; its events are those of its year on that day, and no others. CONDITIONS: none of mine; the row's listed variables are tied to the program's text by the given ties.
-/
import Derived.Test.YtnikgcedifdaeaaGreatDoorRows
import Derived.Test.YtnikgcedifdaeaaGreatDoorCards
import Derived.Test.YtnikgcedifdaeaaGreatDoorTie
import Derived.Test.YtnikgcedifdaeaaGreatDoorJX7
import Derived.Test.YtnikgcedifdaeaaGreatDoorJXoBoth
import Derived.ProofKit
import Derived.LaidMore
import Derived.OpenShut
import Derived.Stop.Joined
import Derived.SevenTiedAt
import Derived.ChangeOld
import Derived.ChangeSame
import Derived.Below
import Derived.Lib.SmallJoins
import Derived.IntWalk
namespace Go.Proofs.YtnikgcedifdaeaaGreatDoor.dayBoth
open Go.ChangeShapes Go.WideShapes Go.ChangeAt Go.WideMaps Go.WideElems Go.Joins Go.RowKit Go.Proofs.YtnikgcedifdaeaaGreatDoor.Lift Go.Proofs.YtnikgcedifdaeaaGreatDoor.Sab Go.Conc
set_option linter.unusedVariables false
theorem own : ownKnob Tryz.prog.godebug = none := by kernel_rfl
theorem base_of2 {r : List (String × DataW Unit)} {W : World} (h : laidMet Tryz.prog (("almanacker/keviah.types", Rows.laid_almanacker_keviah_types) :: ("almanacker/month.plain", Rows.laid_almanacker_month_plain) :: r) W) (hs : W.ShapedOpen Tryz.prog) : Ab.GL' L_base W := by
  have g := globT_of_laid h
  refine Ab.gl_of hs (by kernel_rfl) fun x hx => ?_
  simp only [L_base, List.mem_cons, List.not_mem_nil, or_false] at hx
  rcases hx with rfl | rfl
  · exact g.types
  · exact g.plain
/-- The door's own heap meets the condition: closed facts. -/
theorem door_met (os : Os) (args : Array Value) : laidMetH Tryz.prog Rows.dayBothRow.laid ((World.doorLaid Tryz.prog 91 os).forCall (fun _ _ => 0) ⟨#[], args, []⟩).memory :=
  laidMetH_of_parts3 (fuel := 8) (laidMet_of_run' 8 (by kernel_rfl) (by kernel_rfl)) (by kernel_rfl) (by kernel_rfl)
set_option maxRecDepth 100000 in
theorem lifted (os : Os) (started : os.Started) (H : Type) (enc : TypeId × Value → H) :
    ReturnsInLeavingWide {} Tryz.checked os 5 .any (fun w args => (Rows.dayBothSpec.pre enc Tryz.prog Tryz.f5 [] false w args ∧ laidMetH Tryz.prog Rows.dayBothRow.laid w) ∧ sizedMet enc Tryz.prog Tryz.f5 (OpenSpec.ofChange Rows.dayBothSpec) false w args)
      (Rows.dayBothSpec.post enc Tryz.prog Tryz.f5 false true false false) := by
  refine returns_leaving (C := Tryz.checked) (X := fun w _ => laidMetH Tryz.prog Rows.dayBothRow.laid w) (fun _ _ _ hh h => h.of_heap hh) own started Tryz.func5
    (ChangeSpec.witness_shaped (enc := enc) (C := Tryz.checked) (os := os) (X := fun w _ => laidMetH Tryz.prog Rows.dayBothRow.laid w) false (World.doorLaid Tryz.prog 91 os) #[.int .i64 0, .int .u8 0] 8 rfl (World.shaped_of_RefB (by kernel_rfl) (by kernel_rfl)) (by kernel_rfl) (by kernel_rfl) (by kernel_rfl) (door_met os _)) ?_
  intro W base args ds gs before hval0 hW hL hsh
  have hval : ∀ (j : Nat) t v, Tryz.f5.params[j]? = some t → args[j]? = some v → Value.okWide Tryz.prog W .any base t v := hval0
  have hW' := hW
  obtain ⟨p, q, hA0, hV, rfl, hfz, hnd⟩ := hW
  have hA : DataW.TrodAll enc Tryz.prog W 0 (fun _ => true) true Tryz.f5.params.toList args.toList ds p := hA0
  rw [Tryz.params5] at hA hval
  obtain ⟨v0, vs0, d0, ds0, p0, q0, hargs, rfl, rfl, h0, r0⟩ := trodAll_cons hA
  obtain ⟨v1, vs1, d1, ds1, p1, q1, rfl, rfl, rfl, h1, r1⟩ := trodAll_cons r0
  obtain ⟨rfl, rfl, rfl⟩ := trodAll_nil r1
  obtain rfl : args = #[v0, v1] := by cases args; simp_all
  obtain ⟨rfl, rfl⟩ := trodVars_none hV
  obtain ⟨a0, rfl, rfl, rfl, w0⟩ := open_int Tryz.underlying3 (hval 0 3 v0 rfl rfl) h0
  obtain ⟨a1, rfl, rfl, rfl, w1⟩ := open_int Tryz.underlying5 (hval 1 5 v1 rfl rfl) h1
  clear hA0 hval0
  have hG : Ab.GL' L_base W := by
    rw [MakeChecks.laidMetH_plain _ _ _ (by kernel_rfl)] at hL
    exact base_of2 hL hsh
  have b0 := bounds_i64 w0
  have b1 := bounds_u8 w1
  obtain ⟨M, last, o, w', t', e1, e2, e3, e4⟩ := good_of rfl Tryz.func5 (by kernel_rfl) (by kernel_rfl) (fun τ => Ab.gl_hollowed hG τ 0) hsh (dayBoth_law a0 a1 b0.1 b0.2 b1.1 b1.2)
  refine ⟨M, last, o, w', t', e1, e2, e3, e4.mono fun v hv => ?_⟩
  obtain ⟨rfl, hh, ho, hu⟩ := hv
  have fr : ∀ may, W.keptBut w' may := fun may => ⟨ho, hu, fun i hi => by
    rw [hh i hi]
    split <;> simp_all⟩
  exact ⟨_, _, _, [], _, [], hW', trodAll_mk1 (shut_bool Tryz.underlying4 _), (trodAll_cons_mk (shut_int Tryz.underlying3 w0) (trodAll_cons_mk (shut_int Tryz.underlying5 w1) trodAll_mk0)), rfl, fr _, fun h => by cases h⟩
theorem row_holds : Rows.DayBothSaid :=
  OpenClaim.holds_of_wide_leaving 5 Tryz.f5 rfl rfl rfl rfl rfl rfl rfl ⟨rfl, rfl, rfl, rfl, rfl⟩ rfl rfl rfl rfl rfl (by kernel_rfl) Tryz.func5 (by kernel_rfl)
    (of_decide_eq_true (by kernel_rfl)) (by unfold Func.isWrapper; first | (rw [if_pos (by decide +kernel)]; kernel_rfl) | (rw [if_neg (by decide +kernel)]; exact ⟨rfl, rfl⟩))
    (fun os started H enc _ => lifted os started H enc)
end Go.Proofs.YtnikgcedifdaeaaGreatDoor.dayBoth
namespace Go.Proofs.YtnikgcedifdaeaaGreatDoor
theorem dayBoth_card : Rows.DayBothCardSaid :=
  Sab.holds_tied_goes_at .later [.widerDeep, .data] true (true, "d4877ee0f819a52aebd82e89ec50a65e4b51e4db1f0c43b994e8b07ec124a3a3") false
    dayBoth.row_holds (by kernel_rfl) dayBoth_row_tie rfl ⟨rfl, rfl⟩ (by kernel_rfl) rfl
    (fun f fn hf hfn => by
      obtain rfl : f = 5 := Option.some.inj ((show Tryz.prog.funcNamed "almanacker/almanackerlaw25.DayBoth" = some 5 by kernel_rfl).symm.trans hf) |>.symm
      obtain rfl : fn = Tryz.f5 := (Option.some.inj (Tryz.func5.symm.trans hfn)).symm
      exact ⟨by kernel_rfl, fun j t ht => by
        rw [Tryz.params5] at ht
        have hm : t ∈ [3, 5] := by simpa using Array.mem_of_getElem? ht
        have hall : ([3, 5].all fun u => !Tryz.prog.wantsStandIn u) = true := by kernel_rfl
        exact (show Tryz.prog.wantsStandIn t = false by simpa using List.all_eq_true.1 hall t hm)⟩)
    (by kernel_rfl)
#print axioms dayBoth_card
end Go.Proofs.YtnikgcedifdaeaaGreatDoor
