/-
  Whatever the year and the place: 'almanackerlaw24.TorahOnce' returns true and leaves its arguments as they read. CONDITIONS: none of mine; the row's listed variables are tied to the program's text by the given ties.
-/
import Derived.Test.YtnikgcedifdaeaaGreatDoorRows
import Derived.Test.YtnikgcedifdaeaaGreatDoorCards
import Derived.Test.YtnikgcedifdaeaaGreatDoorTie
import Derived.Test.YtnikgcedifdaeaaGreatDoorJR7
import Derived.Test.YtnikgcedifdaeaaGreatDoorJRoOnce
import Derived.ProofKit
import Derived.LaidMore
import Derived.OpenShut
import Derived.Stop.Joined
import Derived.SevenTiedAt
import Derived.ChangeOld
import Derived.ChangeSame
import Derived.Below
import Derived.Lib.SmallJoins
import Derived.IntWalk
namespace Go.Proofs.YtnikgcedifdaeaaGreatDoor.torahOnce
open Go.ChangeShapes Go.WideShapes Go.ChangeAt Go.WideMaps Go.WideElems Go.Joins Go.RowKit Go.Proofs.YtnikgcedifdaeaaGreatDoor.Lift Go.Proofs.YtnikgcedifdaeaaGreatDoor.Sab Go.Conc
set_option linter.unusedVariables false
theorem own : ownKnob Tryz.prog.godebug = none := by kernel_rfl
/-- The door's own heap meets the condition: closed facts. -/
theorem door_met (os : Os) (args : Array Value) : laidMetH Tryz.prog Rows.torahOnceRow.laid ((World.doorLaid Tryz.prog 91 os).forCall (fun _ _ => 0) ⟨#[], args, []⟩).memory :=
  laidMetH_of_parts3 (fuel := 8) (laidMet_of_run' 8 (by kernel_rfl) (by kernel_rfl)) (by kernel_rfl) (by kernel_rfl)
set_option maxRecDepth 100000 in
theorem lifted (os : Os) (started : os.Started) (H : Type) (enc : TypeId × Value → H) :
    ReturnsInLeavingWide {} Tryz.checked os 4 .any (fun w args => (Rows.torahOnceSpec.pre enc Tryz.prog Tryz.f4 [] false w args ∧ laidMetH Tryz.prog Rows.torahOnceRow.laid w) ∧ sizedMet enc Tryz.prog Tryz.f4 (OpenSpec.ofChange Rows.torahOnceSpec) false w args)
      (Rows.torahOnceSpec.post enc Tryz.prog Tryz.f4 false true false false) := by
  refine returns_leaving (C := Tryz.checked) (X := fun w _ => laidMetH Tryz.prog Rows.torahOnceRow.laid w) (fun _ _ _ hh h => h.of_heap hh) own started Tryz.func4
    (ChangeSpec.witness_shaped (enc := enc) (C := Tryz.checked) (os := os) (X := fun w _ => laidMetH Tryz.prog Rows.torahOnceRow.laid w) false (World.doorLaid Tryz.prog 91 os) #[.int .u16 0, .int .u8 0] 8 rfl (World.shaped_of_RefB (by kernel_rfl) (by kernel_rfl)) (by kernel_rfl) (by kernel_rfl) (by kernel_rfl) (door_met os _)) ?_
  intro W base args ds gs before hval0 hW hL hsh
  have hval : ∀ (j : Nat) t v, Tryz.f4.params[j]? = some t → args[j]? = some v → Value.okWide Tryz.prog W .any base t v := hval0
  have hW' := hW
  obtain ⟨p, q, hA0, hV, rfl, hfz, hnd⟩ := hW
  have hA : DataW.TrodAll enc Tryz.prog W 0 (fun _ => true) true Tryz.f4.params.toList args.toList ds p := hA0
  rw [Tryz.params4] at hA hval
  obtain ⟨v0, vs0, d0, ds0, p0, q0, hargs, rfl, rfl, h0, r0⟩ := trodAll_cons hA
  obtain ⟨v1, vs1, d1, ds1, p1, q1, rfl, rfl, rfl, h1, r1⟩ := trodAll_cons r0
  obtain ⟨rfl, rfl, rfl⟩ := trodAll_nil r1
  obtain rfl : args = #[v0, v1] := by cases args; simp_all
  obtain ⟨rfl, rfl⟩ := trodVars_none hV
  obtain ⟨a0, rfl, rfl, rfl, w0⟩ := open_int Tryz.underlying37 (hval 0 37 v0 rfl rfl) h0
  obtain ⟨a1, rfl, rfl, rfl, w1⟩ := open_int Tryz.underlying5 (hval 1 5 v1 rfl rfl) h1
  clear hA0 hval0
  have hG : Ab.GL' L_baseN W := by
    rw [MakeChecks.laidMetH_plain _ _ _ (by kernel_rfl)] at hL
    exact baseN_of hL hsh
  have b0 := bounds_u16 w0
  have b1 := bounds_u8 w1
  obtain ⟨M, last, o, w', t', e1, e2, e3, e4⟩ := good_of rfl Tryz.func4 (by kernel_rfl) (by kernel_rfl) (fun τ => Ab.gl_hollowed hG τ 0) hsh (once_law a0 a1 b0.1 b0.2 b1.1 b1.2)
  refine ⟨M, last, o, w', t', e1, e2, e3, e4.mono fun v hv => ?_⟩
  obtain ⟨rfl, hh, ho, hu⟩ := hv
  have fr : ∀ may, W.keptBut w' may := fun may => ⟨ho, hu, fun i hi => by
    rw [hh i hi]
    split <;> simp_all⟩
  exact ⟨_, _, _, [], _, [], hW', trodAll_mk1 (shut_bool Tryz.underlying4 _), (trodAll_cons_mk (shut_int Tryz.underlying37 w0) (trodAll_cons_mk (shut_int Tryz.underlying5 w1) trodAll_mk0)), rfl, fr _, fun h => by cases h⟩
theorem row_holds : Rows.TorahOnceSaid :=
  OpenClaim.holds_of_wide_leaving 4 Tryz.f4 rfl rfl rfl rfl rfl rfl rfl ⟨rfl, rfl, rfl, rfl, rfl⟩ rfl rfl rfl rfl rfl (by kernel_rfl) Tryz.func4 (by kernel_rfl)
    (of_decide_eq_true (by kernel_rfl)) (by unfold Func.isWrapper; first | (rw [if_pos (by decide +kernel)]; kernel_rfl) | (rw [if_neg (by decide +kernel)]; exact ⟨rfl, rfl⟩))
    (fun os started H enc _ => lifted os started H enc)
end Go.Proofs.YtnikgcedifdaeaaGreatDoor.torahOnce
namespace Go.Proofs.YtnikgcedifdaeaaGreatDoor
theorem torahOnce_card : Rows.TorahOnceCardSaid :=
  Sab.holds_tied_goes_at .later [.widerDeep, .data, .data] true (true, "d4877ee0f819a52aebd82e89ec50a65e4b51e4db1f0c43b994e8b07ec124a3a3") false
    torahOnce.row_holds (by kernel_rfl) torahOnce_row_tie rfl ⟨rfl, rfl⟩ (by kernel_rfl) rfl
    (fun f fn hf hfn => by
      obtain rfl : f = 4 := Option.some.inj ((show Tryz.prog.funcNamed "almanacker/almanackerlaw24.TorahOnce" = some 4 by kernel_rfl).symm.trans hf) |>.symm
      obtain rfl : fn = Tryz.f4 := (Option.some.inj (Tryz.func4.symm.trans hfn)).symm
      exact ⟨by kernel_rfl, fun j t ht => by
        rw [Tryz.params4] at ht
        have hm : t ∈ [37, 5] := by simpa using Array.mem_of_getElem? ht
        have hall : ([37, 5].all fun u => !Tryz.prog.wantsStandIn u) = true := by kernel_rfl
        exact (show Tryz.prog.wantsStandIn t = false by simpa using List.all_eq_true.1 hall t hm)⟩)
    (by kernel_rfl)
#print axioms torahOnce_card
end Go.Proofs.YtnikgcedifdaeaaGreatDoor
