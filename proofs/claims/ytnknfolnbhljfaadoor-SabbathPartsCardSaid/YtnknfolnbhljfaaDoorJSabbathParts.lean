/-
  Whatever the year, the day, and how many days more: 'almanackerlaw23.SabbathParts' returns true and leaves its arguments as they read. CONDITIONS: none of mine; the row's listed variables are tied to the program's text by the given ties.
-/
import Derived.Test.YtnknfolnbhljfaaDoorRows
import Derived.Test.YtnknfolnbhljfaaDoorCards
import Derived.Test.YtnknfolnbhljfaaDoorTie
import Derived.Test.YtnknfolnbhljfaaDoorJSabbathParts5
import Derived.ProofKit
import Derived.LaidMore
import Derived.OpenShut
import Derived.Stop.Joined
import Derived.SevenTiedAt
import Derived.ChangeOld
import Derived.ChangeSame
import Derived.Below
import Derived.Lib.SmallJoins
import Derived.IntWalk
namespace Go.Proofs.YtnknfolnbhljfaaDoor.sabbathParts
open Go.ChangeShapes Go.WideShapes Go.ChangeAt Go.WideMaps Go.WideElems Go.Joins Go.RowKit Go.Proofs.YtnknfolnbhljfaaDoor.Lift Go.Proofs.YtnknfolnbhljfaaDoor.Sab Go.Conc
set_option linter.unusedVariables false
theorem own : ownKnob Tryd.prog.godebug = none := by kernel_rfl
/-- The door's own heap meets the condition: closed facts. -/
theorem door_met (os : Os) (args : Array Value) : laidMetH Tryd.prog Rows.sabbathPartsRow.laid ((World.doorLaid Tryd.prog 91 os).forCall (fun _ _ => 0) ⟨#[], args, []⟩).memory :=
  laidMetH_of_parts3 (fuel := 8) (laidMet_of_run' 8 (by kernel_rfl) (by kernel_rfl)) (by kernel_rfl) (by kernel_rfl)
set_option maxRecDepth 100000 in
theorem lifted (os : Os) (started : os.Started) (H : Type) (enc : TypeId × Value → H) :
    ReturnsInLeavingWide {} Tryd.checked os 3 .any (fun w args => (Rows.sabbathPartsSpec.pre enc Tryd.prog Tryd.f3 [] false w args ∧ laidMetH Tryd.prog Rows.sabbathPartsRow.laid w) ∧ sizedMet enc Tryd.prog Tryd.f3 (OpenSpec.ofChange Rows.sabbathPartsSpec) false w args)
      (Rows.sabbathPartsSpec.post enc Tryd.prog Tryd.f3 false true false false) := by
  refine returns_leaving (C := Tryd.checked) (X := fun w _ => laidMetH Tryd.prog Rows.sabbathPartsRow.laid w) (fun _ _ _ hh h => h.of_heap hh) own started Tryd.func3
    (ChangeSpec.witness_shaped (enc := enc) (C := Tryd.checked) (os := os) (X := fun w _ => laidMetH Tryd.prog Rows.sabbathPartsRow.laid w) false (World.doorLaid Tryd.prog 91 os) #[.int .u16 0, .int .i32 0, .int .u16 0] 8 rfl (World.shaped_of_RefB (by kernel_rfl) (by kernel_rfl)) (by kernel_rfl) (by kernel_rfl) (by kernel_rfl) (door_met os _)) ?_
  intro W base args ds gs before hval0 hW hL hsh
  have hval : ∀ (j : Nat) t v, Tryd.f3.params[j]? = some t → args[j]? = some v → Value.okWide Tryd.prog W .any base t v := hval0
  have hW' := hW
  obtain ⟨p, q, hA0, hV, rfl, hfz, hnd⟩ := hW
  have hA : DataW.TrodAll enc Tryd.prog W 0 (fun _ => true) true Tryd.f3.params.toList args.toList ds p := hA0
  rw [Tryd.params3] at hA hval
  obtain ⟨v0, vs0, d0, ds0, p0, q0, hargs, rfl, rfl, h0, r0⟩ := trodAll_cons hA
  obtain ⟨v1, vs1, d1, ds1, p1, q1, rfl, rfl, rfl, h1, r1⟩ := trodAll_cons r0
  obtain ⟨v2, vs2, d2, ds2, p2, q2, rfl, rfl, rfl, h2, r2⟩ := trodAll_cons r1
  obtain ⟨rfl, rfl, rfl⟩ := trodAll_nil r2
  obtain rfl : args = #[v0, v1, v2] := by cases args; simp_all
  obtain ⟨rfl, rfl⟩ := trodVars_none hV
  obtain ⟨a0, rfl, rfl, rfl, w0⟩ := open_int Tryd.underlying22 (hval 0 22 v0 rfl rfl) h0
  obtain ⟨a1, rfl, rfl, rfl, w1⟩ := open_int Tryd.underlying21 (hval 1 21 v1 rfl rfl) h1
  obtain ⟨a2, rfl, rfl, rfl, w2⟩ := open_int Tryd.underlying22 (hval 2 22 v2 rfl rfl) h2
  clear hA0 hval0
  have hG : GW W := by
    rw [MakeChecks.laidMetH_plain _ _ _ (by kernel_rfl)] at hL
    exact gw_of (globT_of_laid hL) hsh
  have b0 := bounds_u16 w0
  have b1 := bounds_i32 w1
  have b2 := bounds_u16 w2
  obtain ⟨M, last, o, w', t', e1, e2, e3, e4⟩ := good_of Tryd.func3 (by kernel_rfl) (by kernel_rfl) hG (by kernel_rfl) (law_vc a0 a1 a2 b0.1 b0.2 b1.1 b1.2 b2.1 b2.2)
  refine ⟨M, last, o, w', t', e1, e2, e3, e4.mono fun v hv => ?_⟩
  obtain ⟨rfl, hh, ho, hu⟩ := hv
  have fr : ∀ may, W.keptBut w' may := fun may => ⟨ho, hu, fun i hi => by
    rw [hh i hi]
    split <;> simp_all⟩
  exact ⟨_, _, _, [], _, [], hW', trodAll_mk1 (shut_bool Tryd.underlying4 _), (trodAll_cons_mk (shut_int Tryd.underlying22 w0) (trodAll_cons_mk (shut_int Tryd.underlying21 w1) (trodAll_cons_mk (shut_int Tryd.underlying22 w2) trodAll_mk0))), rfl, fr _, fun h => by cases h⟩
theorem row_holds : Rows.SabbathPartsSaid :=
  OpenClaim.holds_of_wide_leaving 3 Tryd.f3 rfl rfl rfl rfl rfl rfl rfl ⟨rfl, rfl, rfl, rfl, rfl⟩ rfl rfl rfl rfl rfl (by kernel_rfl) Tryd.func3 (by kernel_rfl)
    (of_decide_eq_true (by kernel_rfl)) (by unfold Func.isWrapper; first | (rw [if_pos (by decide +kernel)]; kernel_rfl) | (rw [if_neg (by decide +kernel)]; exact ⟨rfl, rfl⟩))
    (fun os started H enc _ => lifted os started H enc)
end Go.Proofs.YtnknfolnbhljfaaDoor.sabbathParts
namespace Go.Proofs.YtnknfolnbhljfaaDoor
theorem sabbathParts_card : Rows.SabbathPartsCardSaid :=
  Sab.holds_tied_goes_at .later [.widerDeep, .data] true (true, "62942504bc7d554c4455175ef49fa9b3101bb765404942ef16d19541d0b8473b") false
    sabbathParts.row_holds (by kernel_rfl) sabbathParts_row_tie rfl ⟨rfl, rfl⟩ (by kernel_rfl) rfl
    (fun f fn hf hfn => by
      obtain rfl : f = 3 := Option.some.inj ((show Tryd.prog.funcNamed "almanacker/almanackerlaw23.SabbathParts" = some 3 by kernel_rfl).symm.trans hf) |>.symm
      obtain rfl : fn = Tryd.f3 := (Option.some.inj (Tryd.func3.symm.trans hfn)).symm
      exact ⟨by kernel_rfl, fun j t ht => by
        rw [Tryd.params3] at ht
        have hm : t ∈ [22, 21, 22] := by simpa using Array.mem_of_getElem? ht
        have hall : ([22, 21, 22].all fun u => !Tryd.prog.wantsStandIn u) = true := by kernel_rfl
        exact (show Tryd.prog.wantsStandIn t = false by simpa using List.all_eq_true.1 hall t hm)⟩)
    (by kernel_rfl)
#print axioms sabbathParts_card
end Go.Proofs.YtnknfolnbhljfaaDoor
