/-
  The readings of any cycle, in any place, that of any day, any portion's name, and whether it is the first of two, are the document's. CONDITIONS: none of mine; the row's listed variables are tied to the program's text by the given ties.
-/
import Derived.Test.YtnikgcedifdaeaaGreatDoorRows
import Derived.Test.YtnikgcedifdaeaaGreatDoorCards
import Derived.Test.YtnikgcedifdaeaaGreatDoorTie
import Derived.Test.YtnikgcedifdaeaaGreatDoorJX7
import Derived.Test.YtnikgcedifdaeaaGreatDoorJXoTells
import Derived.ProofKit
import Derived.LaidMore
import Derived.OpenShut
import Derived.Stop.Joined
import Derived.SevenTiedAt
import Derived.ChangeOld
import Derived.ChangeSame
import Derived.Below
import Derived.Lib.SmallJoins
import Derived.IntWalk
namespace Go.Proofs.YtnikgcedifdaeaaGreatDoor.torahTells
open Go.ChangeShapes Go.WideShapes Go.ChangeAt Go.WideMaps Go.WideElems Go.Joins Go.RowKit Go.Proofs.YtnikgcedifdaeaaGreatDoor.Lift Go.Proofs.YtnikgcedifdaeaaGreatDoor.Sab Go.Conc
set_option linter.unusedVariables false
theorem own : ownKnob Tryz.prog.godebug = none := by kernel_rfl
theorem c4 : Tryz.prog.cellsOf 23 = 4 := by kernel_rfl
theorem c1i : Tryz.prog.cellsOf 3 = 1 := by kernel_rfl
set_option maxRecDepth 100000 in
theorem open_ask {H : Type} {enc : TypeId × Value → H} {w : World} {base : Nat} {spare : Nat → Bool} {held : Bool} {r : Reach} {b0 : Nat} {v : Value} {d : DataW H} {p : List MemPlace}
    (hv : Value.okWide Tryz.prog w r b0 23 v) (h : DataW.Trod enc Tryz.prog w base spare held 23 v d p) :
    ∃ n0 n1 n2 n3, v = .agg #[.int .i64 n0, .int .i64 n1, .int .i64 n2, .int .i64 n3] ∧ d = .agg [.lit (.int .i64 n0), .lit (.int .i64 n1), .lit (.int .i64 n2), .lit (.int .i64 n3)] ∧ p = [] ∧ (Lit.int .i64 n0).wf = true ∧ (Lit.int .i64 n1).wf = true ∧ (Lit.int .i64 n2).wf = true ∧ (Lit.int .i64 n3).wf = true := by
  obtain ⟨cs, rfl, hsz⟩ := okWide_struct Tryz.underlying23 hv
  have h4 := hsz.trans c4
  clear hsz
  obtain ⟨a, b, c, e, rfl⟩ : ∃ a b c e, cs = #[a, b, c, e] := by
    obtain ⟨l⟩ := cs
    match l, h4 with
    | [a, b, c, e], _ => exact ⟨a, b, c, e, rfl⟩
  obtain ⟨fuel, hf⟩ := h
  have hf' : DataW.trod enc Tryz.prog w base spare held fuel 23 [a, b, c, e] = some (d, p) := by simpa [Value.cells] using hf
  obtain ⟨y0, y1, y2, y3, m, hx, _, h0, h1, h2, h3⟩ := trod_struct4 Tryz.underlying23 hf'
  obtain ⟨n0, e0, rfl, w0⟩ := DataW.trod_int Tryz.underlying3 h0
  obtain ⟨n1, e1, rfl, w1⟩ := DataW.trod_int Tryz.underlying3 h1
  obtain ⟨n2, e2, rfl, w2⟩ := DataW.trod_int Tryz.underlying3 h2
  obtain ⟨n3, e3, rfl, w3⟩ := DataW.trod_int Tryz.underlying3 h3
  simp [c1i] at e0 e1 e2 e3
  subst e0 e1 e2 e3
  simp only [Prod.mk.injEq] at hx
  exact ⟨n0, n1, n2, n3, rfl, hx.1, by simpa using hx.2, w0, w1, w2, w3⟩
set_option maxRecDepth 100000 in
theorem shut_ask {H : Type} (enc : TypeId × Value → H) (w : World) (base : Nat) (spare : Nat → Bool) (held : Bool) (n0 n1 n2 n3 : Int) (w0 : (Lit.int .i64 n0).wf = true) (w1 : (Lit.int .i64 n1).wf = true) (w2 : (Lit.int .i64 n2).wf = true) (w3 : (Lit.int .i64 n3).wf = true) :
    DataW.Trod enc Tryz.prog w base spare held 23 (.agg #[.int .i64 n0, .int .i64 n1, .int .i64 n2, .int .i64 n3]) (.agg [.lit (.int .i64 n0), .lit (.int .i64 n1), .lit (.int .i64 n2), .lit (.int .i64 n3)]) [] := by
  have := trod_struct4_mk (enc := enc) (w := w) (base := base) (spare := spare) (held := held) (n := 1) (cs := [.int .i64 n0, .int .i64 n1, .int .i64 n2, .int .i64 n3]) (y0 := (.lit (.int .i64 n0), [])) (y1 := (.lit (.int .i64 n1), [])) (y2 := (.lit (.int .i64 n2), [])) (y3 := (.lit (.int .i64 n3), [])) Tryz.underlying23 (by simp [c4])
    (by simp [c1i, DataW.trod, Tryz.underlying3, w0]) (by simp [c1i, DataW.trod, Tryz.underlying3, w1]) (by simp [c1i, DataW.trod, Tryz.underlying3, w2]) (by simp [c1i, DataW.trod, Tryz.underlying3, w3])
  exact ⟨2, by simpa [Value.cells] using this⟩
/-- The door's own heap meets the condition: closed facts. -/
theorem door_met (os : Os) (args : Array Value) : laidMetH Tryz.prog Rows.torahTellsRow.laid ((World.doorLaid Tryz.prog 91 os).forCall (fun _ _ => 0) ⟨#[], args, []⟩).memory :=
  laidMetH_of_parts3 (fuel := 8) (laidMet_of_run' 8 (by kernel_rfl) (by kernel_rfl)) (by kernel_rfl) (by kernel_rfl)
set_option maxRecDepth 100000 in
theorem lifted (os : Os) (started : os.Started) (H : Type) (enc : TypeId × Value → H) :
    ReturnsInLeavingWide {} Tryz.checked os 3 .any (fun w args => (Rows.torahTellsSpec.pre enc Tryz.prog Tryz.f3 [] false w args ∧ laidMetH Tryz.prog Rows.torahTellsRow.laid w) ∧ sizedMet enc Tryz.prog Tryz.f3 (OpenSpec.ofChange Rows.torahTellsSpec) false w args)
      (Rows.torahTellsSpec.post enc Tryz.prog Tryz.f3 false true false false) := by
  refine returns_leaving (C := Tryz.checked) (X := fun w _ => laidMetH Tryz.prog Rows.torahTellsRow.laid w) (fun _ _ _ hh h => h.of_heap hh) own started Tryz.func3
    (ChangeSpec.witness_shaped (enc := enc) (C := Tryz.checked) (os := os) (X := fun w _ => laidMetH Tryz.prog Rows.torahTellsRow.laid w) false (World.doorLaid Tryz.prog 91 os) #[.agg #[.int .i64 0, .int .i64 0, .int .i64 0, .int .i64 0]] 8 rfl (World.shaped_of_RefB (by kernel_rfl) (by kernel_rfl)) (by kernel_rfl) (by kernel_rfl) (by kernel_rfl) (door_met os _)) ?_
  intro W base args ds gs before hval0 hW hL hsh
  have hval : ∀ (j : Nat) t v, Tryz.f3.params[j]? = some t → args[j]? = some v → Value.okWide Tryz.prog W .any base t v := hval0
  have hW' := hW
  obtain ⟨p, q, hA0, hV, rfl, hfz, hnd⟩ := hW
  have hA : DataW.TrodAll enc Tryz.prog W 0 (fun _ => true) true Tryz.f3.params.toList args.toList ds p := hA0
  rw [Tryz.params3] at hA hval
  obtain ⟨v0, vs0, d0, ds0, p0, q0, hargs, rfl, rfl, h0, r0⟩ := trodAll_cons hA
  obtain ⟨rfl, rfl, rfl⟩ := trodAll_nil r0
  obtain rfl : args = #[v0] := by cases args; simp_all
  obtain ⟨rfl, rfl⟩ := trodVars_none hV
  obtain ⟨a0, a1, a2, a3, rfl, rfl, rfl, w0, w1, w2, w3⟩ := open_ask (hval 0 23 v0 rfl rfl) h0
  clear hA0 hval0
  have hG : Ab.GL' L_baseN W := by
    rw [MakeChecks.laidMetH_plain _ _ _ (by kernel_rfl)] at hL
    exact baseN_of hL hsh
  have b0 := bounds_i64 w0
  have b1 := bounds_i64 w1
  have b2 := bounds_i64 w2
  have b3 := bounds_i64 w3
  obtain ⟨M, last, o, w', t', e1, e2, e3, e4⟩ := good_of rfl Tryz.func3 (by kernel_rfl) (by kernel_rfl) (fun τ => Ab.gl_hollowed hG τ 0) hsh (tells_law a0 a1 a2 a3 b0.1 b0.2 b1.1 b1.2 b2.1 b2.2 b3.1 b3.2)
  refine ⟨M, last, o, w', t', e1, e2, e3, e4.mono fun v hv => ?_⟩
  obtain ⟨rfl, hh, ho, hu⟩ := hv
  have fr : ∀ may, W.keptBut w' may := fun may => ⟨ho, hu, fun i hi => by
    rw [hh i hi]
    split <;> simp_all⟩
  exact ⟨_, _, _, [], _, [], hW', trodAll_mk1 (shut_bool Tryz.underlying4 _), (trodAll_cons_mk (shut_ask enc _ _ _ _ a0 a1 a2 a3 w0 w1 w2 w3) trodAll_mk0), rfl, fr _, fun h => by cases h⟩
theorem row_holds : Rows.TorahTellsSaid :=
  OpenClaim.holds_of_wide_leaving 3 Tryz.f3 rfl rfl rfl rfl rfl rfl rfl ⟨rfl, rfl, rfl, rfl, rfl⟩ rfl rfl rfl rfl rfl (by kernel_rfl) Tryz.func3 (by kernel_rfl)
    (of_decide_eq_true (by kernel_rfl)) (by unfold Func.isWrapper; first | (rw [if_pos (by decide +kernel)]; kernel_rfl) | (rw [if_neg (by decide +kernel)]; exact ⟨rfl, rfl⟩))
    (fun os started H enc _ => lifted os started H enc)
end Go.Proofs.YtnikgcedifdaeaaGreatDoor.torahTells
namespace Go.Proofs.YtnikgcedifdaeaaGreatDoor
theorem torahTells_card : Rows.TorahTellsCardSaid :=
  Sab.holds_tied_goes_at .later [.widerDeep, .data, .data] true (true, "d4877ee0f819a52aebd82e89ec50a65e4b51e4db1f0c43b994e8b07ec124a3a3") false
    torahTells.row_holds (by kernel_rfl) torahTells_row_tie rfl ⟨rfl, rfl⟩ (by kernel_rfl) rfl
    (fun f fn hf hfn => by
      obtain rfl : f = 3 := Option.some.inj ((show Tryz.prog.funcNamed "almanacker/almanackerlaw24.TorahTells" = some 3 by kernel_rfl).symm.trans hf) |>.symm
      obtain rfl : fn = Tryz.f3 := (Option.some.inj (Tryz.func3.symm.trans hfn)).symm
      exact ⟨by kernel_rfl, fun j t ht => by
        rw [Tryz.params3] at ht
        have hm : t ∈ [23] := by simpa using Array.mem_of_getElem? ht
        have hall : ([23].all fun u => !Tryz.prog.wantsStandIn u) = true := by kernel_rfl
        exact (show Tryz.prog.wantsStandIn t = false by simpa using List.all_eq_true.1 hall t hm)⟩)
    (by kernel_rfl)
#print axioms torahTells_card
end Go.Proofs.YtnikgcedifdaeaaGreatDoor
