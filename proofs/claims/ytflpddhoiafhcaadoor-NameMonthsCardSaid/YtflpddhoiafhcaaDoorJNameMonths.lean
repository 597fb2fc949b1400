/-
  Whatever the year and the two codes: 'almanackerlaw14.NameMonths' returns true and leaves its arguments as they read. CONDITIONS: none of mine; the row's listed variables are tied to the program's text by the given ties.
-/
import Derived.Test.YtflpddhoiafhcaaDoorRows
import Derived.Test.YtflpddhoiafhcaaDoorCards
import Derived.Test.YtflpddhoiafhcaaDoorTie
import Derived.Test.YtflpddhoiafhcaaDoorJNameMonths2
import Derived.Test.YtflpddhoiafhcaaDoorJNameMonths4
import Derived.ProofKit
import Derived.LaidMore
import Derived.OpenShut
import Derived.Stop.Joined
import Derived.SevenTiedAt
import Derived.ChangeOld
import Derived.ChangeSame
import Derived.Below
import Derived.Lib.SmallJoins
namespace Go.Proofs.YtflpddhoiafhcaaDoor.nameMonths
open Go.ChangeShapes Go.WideShapes Go.ChangeAt Go.WideMaps Go.WideElems Go.RowKit Go.Joins
set_option linter.unusedVariables false
theorem own : ownKnob Tryd.prog.godebug = none := by kernel_rfl
/-- The door's own heap meets the condition: closed facts. -/
theorem door_met (os : Os) (args : Array Value) : laidMetH Tryd.prog Rows.nameMonthsRow.laid ((World.doorLaid Tryd.prog 91 os).forCall (fun _ _ => 0) ⟨#[], args, []⟩).memory :=
  laidMetH_of_parts3 (fuel := 8) (laidMet_of_run' 8 (by kernel_rfl) (by kernel_rfl)) (by kernel_rfl) (by kernel_rfl)
theorem c2 : Tryd.prog.cellsOf 23 = 2 := by kernel_rfl
theorem c1i : Tryd.prog.cellsOf 3 = 1 := by kernel_rfl
theorem c1b : Tryd.prog.cellsOf 4 = 1 := by kernel_rfl
set_option maxRecDepth 100000 in
theorem open_code {H : Type} {enc : TypeId × Value → H} {w : World} {base : Nat} {spare : Nat → Bool} {held : Bool} {r : Reach} {b0 : Nat} {v : Value} {d : DataW H} {p : List MemPlace}
    (hv : Value.okWide Tryd.prog w r b0 23 v) (h : DataW.Trod enc Tryd.prog w base spare held 23 v d p) :
    ∃ n l, v = .agg #[.int .i64 n, .bool l] ∧ d = .agg [.lit (.int .i64 n), .lit (.bool l)] ∧ p = [] ∧ (Lit.int .i64 n).wf = true := by
  obtain ⟨cs, rfl, hsz⟩ := okWide_struct Tryd.underlying23 hv
  have h2 := hsz.trans c2
  clear hsz
  obtain ⟨a, b, rfl⟩ : ∃ a b, cs = #[a, b] := by
    obtain ⟨l⟩ := cs
    match l, h2 with
    | [a, b], _ => exact ⟨a, b, rfl⟩
  obtain ⟨fuel, hf⟩ := h
  have hf' : DataW.trod enc Tryd.prog w base spare held fuel 23 [a, b] = some (d, p) := by simpa [Value.cells] using hf
  obtain ⟨y0, y1, m, hx, _, h0, h1⟩ := trod_struct2 Tryd.underlying23 hf'
  obtain ⟨n, e0, rfl, wn⟩ := DataW.trod_int Tryd.underlying3 h0
  obtain ⟨l, e1, rfl⟩ := DataW.trod_bool Tryd.underlying4 h1
  simp [c1i, c1b] at e0 e1
  subst e0
  subst e1
  simp only [Prod.mk.injEq] at hx
  exact ⟨n, l, rfl, hx.1, by simpa using hx.2, wn⟩
set_option maxRecDepth 100000 in
theorem shut_code {H : Type} (enc : TypeId × Value → H) (w : World) (base : Nat) (spare : Nat → Bool) (held : Bool) (n : Int) (l : Bool) (wn : (Lit.int .i64 n).wf = true) :
    DataW.Trod enc Tryd.prog w base spare held 23 (.agg #[.int .i64 n, .bool l]) (.agg [.lit (.int .i64 n), .lit (.bool l)]) [] := by
  have := trod_struct2_mk (enc := enc) (w := w) (base := base) (spare := spare) (held := held) (n := 1) (cs := [.int .i64 n, .bool l]) (y0 := (.lit (.int .i64 n), [])) (y1 := (.lit (.bool l), [])) Tryd.underlying23 (by simp [c2])
    (by simp [c1i, DataW.trod, Tryd.underlying3, wn]) (by simp [c1b, DataW.trod, Tryd.underlying4])
  exact ⟨2, by simpa [Value.cells] using this⟩
set_option maxRecDepth 100000 in
theorem lifted (os : Os) (started : os.Started) (H : Type) (enc : TypeId × Value → H) :
    ReturnsInHanded {} Tryd.checked os 12 .any (fun w args => (Rows.nameMonthsSpec.pre enc Tryd.prog Tryd.f12 [] false w args ∧ laidMetH Tryd.prog Rows.nameMonthsRow.laid w) ∧ sizedMet enc Tryd.prog Tryd.f12 (OpenSpec.ofChange Rows.nameMonthsSpec) false w args)
      (Rows.nameMonthsSpec.post enc Tryd.prog Tryd.f12 false true false false) := by
  refine returns_and_shaped (C := Tryd.checked) (X := fun w _ => laidMetH Tryd.prog Rows.nameMonthsRow.laid w) (fun _ _ _ hh h => h.of_heap hh) own started (by kernel_rfl) Tryd.func12
    (ChangeSpec.witness_shaped (enc := enc) (C := Tryd.checked) (os := os) (X := fun w _ => laidMetH Tryd.prog Rows.nameMonthsRow.laid w) false (World.doorLaid Tryd.prog 91 os) #[.int .i64 0, .agg #[.int .i64 0, .bool false], .agg #[.int .i64 0, .bool false]] 8 rfl (World.shaped_of_RefB (by kernel_rfl) (by kernel_rfl)) (by kernel_rfl) (by kernel_rfl) (by kernel_rfl) (door_met os _)) ?_
  intro W base args ds gs before hval0 hW hL hsh
  have hval : ∀ (j : Nat) t v, Tryd.f12.params[j]? = some t → args[j]? = some v → Value.okWide Tryd.prog W .any base t v := hval0
  have hW' := hW
  obtain ⟨p, q, hA0, hV, rfl, hfz, hnd⟩ := hW
  have hA : DataW.TrodAll enc Tryd.prog W 0 (fun _ => true) true Tryd.f12.params.toList args.toList ds p := hA0
  rw [Tryd.params12] at hA hval
  obtain ⟨v0, vs0, d0, ds0, p0, q0, hargs, rfl, rfl, h0, r0⟩ := trodAll_cons hA
  obtain ⟨v1, vs1, d1, ds1, p1, q1, rfl, rfl, rfl, h1, r1⟩ := trodAll_cons r0
  obtain ⟨v2, vs2, d2, ds2, p2, q2, rfl, rfl, rfl, h2, r2⟩ := trodAll_cons r1
  obtain ⟨rfl, rfl, rfl⟩ := trodAll_nil r2
  obtain rfl : args = #[v0, v1, v2] := by cases args; simp_all
  obtain ⟨rfl, rfl⟩ := trodVars_none hV
  obtain ⟨a0, rfl, rfl, rfl, w0⟩ := open_int Tryd.underlying3 (hval 0 3 v0 rfl rfl) h0
  obtain ⟨n1, l1, rfl, rfl, rfl, w1⟩ := open_code (hval 1 23 v1 rfl rfl) h1
  obtain ⟨n2, l2, rfl, rfl, rfl, w2⟩ := open_code (hval 2 23 v2 rfl rfl) h2
  clear hA0 hval0
  obtain ⟨hN, hS, hT⟩ : GlobN W ∧ GlobS W ∧ GlobT W := by
    rw [MakeChecks.laidMetH_plain _ _ _ (by kernel_rfl)] at hL
    exact globs_of_laid _ _ hL hsh
  obtain ⟨k, hk⟩ := N.nameMonths_f a0 n1 l1 n2 l2
  refine (N.almanackerlaw14_NameMonths.calls k a0 n1 l1 n2 l2 true W hN hS hT hk).mono fun e W' ⟨he, bel⟩ => ?_
  subst he
  exact ⟨_, rfl, _, _, _, [], _, [], hW', trodAll_mk1 (shut_bool Tryd.underlying4 _), (trodAll_cons_mk (shut_int Tryd.underlying3 w0) (trodAll_cons_mk (shut_code _ _ _ _ _ n1 l1 w1) (trodAll_cons_mk (shut_code _ _ _ _ _ n2 l2 w2) trodAll_mk0))), rfl, bel.frame _, fun h => by cases h⟩
theorem row_holds : Rows.NameMonthsSaid :=
  OpenClaim.holds_of_wide 12 Tryd.f12 rfl rfl rfl rfl rfl rfl rfl ⟨rfl, rfl, rfl, rfl, rfl⟩ rfl rfl rfl rfl rfl (by kernel_rfl) Tryd.func12 (by kernel_rfl)
    (of_decide_eq_true (by kernel_rfl)) (by unfold Func.isWrapper; first | (rw [if_pos (by decide +kernel)]; kernel_rfl) | (rw [if_neg (by decide +kernel)]; exact ⟨rfl, rfl⟩))
    (fun os started H enc _ => lifted os started H enc)
end Go.Proofs.YtflpddhoiafhcaaDoor.nameMonths
namespace Go.Proofs.YtflpddhoiafhcaaDoor
theorem nameMonths_card : Rows.NameMonthsCardSaid :=
  Claim7.holds_tied_plain_at .later [] [.data, .data, .data, .widerDeep, .data, .sentinel, .sentinel, .data] true (true, "15b86447cfc41a4bfcd2b2b1c27e7da639d94613817b877b85ea2248c461fbb6") true
    nameMonths.row_holds (fun _ h => by cases h) (by kernel_rfl) (fun _ h => by cases h) nameMonths_row_tie rfl ⟨rfl, rfl⟩ (by kernel_rfl) rfl
    (fun f fn hf hfn => by
      obtain rfl : f = 12 := Option.some.inj ((show Tryd.prog.funcNamed "almanacker/almanackerlaw14.NameMonths" = some 12 by kernel_rfl).symm.trans hf) |>.symm
      obtain rfl : fn = Tryd.f12 := (Option.some.inj (Tryd.func12.symm.trans hfn)).symm
      exact ⟨by kernel_rfl, fun j t ht => by
        rw [Tryd.params12] at ht
        have hm : t ∈ [3, 23, 23] := by simpa using Array.mem_of_getElem? ht
        have hall : ([3, 23, 23].all fun u => !Tryd.prog.wantsStandIn u) = true := by kernel_rfl
        exact (show Tryd.prog.wantsStandIn t = false by simpa using List.all_eq_true.1 hall t hm)⟩)
    (by kernel_rfl)
#print axioms nameMonths_card
end Go.Proofs.YtflpddhoiafhcaaDoor
