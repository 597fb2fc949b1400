/-
  Whatever the date and the text: 'almanackerlaw14.NameTells' returns true and leaves its arguments as they read. CONDITIONS: none of mine; the row's listed variables are tied to the program's text by the given ties.
-/
import Derived.Test.YtflpddhoiafhcaaGreatDoorRows
import Derived.Test.YtflpddhoiafhcaaGreatDoorCards
import Derived.Test.YtflpddhoiafhcaaGreatDoorTie
import Derived.Test.YtflpddhoiafhcaaGreatDoorJNameTells2
import Derived.Test.YtflpddhoiafhcaaGreatDoorJNameTells8
import Derived.Deep.Strs
import Derived.ProofKit
import Derived.LaidMore
import Derived.OpenShut
import Derived.Stop.Joined
import Derived.SevenTiedAt
import Derived.ChangeOld
import Derived.ChangeSame
import Derived.Below
import Derived.Lib.SmallJoins
namespace Go.Proofs.YtflpddhoiafhcaaGreatDoor.nameTells
open Go.ChangeShapes Go.WideShapes Go.ChangeAt Go.WideMaps Go.WideElems Go.RowKit Go.Joins
open Go.ChangeMaps (open_string shut_string)
set_option linter.unusedVariables false
theorem own : ownKnob Tryz.prog.godebug = none := by kernel_rfl
/-- The door's own heap meets the condition: closed facts. -/
theorem door_met (os : Os) (args : Array Value) : laidMetH Tryz.prog Rows.nameTellsRow.laid ((World.doorLaid Tryz.prog 91 os).forCall (fun _ _ => 0) ⟨#[], args, []⟩).memory :=
  laidMetH_of_parts3 (fuel := 8) (laidMet_of_run' 8 (by kernel_rfl) (by kernel_rfl)) (by kernel_rfl) (by kernel_rfl)
theorem c4 : Tryz.prog.cellsOf 34 = 4 := by kernel_rfl
theorem c2 : Tryz.prog.cellsOf 32 = 2 := by kernel_rfl
theorem c1i : Tryz.prog.cellsOf 3 = 1 := by kernel_rfl
theorem c1b : Tryz.prog.cellsOf 4 = 1 := by kernel_rfl
set_option maxRecDepth 100000 in
theorem open_date {H : Type} {enc : TypeId × Value → H} {w : World} {base : Nat} {spare : Nat → Bool} {held : Bool} {r : Reach} {b0 : Nat} {v : Value} {d : DataW H} {p : List MemPlace}
    (hv : Value.okWide Tryz.prog w r b0 34 v) (h : DataW.Trod enc Tryz.prog w base spare held 34 v d p) :
    ∃ y n l k, v = .agg #[.int .i64 y, .int .i64 n, .bool l, .int .i64 k] ∧ d = .agg [.lit (.int .i64 y), .agg [.lit (.int .i64 n), .lit (.bool l)], .lit (.int .i64 k)] ∧ p = [] ∧ (Lit.int .i64 y).wf = true ∧ (Lit.int .i64 n).wf = true ∧ (Lit.int .i64 k).wf = true := by
  obtain ⟨cs, rfl, hsz⟩ := okWide_struct Tryz.underlying34 hv
  have h4 := hsz.trans c4
  clear hsz
  obtain ⟨a, b, c, e, rfl⟩ : ∃ a b c e, cs = #[a, b, c, e] := by
    obtain ⟨l⟩ := cs
    match l, h4 with
    | [a, b, c, e], _ => exact ⟨a, b, c, e, rfl⟩
  obtain ⟨fuel, hf⟩ := h
  have hf' : DataW.trod enc Tryz.prog w base spare held fuel 34 [a, b, c, e] = some (d, p) := by simpa [Value.cells] using hf
  obtain ⟨y0, y1, y2, m, hx, _, h0, h1, h2⟩ := Go.Deep.trod_struct3 Tryz.underlying34 hf'
  obtain ⟨y, e0, rfl, wy⟩ := DataW.trod_int Tryz.underlying3 h0
  have g1 : DataW.trod enc Tryz.prog w base spare held m 32 [b, c] = some y1 := by simpa [c2] using h1
  obtain ⟨z0, z1, q, rfl, _, k0, k1⟩ := trod_struct2 Tryz.underlying32 g1
  obtain ⟨n, e1, rfl, wn⟩ := DataW.trod_int Tryz.underlying3 k0
  obtain ⟨l, e2, rfl⟩ := DataW.trod_bool Tryz.underlying4 k1
  obtain ⟨k, e3, rfl, wk⟩ := DataW.trod_int Tryz.underlying3 h2
  simp [c1i, c1b] at e0 e1 e2 e3
  subst e0
  subst e1
  subst e2
  subst e3
  simp only [Prod.mk.injEq] at hx
  exact ⟨y, n, l, k, rfl, hx.1, by simpa using hx.2, wy, wn, wk⟩
theorem shut_code {H : Type} (enc : TypeId × Value → H) (w : World) (base : Nat) (spare : Nat → Bool) (held : Bool) (n : Int) (l : Bool) (wn : (Lit.int .i64 n).wf = true) :
    DataW.trod enc Tryz.prog w base spare held 2 32 [.int .i64 n, .bool l] = some (.agg [.lit (.int .i64 n), .lit (.bool l)], []) := by
  have := trod_struct2_mk (enc := enc) (w := w) (base := base) (spare := spare) (held := held) (n := 1) (cs := [.int .i64 n, .bool l]) (y0 := (.lit (.int .i64 n), [])) (y1 := (.lit (.bool l), [])) Tryz.underlying32 (by simp [c2])
    (by simp [c1i, DataW.trod, Tryz.underlying3, wn]) (by simp [c1b, DataW.trod, Tryz.underlying4])
  simpa using this
set_option maxRecDepth 100000 in
theorem shut_date {H : Type} (enc : TypeId × Value → H) (w : World) (base : Nat) (spare : Nat → Bool) (held : Bool) (y n : Int) (l : Bool) (k : Int) (wy : (Lit.int .i64 y).wf = true) (wn : (Lit.int .i64 n).wf = true) (wk : (Lit.int .i64 k).wf = true) :
    DataW.Trod enc Tryz.prog w base spare held 34 (.agg #[.int .i64 y, .int .i64 n, .bool l, .int .i64 k]) (.agg [.lit (.int .i64 y), .agg [.lit (.int .i64 n), .lit (.bool l)], .lit (.int .i64 k)]) [] := by
  have h1 := shut_code enc w base spare held n l wn
  have := Go.Deep.trod_struct3_mk (enc := enc) (w := w) (base := base) (spare := spare) (held := held) (n := 2) (cs := [.int .i64 y, .int .i64 n, .bool l, .int .i64 k]) (y0 := (.lit (.int .i64 y), [])) (y1 := (.agg [.lit (.int .i64 n), .lit (.bool l)], [])) (y2 := (.lit (.int .i64 k), [])) Tryz.underlying34 (by simp [c4])
    (by simp [c1i, DataW.trod, Tryz.underlying3, wy]) (by simpa [c2] using h1) (by simp [c1i, DataW.trod, Tryz.underlying3, wk])
  exact ⟨3, by simpa [Value.cells] using this⟩
set_option maxRecDepth 100000 in
theorem lifted (os : Os) (started : os.Started) (H : Type) (enc : TypeId × Value → H) :
    ReturnsInHanded {} Tryz.checked os 4 .any (fun w args => (Rows.nameTellsSpec.pre enc Tryz.prog Tryz.f4 [] false w args ∧ laidMetH Tryz.prog Rows.nameTellsRow.laid w) ∧ sizedMet enc Tryz.prog Tryz.f4 (OpenSpec.ofChange Rows.nameTellsSpec) false w args)
      (Rows.nameTellsSpec.post enc Tryz.prog Tryz.f4 false true false false) := by
  refine returns_and_shaped (C := Tryz.checked) (X := fun w _ => laidMetH Tryz.prog Rows.nameTellsRow.laid w) (fun _ _ _ hh h => h.of_heap hh) own started (by kernel_rfl) Tryz.func4
    (ChangeSpec.witness_shaped (enc := enc) (C := Tryz.checked) (os := os) (X := fun w _ => laidMetH Tryz.prog Rows.nameTellsRow.laid w) false (World.doorLaid Tryz.prog 91 os) #[.agg #[.int .i64 0, .int .i64 0, .bool false, .int .i64 0], .string ⟨#[]⟩] 8 rfl (World.shaped_of_RefB (by kernel_rfl) (by kernel_rfl)) (by kernel_rfl) (by kernel_rfl) (by kernel_rfl) (door_met os _)) ?_
  intro W base args ds gs before hval0 hW hL hsh
  have hval : ∀ (j : Nat) t v, Tryz.f4.params[j]? = some t → args[j]? = some v → Value.okWide Tryz.prog W .any base t v := hval0
  have hW' := hW
  obtain ⟨p, q, hA0, hV, rfl, hfz, hnd⟩ := hW
  have hA : DataW.TrodAll enc Tryz.prog W 0 (fun _ => true) true Tryz.f4.params.toList args.toList ds p := hA0
  rw [Tryz.params4] at hA hval
  obtain ⟨v0, vs0, d0, ds0, p0, q0, hargs, rfl, rfl, h0, r0⟩ := trodAll_cons hA
  obtain ⟨v1, vs1, d1, ds1, p1, q1, rfl, rfl, rfl, h1, r1⟩ := trodAll_cons r0
  obtain ⟨rfl, rfl, rfl⟩ := trodAll_nil r1
  obtain rfl : args = #[v0, v1] := by cases args; simp_all
  obtain ⟨rfl, rfl⟩ := trodVars_none hV
  obtain ⟨y, n, l, k, rfl, rfl, rfl, wy, wn, wk⟩ := open_date (hval 0 34 v0 rfl rfl) h0
  obtain ⟨s, rfl, rfl, rfl, ws⟩ := open_string Tryz.underlying9 (hval 1 9 v1 rfl rfl) h1
  clear hA0 hval0
  obtain ⟨hN, hS, hT⟩ : GlobN W ∧ GlobS W ∧ GlobT W := by
    rw [MakeChecks.laidMetH_plain _ _ _ (by kernel_rfl)] at hL
    exact globs_of_laid _ _ hL hsh
  obtain ⟨K, hk⟩ := R.nameTells_f y n l k s
  refine (R.almanackerlaw14_NameTells.calls K y n l k s true W hN hS hT hk).mono fun e W' ⟨he, bel⟩ => ?_
  subst he
  exact ⟨_, rfl, _, _, _, [], _, [], hW', trodAll_mk1 (shut_bool Tryz.underlying4 _), (trodAll_cons_mk (shut_date _ _ _ _ _ y n l k wy wn wk) (trodAll_cons_mk (shut_string Tryz.underlying9 ws) trodAll_mk0)), rfl, bel.frame _, fun h => by cases h⟩
theorem fact_inPlace : (Rows.nameTellsRow.inPlace == Tryz.pinned.checked.prog.inPlace 4) = true := by kernel_rfl
theorem fact_unfollowed : (Rows.nameTellsRow.unfollowed == Tryz.pinned.checked.prog.unfollowed 4) = true := by kernel_rfl
theorem fact_recurses : (Rows.nameTellsRow.recurses == Tryz.pinned.checked.prog.recurses 4) = true := by kernel_rfl
theorem fact_named : (Rows.nameTellsRow.named == Tryz.pinned.checked.prog.varsNamed 4) = true := by kernel_rfl
theorem facts : joinedFacts Tryz.pinned.checked.prog 4 Tryz.f4 Rows.nameTellsSpec Rows.nameTellsRow = true := by
  unfold joinedFacts
  rw [fact_inPlace, fact_unfollowed, fact_recurses, fact_named]
  kernel_rfl
theorem row_holds : Rows.NameTellsSaid :=
  OpenClaim.holds_of_wide 4 Tryz.f4 rfl rfl rfl rfl rfl rfl rfl ⟨rfl, rfl, rfl, rfl, rfl⟩ rfl rfl rfl rfl rfl (by kernel_rfl) Tryz.func4 facts
    (of_decide_eq_true (by kernel_rfl)) (by unfold Func.isWrapper; first | (rw [if_pos (by decide +kernel)]; kernel_rfl) | (rw [if_neg (by decide +kernel)]; exact ⟨rfl, rfl⟩))
    (fun os started H enc _ => lifted os started H enc)
end Go.Proofs.YtflpddhoiafhcaaGreatDoor.nameTells
namespace Go.Proofs.YtflpddhoiafhcaaGreatDoor
theorem nameTells_card : Rows.NameTellsCardSaid :=
  Claim7.holds_tied_plain_at .later [] [.data, .data, .data, .widerDeep, .data, .sentinel, .sentinel, .data] true (true, "b460f4c9c07d00283c5554df2266d47161bb3a9e0a67d095446a414aa3724c4b") true
    nameTells.row_holds (fun _ h => by cases h) (by kernel_rfl) (fun _ h => by cases h) nameTells_row_tie rfl ⟨rfl, rfl⟩ (by kernel_rfl) rfl
    (fun f fn hf hfn => by
      obtain rfl : f = 4 := Option.some.inj ((show Tryz.prog.funcNamed "almanacker/almanackerlaw14.NameTells" = some 4 by kernel_rfl).symm.trans hf) |>.symm
      obtain rfl : fn = Tryz.f4 := (Option.some.inj (Tryz.func4.symm.trans hfn)).symm
      exact ⟨by kernel_rfl, fun j t ht => by
        rw [Tryz.params4] at ht
        have hm : t ∈ [34, 9] := by simpa using Array.mem_of_getElem? ht
        have hall : ([34, 9].all fun u => !Tryz.prog.wantsStandIn u) = true := by kernel_rfl
        exact (show Tryz.prog.wantsStandIn t = false by simpa using List.all_eq_true.1 hall t hm)⟩)
    (by kernel_rfl)
#print axioms nameTells_card
end Go.Proofs.YtflpddhoiafhcaaGreatDoor
