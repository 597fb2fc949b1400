/- Texts of the proof, joined by a program (of one law): contracts of functions, plain laws. -/
import Derived.Test.YtnikgcedifdaeaaGreatDoorJQoDayC
set_option linter.unusedVariables false
set_option linter.unusedSimpArgs false
set_option linter.unusedSectionVars false
section
/- The example in the laws about days. -/
set_option linter.unusedVariables false
set_option linter.unusedSimpArgs false
namespace Go.Proofs.YtnikgcedifdaeaaGreatDoor.Sab
open Go Go.Proofs.YtnikgcedifdaeaaGreatDoor.Ab
set_option maxRecDepth 100000
set_option maxHeartbeats 0
noncomputable section
abbrev fAwake25 : Nat := 22
def t84 : Ty := (6, 0, true)
def q84 : Ty × Ty := ((6, 0, true), (4, 2, false))
theorem f84' : Cal.first 5784 = 738779 := by decide +kernel
theorem yq84 : YP 5784 q84 := ⟨⟨by decide, by decide, by decide, by decide +kernel, by decide +kernel, by decide +kernel⟩, ⟨by decide, by decide, by decide, by decide +kernel, by decide +kernel, by decide +kernel⟩⟩
def rdq84 : LR := ⟨((torahOff t84 0).map fun e => [iL e.1, iL e.2.1, iL (738779 + e.2.2)]).flatten, 29, 3, (torahOff t84 0).length, some 0, false⟩
def ev84 : LR := ⟨((evs t84 0).map fun e => [iL e.2, iL (738779 + e.1)]).flatten, 60, 2, (evs t84 0).length, some 0, true⟩
theorem pl_rq (c : Int) (l : List (Int × Int × Int)) : allB pl0 ((l.map fun e => [iL e.1, iL e.2.1, iL (c + e.2.2)]).flatten) = true := by
  induction l with
  | nil => rfl
  | cons a r ih => exact ih
theorem rq_conc (ρ : Nat → Int) (f : Int) (l : List (Int × Int × Int)) : ((l.map fun e => [iL e.1, iL e.2.1, iL (f + e.2.2)]).flatten).map (conc0 ρ) = rdVals f l := by
  induction l with
  | nil => rfl
  | cons a r ih =>
    simp only [rdVals, List.map_cons, List.flatten_cons, List.cons_append, List.nil_append, conc0, den_l]
    congr 3
theorem pl_eq (c : Int) (l : List Ev) : allB pl0 ((l.map fun e => [iL e.2, iL (c + e.1)]).flatten) = true := by
  induction l with
  | nil => rfl
  | cons a r ih => exact ih
theorem eq_conc (ρ : Nat → Int) (f : Int) (l : List Ev) : ((l.map fun e => [iL e.2, iL (f + e.1)]).flatten).map (conc0 ρ) = evVals f l := by
  induction l with
  | nil => rfl
  | cons a r ih =>
    simp only [evVals, List.map_cons, List.flatten_cons, List.cons_append, List.nil_append, conc0, den_l]
    congr 2
def vNon : Ab.Env := ⟨[], [], []⟩
theorem vNon_ok : vNon.Ok (rho []) := env_ok inB_nil (by simp [vNon]) (by simp [vNon])
def mAw25 : Memo := [(fFromDay, [iL 738999], .tuple [.agg [iL 5784, iL 7, bL false, iL 15], iL 0]), (fGFrom, [iL 738999], .tuple [.agg [iL 2024, iL 4, iL 23], iL 0]), (fOmer, [iL 738999], .tuple [iL 0, iL 0]), (fCyc, [iL 738999, iL 0], .tuple [iL 5784, iL 0])]
def lAw25 : LMemo := [(fEvents, [iL 5784, iL 0], ev84), (fTorah, [iL 5784, iL 0], rdq84)]
theorem awake25_chk : isR (bL true) (base.goL vNon (memo mAw25) (memoL lAw25) 400 fAwake25 []) = true := by kernel_rfl
theorem civ84 : Civ 738999 2024 4 23 := ⟨by decide +kernel, (4, 91, 30), by decide +kernel, rfl, by decide +kernel, by decide +kernel, by decide +kernel⟩
theorem mem84 : (⟨206, 30, 7, false⟩ : Mon) ∈ mons q84.1 := List.mem_of_getElem? (i := 7) rfl
theorem awake25_vc : VC base fAwake25 [] (.bool true) := by
  have e0 : Cal.first 5784 + 220 = 738999 := by rw [f84']; rfl
  have v1 := from_vc yq84.a ⟨206, 30, 7, false⟩ mem84 14 (by decide) (by decide)
  rw [show Cal.first 5784 + ((206 : Int) + 14) = 738999 by rw [f84']; rfl] at v1
  have v2 := gfrom_vc (day := 738999) (by decide) (by decide) civ84
  have v3 := omer_vc yq84.a 220 (by decide) (by decide +kernel)
  rw [e0] at v3
  have o0 : omer q84.1 220 = 0 := by decide +kernel
  rw [o0] at v3
  have v4 := cyc_vc yq84.a (by decide) 0 (by decide) 220 (by decide) (by decide +kernel)
  rw [e0] at v4
  have hM : Memo.Ok base.P base.G (rho []) mAw25 := .cons (v1.ans rfl rfl rfl rfl) (.cons (v2.ans rfl rfl rfl rfl) (.cons (v3.ans rfl rfl rfl rfl) (.cons (v4.ans rfl rfl rfl rfl) .nil)))
  have hx : allB pl0 rdq84.cs = true := pl_rq _ _
  have hx2 : allB pl0 ev84.cs = true := pl_eq _ _
  have hL : LMemo.Ok base.P base.G (rho []) lAw25 := by
    refine .cons (LVC.ans (x := ev84) (events_lvc yq84.a 0 (by decide)) rfl hx2 rfl ?_) (.cons (LVC.ans (x := rdq84) (torah_lvc yq84 (by decide) 0 (by decide)) rfl hx rfl ?_) .nil)
    · rw [f84']
      exact (eq_conc _ _ _).symm
    · rw [f84']
      exact (rq_conc _ _ _).symm
  have := (Base.ansL base_fit vNon_ok (OkO.memo hM) (OkL.memo hL) awake25_chk rfl rfl).vc rfl rfl
  simpa [conc, conc1, conc0] using this
end
end Go.Proofs.YtnikgcedifdaeaaGreatDoor.Sab
end
