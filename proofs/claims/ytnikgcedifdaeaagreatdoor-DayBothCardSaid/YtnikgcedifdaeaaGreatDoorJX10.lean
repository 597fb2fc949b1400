/- Texts of the proof, joined by a program (part 10): contracts of functions, plain laws. -/
import Derived.Test.YtnikgcedifdaeaaGreatDoorJXTorahK0
import Derived.Test.YtnikgcedifdaeaaGreatDoorJXTorahK2
import Derived.Test.YtnikgcedifdaeaaGreatDoorJX9
set_option linter.unusedVariables false
set_option linter.unusedSimpArgs false
set_option linter.unusedSectionVars false
section
/- The readings as a row; parts of a cycle. -/
set_option linter.unusedVariables false
set_option linter.unusedSimpArgs false
namespace Go.Proofs.YtnikgcedifdaeaaGreatDoor.Sab
open Go Go.Proofs.YtnikgcedifdaeaaGreatDoor.Ab
set_option maxRecDepth 100000
noncomputable section
theorem torah_chk : allB okTorah tyList = true :=
  allB_cons torah_chk_0 (allB_cons torah_chk_1 (allB_cons torah_chk_2 (allB_cons torah_chk_3 (allB_cons torah_chk_4 (allB_cons torah_chk_5 (allB_cons torah_chk_6 (allB_cons torah_chk_7 (allB_cons torah_chk_8 (allB_cons torah_chk_9 (allB_cons torah_chk_10 (allB_cons torah_chk_11 (allB_cons torah_chk_12 (allB_cons torah_chk_13 allB_nil)))))))))))))
def rdVals (f : Int) (l : List (Int × Int × Int)) : List Value := (l.map fun e => [iv e.1, iv e.2.1, iv (f + e.2.2)]).flatten
theorem pl_rds (c : Int) (l : List (Int × Int × Int)) : allB pl0 ((l.map fun e => [iL e.1, iL e.2.1, dE (c + e.2.2)]).flatten) = true := by
  induction l with
  | nil => rfl
  | cons a r ih => exact ih
theorem rds_conc (ρ : Nat → Int) (c f : Int) (l : List (Int × Int × Int)) (h : ∀ o, Lin.den ρ ⟨c + o, [(1, 7)]⟩ = f + o) : ((l.map fun e => [iL e.1, iL e.2.1, dE (c + e.2.2)]).flatten).map (conc0 ρ) = rdVals f l := by
  induction l with
  | nil => rfl
  | cons a r ih =>
    simp only [rdVals, List.map_cons, List.flatten_cons, List.cons_append, List.nil_append, conc0, den_l, h]
    congr 3
theorem mParts_ok {y : Int} {t : Ty} (h : YT y t) (h9 : y ≤ 9998) (l m : List Int) (hm : ∀ o ∈ m, -100000 ≤ o ∧ o ≤ 100000) : Memo.Ok base.P base.G (ry y l) (mParts t m) := by
  intro e he
  obtain ⟨o, ho, rfl⟩ := List.mem_map.1 he
  obtain ⟨f0, f1⟩ := first_bd y h.low (by omega)
  obtain ⟨o0, o1⟩ := hm o ho
  refine (part_vc h h9 (Cal.first y + o) (by omega) (by omega)).ans rfl rfl ?_ ?_
  · simp [conc1, conc0, den_y, den_f h]
  · simp [conc, conc1, conc0, den_l, partOf_eq]
theorem offs_bd {t : Ty} {pl : Int} (m : List Int) (h : allB (fun o => ile (-100000) o && ile o 100000) m = true) : ∀ o ∈ m, -100000 ≤ o ∧ o ≤ 100000 := by
  intro o ho
  have := allB_get h o ho
  simp only [Bool.and_eq_true, ile_iff] at this
  exact this
theorem free_bd : allB (fun t => allB (fun pl => allB (fun o => ile (-100000) o && ile o 100000) (freeOff t pl)) places) tyList = true := by decide +kernel
theorem torah_lvc {y : Int} {p : Ty × Ty} (h : YP y p) (h9 : y ≤ 9998) (pl : Int) (hp : pl ∈ places) : LVC base fTorah [iv y, iv pl] (rdVals (Cal.first y) (torahOff p.1 pl)) 29 3 (torahOff p.1 pl).length (some 0) false := by
  have c := allB_get (show allB (fun pl => isLR (rowR p.1 (torahOff p.1 pl)) base.A0.next (base.goL vCyc (memo (mTorah p.1 pl)) (memoL (mlTorah p.1 pl)) 400 fTorah [yE 0, iL pl])) places = true from of_ty torah_chk h.a) pl hp
  have hx : allB pl0 (rowR p.1 (torahOff p.1 pl)).cs = true := pl_rds _ _
  have hE : LMemo.Ok base.P base.G (ry y []) (mlTorah p.1 pl) := by
    refine .cons ((all_lvc h.a h9 pl hp).ans rfl (pl_row _ _) ?_ ?_) (.cons ((free_lvc h h9 pl hp).ans rfl (pl_row _ _) ?_ ?_) .nil)
    · simp [conc1, conc0, den_y, den_l]
    · simp [rowI, conc0, den_f h.a, Function.comp_def]
    · simp [conc1, conc0, den_y, den_l]
    · simp [rowI, conc0, den_f h.a, Function.comp_def]
  have hM : Memo.Ok base.P base.G (ry y []) (mTorah p.1 pl) := by
    refine .cons ((leap_vc y (by have := h.a.low; omega) (by omega)).ans rfl rfl ?_ ?_) (mParts_ok h.a h9 [] _ (offs_bd (t := p.1) (pl := pl) _ (allB_get (of_ty free_bd h.a) pl hp)))
    · simp [conc1, conc0, den_y]
    · simp [conc, conc1, conc0, den_l, h.a.leap]
  have := (Base.lansB base_fit (vCyc_ok h.a.low h9) (OkO.memo hM) (OkL.memo hE) c hx rfl).vc rfl hx
  have e := rds_conc (ry y []) p.1.1 (Cal.first y) (torahOff p.1 pl) (fun o => den_f h.a o [])
  simp only [rowR] at this
  rw [e] at this
  simpa [conc1, conc0, den_y, den_l] using this
end
end Go.Proofs.YtnikgcedifdaeaaGreatDoor.Sab
end

section
/- The reading of a day: what is to be checked. -/
set_option linter.unusedVariables false
set_option linter.unusedSimpArgs false
namespace Go.Proofs.YtnikgcedifdaeaaGreatDoor.Sab
open Go Go.Proofs.YtnikgcedifdaeaaGreatDoor.Ab
set_option maxRecDepth 100000
noncomputable section
abbrev fTOf : Nat := 10
/-- A day that is no Sabbath: its weekday, whole weeks. -/
def vOfW : Ab.Env := ⟨[(1, 9998), (-400000, 400000), (-10, 100)], [], []⟩
def nW (w : Int) : AV := iE w [(1, 7), (2, 7)]
def six : List Int := [0, 1, 2, 3, 4, 5]
def rows1 (t : Ty) (pl : Int) : LMemo := [(fTorah, [yE 0, iL pl], rowR t (torahOff t pl))]
def okTofP (pl : Int) (t : Ty) : Bool := allB (fun e => isR (.tuple [.agg [iL e.1, iL e.2.1, dE (t.1 + e.2.2)], iL 0]) (base.goL vCyc (memo [(fCyc, [dE (t.1 + e.2.2), iL pl], .tuple [yE 0, iL 0])]) (memoL (rows1 t pl)) 400 fTOf [dE (t.1 + e.2.2), iL pl])) (torahOff t pl)
def okTofG (t : Ty) : Bool := allB (fun pl => allB (fun w => isR (.tuple [.agg [iL 0, iL 0, iL 0], iL 4]) (base.goL vOfW (memo [(fCyc, [nW w, iL pl], .tuple [yE 0, iL 0])]) (memoL (rows1 t pl)) 400 fTOf [nW w, iL pl])) six) places
end
end Go.Proofs.YtnikgcedifdaeaaGreatDoor.Sab
end
