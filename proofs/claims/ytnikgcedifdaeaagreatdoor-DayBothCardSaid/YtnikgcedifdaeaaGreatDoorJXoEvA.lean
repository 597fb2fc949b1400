/- Texts of the proof, joined by a program (of one law): contracts of functions, plain laws. -/
import Derived.Test.YtnikgcedifdaeaaGreatDoorJX7
set_option linter.unusedVariables false
set_option linter.unusedSimpArgs false
set_option linter.unusedSectionVars false
section
/- How two events stand: the answer of the closure by which they are sorted. -/
set_option linter.unusedVariables false
set_option linter.unusedSimpArgs false
namespace Go.Proofs.YtnikgcedifdaeaaGreatDoor.Sab
open Go Go.Proofs.YtnikgcedifdaeaaGreatDoor.Ab
set_option maxRecDepth 100000
noncomputable section
abbrev fSort1 : Nat := 121
def cmp3 (x : Int) : Int := bif zero x then 0 else bif ile 0 x then 1 else -1
def cmpE (d k : Int) : Int := bif zero d then cmp3 k else cmp3 d
def big : Int × Int := (-1152921504606846976, 1152921504606846976)
def vS (f : List Lin) : Ab.Env := ⟨[big, big, big, big], f, []⟩
def sArg (de ke : Bool) : List AV := [.agg [iE 0 [(0, 1)], iE 0 [(1, 1)]], .agg [iE 0 [(bif ke then 0 else 2, 1)], iE 0 [(bif de then 1 else 3, 1)]]]
def sF (d k : Int) : List Lin := (bif zero d then [] else [⟨-1, [(1, d), (3, -d)]⟩]) ++ (bif zero k then [] else [⟨-1, [(0, k), (2, -k)]⟩])
def three : List Int := [-1, 0, 1]
theorem s_chk : allB (fun d => allB (fun k => isR (iL (bif zero d then k else d)) (base.go (vS (sF d k)) noO 60 fSort1 (sArg (zero d) (zero k)))) three) three = true := by kernel_rfl
theorem cmp3_cases (x : Int) : (x = 0 ∧ cmp3 x = 0) ∨ (0 < x ∧ cmp3 x = 1) ∨ (x < 0 ∧ cmp3 x = -1) := by
  unfold cmp3
  by_cases e : x = 0
  · rw [(zero_iff x).2 e]
    exact .inl ⟨e, rfl⟩
  have z : zero x = false := by
    cases h : zero x with
    | false => rfl
    | true => exact absurd ((zero_iff x).1 h) e
  rw [z]
  by_cases f : 0 ≤ x
  · rw [ile_iff.2 f]
    exact .inr (.inl ⟨by omega, rfl⟩)
  · have : ile 0 x = false := by
      cases h : ile 0 x with
      | false => rfl
      | true => exact absurd (ile_iff.1 h) f
    rw [this]
    exact .inr (.inr ⟨by omega, rfl⟩)
theorem sort1_vc (k1 d1 k2 d2 : Int) (a : big.1 ≤ k1 ∧ k1 ≤ big.2) (b : big.1 ≤ d1 ∧ d1 ≤ big.2) (c : big.1 ≤ k2 ∧ k2 ≤ big.2) (d : big.1 ≤ d2 ∧ d2 ≤ big.2) : VC base fSort1 [.agg #[iv k1, iv d1], .agg #[iv k2, iv d2]] (iv (cmpE (d1 - d2) (k1 - k2))) := by
  have hB : inB [big, big, big, big] [k1, d1, k2, d2] := inB_cons a.1 a.2 (inB_cons b.1 b.2 (inB_cons c.1 c.2 (inB_cons d.1 d.2 inB_nil)))
  have hz : zero 1 = false ∧ zero (-1) = false ∧ zero 0 = true := ⟨rfl, rfl, rfl⟩
  unfold cmpE
  rcases cmp3_cases (d1 - d2) with ⟨x1, x2⟩ | ⟨x1, x2⟩ | ⟨x1, x2⟩ <;> rcases cmp3_cases (k1 - k2) with ⟨y1, y2⟩ | ⟨y1, y2⟩ | ⟨y1, y2⟩
  all_goals
    first
      | rw [(zero_iff (d1 - d2)).2 x1]
      | rw [show zero (d1 - d2) = false by
          cases h : zero (d1 - d2) with
          | false => rfl
          | true => have := (zero_iff _).1 h; omega]
    have ch := allB_get (allB_get s_chk (cmp3 (d1 - d2)) (by rw [x2]; decide)) (cmp3 (k1 - k2)) (by rw [y2]; decide)
    rw [x2, y2] at ch
    have hr := (Base.ansB (V := vS (sF _ _)) base_fit (env_ok hB (by simp [sF, hz, Lin.den, denT, rho]; try omega) (by simp)) OkO.none ch rfl rfl).vc rfl rfl
    simp [sArg, hz, conc, conc1, conc0, den_l] at hr
    simp [Lin.den, denT, rho] at hr
    simp only [cond_true, cond_false, x2, y2]
    first
      | exact hr
      | (rw [show d1 = d2 by omega] at hr ⊢; exact hr)
      | (rw [show k1 = k2 by omega] at hr ⊢; exact hr)
      | (rw [show d1 = d2 by omega, show k1 = k2 by omega] at hr ⊢; exact hr)
/-- Two days told by the same week: how their events stand. -/
def inBig (V : Ab.Env) (e : Lin) : Bool := bif V.nonneg (e.add (.lit 1152921504606846976)) then V.nonneg ((Lin.lit 1152921504606846976).sub e) else false
theorem inBig_ok {V : Ab.Env} {ρ : Nat → Int} (hV : V.Ok ρ) {e : Lin} (h : inBig V e = true) : big.1 ≤ e.den ρ ∧ e.den ρ ≤ big.2 := by
  unfold inBig at h
  cases h1 : V.nonneg (e.add (.lit 1152921504606846976)) with
  | false => rw [h1] at h; cases h
  | true =>
    rw [h1] at h
    have a1 := nonneg_le hV h1
    have a2 := nonneg_le hV h
    rw [den_add, den_lit] at a1
    rw [den_sub, den_lit] at a2
    unfold big
    exact ⟨by simp only; omega, by simp only; omega⟩
def oSort (V : Ab.Env) : Oracle := fun f l => bif natIs f fSort1 then (match l with
  | [.agg [.int k1 a, .int k2 d1], .agg [.int k3 b, .int k4 d2]] =>
    bif IntKind.same k1 .i64 && (IntKind.same k2 .i64 && (IntKind.same k3 .i64 && IntKind.same k4 .i64)) then
      (bif (d1.sub d2).isLit && (a.isLit && b.isLit) then
        (bif inBig V d1 && (inBig V d2 && (inBig V a && inBig V b)) then some (iL (cmpE (d1.sub d2).c (a.c - b.c))) else none) else none) else none
  | _ => none) else none
theorem oSort_ok {V : Ab.Env} {ρ : Nat → Int} (hV : V.Ok ρ) : OkO base ρ (oSort V) := by
  intro f l r h
  unfold oSort at h
  cases hf : natIs f fSort1 with
  | false => rw [hf] at h; cases h
  | true =>
    rw [hf] at h
    simp only [cond_true] at h
    obtain rfl := natIs_eq hf
    split at h
    · rename_i k1 a k2 d1 k3 b k4 d2
      cases hk : IntKind.same k1 .i64 && (IntKind.same k2 .i64 && (IntKind.same k3 .i64 && IntKind.same k4 .i64)) with
      | false => rw [hk] at h; cases h
      | true =>
        rw [hk] at h
        simp only [Bool.and_eq_true] at hk
        obtain ⟨g1, g2, g3, g4⟩ := hk
        obtain rfl := IntKind.same_eq g1
        obtain rfl := IntKind.same_eq g2
        obtain rfl := IntKind.same_eq g3
        obtain rfl := IntKind.same_eq g4
        simp only [cond_true] at h
        cases hl : (d1.sub d2).isLit && (a.isLit && b.isLit) with
        | false => rw [hl] at h; cases h
        | true =>
          rw [hl] at h
          simp only [Bool.and_eq_true] at hl
          obtain ⟨l1, l2, l3⟩ := hl
          simp only [cond_true] at h
          cases hi : inBig V d1 && (inBig V d2 && (inBig V a && inBig V b)) with
          | false => rw [hi] at h; cases h
          | true =>
            rw [hi] at h
            simp only [Bool.and_eq_true] at hi
            obtain ⟨i1, i2, i3, i4⟩ := hi
            obtain rfl := Option.some.inj h
            have e1 := den_isLit (ρ := ρ) l1
            rw [den_sub] at e1
            have e2 := den_isLit (ρ := ρ) l2
            have e3 := den_isLit (ρ := ρ) l3
            refine (sort1_vc (a.den ρ) (d1.den ρ) (b.den ρ) (d2.den ρ) (inBig_ok hV i3) (inBig_ok hV i1) (inBig_ok hV i4) (inBig_ok hV i2)).ans rfl rfl rfl ?_
            simp only [conc, conc1, conc0, den_l]
            rw [e1, e2, e3]
    · cases h
end
end Go.Proofs.YtnikgcedifdaeaaGreatDoor.Sab
end

section
/- All events of a year, in plain words; what is to be checked. -/
set_option linter.unusedVariables false
set_option linter.unusedSimpArgs false
namespace Go.Proofs.YtnikgcedifdaeaaGreatDoor.Sab
open Go Go.Proofs.YtnikgcedifdaeaaGreatDoor.Ab
set_option maxRecDepth 100000
noncomputable section
abbrev fFast : Nat := 65
abbrev fChod : Nat := 66
abbrev fSpec : Nat := 67
abbrev fEvents : Nat := 24
def isI (a b : Int) : Bool := zero (a - b)
/-- By how many days. -/
def movedBy (k w : Int) : Int :=
  bif (isI k 2 || isI k 26 || isI k 27) && isI w 6 then 1 else bif isI k 19 && isI w 0 then 1 else bif isI k 21 && isI w 1 then 1 else
  bif (isI k 19 || isI k 21) && isI w 5 then -1 else bif (isI k 13 || isI k 16 || isI k 21) && isI w 6 then -2 else 0
def fastRows : List (Int × Nat × Int) := [(2, 1, 3), (10, 4, 10), (13, 6, 13), (16, 7, 14), (19, 7, 27), (21, 8, 5), (24, 8, 28), (26, 10, 17), (27, 11, 9)]
def fasts (t : Ty) : List Ev := evSort ((fastRows.map fun r =>
  let o := offD t r.2.1 false r.2.2
  let e := o + movedBy r.1 ((t.1 + o) % 7)
  bif isI r.1 21 then [(e, r.1), (e - 1, 20)] else [(e, r.1)]).flatten)
def chodAt : Bool → Int → List Int → List Ev
  | _, _, [] => []
  | b, a, x :: r => (bif b then [(a, 29)] else []) ++ (bif isI x 30 then [(a + 29, 29)] else []) ++ chodAt true (a + x) r
def chods (t : Ty) : List Ev := chodAt false 0 (lens t)
/-- Kind, month, day, from there on or up to it, further. -/
def specRows : List (Int × Nat × Int × Bool × Int) := [(35, 1, 3, true, 0), (30, 6, 1, false, 0), (31, 6, 13, false, 0), (32, 7, 1, false, -7), (33, 7, 1, false, 0), (34, 7, 14, false, 0), (36, 11, 9, false, 0), (37, 11, 9, false, 7)]
def specs (t : Ty) : List Ev := evSort (specRows.map fun r =>
  let o := offD t r.2.1 false r.2.2.1
  (o + (bif r.2.2.2.1 then (6 - (t.1 + o)) % 7 else -((t.1 + o - 6) % 7)) + r.2.2.2.2, r.1))
def evs (t : Ty) (pl : Int) : List Ev := evSort (feasts t pl ++ (fasts t ++ (chods t ++ specs t)))
def okFast (t : Ty) : Bool := isLR (rowEv t.1 (fasts t)) base.A0.next (base.goL vTy (orElse (memo (mOf t)) (orElse (oWeek vTy) (oSort vTy))) noL 400 fFast [yE 0])
def okChod (t : Ty) : Bool := isLR (rowEv t.1 (chods t)) base.A0.next (base.goL vTy (memo (mOf t)) noL 400 fChod [yE 0])
def okSpec (t : Ty) : Bool := isLR (rowEv t.1 (specs t)) base.A0.next (base.goL vTy (orElse (memo (mOf t)) (orElse (oWeek vTy) (oSort vTy))) noL 400 fSpec [yE 0])
def mlEv (t : Ty) (pl : Int) : LMemo := [(fFeast, [yE 0, iL pl], rowEv t.1 (feasts t pl)), (fFast, [yE 0], rowEv t.1 (fasts t)), (fChod, [yE 0], rowEv t.1 (chods t)), (fSpec, [yE 0], rowEv t.1 (specs t))]
def okEvs (t : Ty) : Bool := allB (fun pl => isLR (rowEv t.1 (evs t pl)) base.A0.next (base.goL vTy (oSort vTy) (memoL (mlEv t pl)) 2000 fEvents [yE 0, iL pl])) places
end
end Go.Proofs.YtnikgcedifdaeaaGreatDoor.Sab
end
