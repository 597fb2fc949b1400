/- Texts of the proof, joined by a program (of one law): contracts of functions, plain laws. -/
import Derived.Test.YtnikgcedifdaeaaGreatDoorJQ7
set_option linter.unusedVariables false
set_option linter.unusedSimpArgs false
set_option linter.unusedSectionVars false
section
/- How two events stand: the answer of the closure by which they are sorted. -/
set_option linter.unusedVariables false
set_option linter.unusedSimpArgs false
namespace Go.Proofs.YtnikgcedifdaeaaGreatDoor.Sab
open Go Go.Proofs.YtnikgcedifdaeaaGreatDoor.Ab
set_option maxRecDepth 100000
noncomputable section
abbrev fSort1 : Nat := 121
def cmp3 (x : Int) : Int := bif zero x then 0 else bif ile 0 x then 1 else -1
def cmpE (d k : Int) : Int := bif zero d then cmp3 k else cmp3 d
def big : Int × Int := (-1152921504606846976, 1152921504606846976)
def vS (f : List Lin) : Ab.Env := ⟨[big, big, big, big], f, []⟩
def sArg (de ke : Bool) : List AV := [.agg [iE 0 [(0, 1)], iE 0 [(1, 1)]], .agg [iE 0 [(bif ke then 0 else 2, 1)], iE 0 [(bif de then 1 else 3, 1)]]]
def sF (d k : Int) : List Lin := (bif zero d then [] else [⟨-1, [(1, d), (3, -d)]⟩]) ++ (bif zero k then [] else [⟨-1, [(0, k), (2, -k)]⟩])
def three : List Int := [-1, 0, 1]
theorem s_chk : allB (fun d => allB (fun k => isR (iL (bif zero d then k else d)) (base.go (vS (sF d k)) noO 60 fSort1 (sArg (zero d) (zero k)))) three) three = true := by kernel_rfl
theorem cmp3_cases (x : Int) : (x = 0 ∧ cmp3 x = 0) ∨ (0 < x ∧ cmp3 x = 1) ∨ (x < 0 ∧ cmp3 x = -1) := by
  unfold cmp3
  by_cases e : x = 0
  · rw [(zero_iff x).2 e]
    exact .inl ⟨e, rfl⟩
  have z : zero x = false := by
    cases h : zero x with
    | false => rfl
    | true => exact absurd ((zero_iff x).1 h) e
  rw [z]
  by_cases f : 0 ≤ x
  · rw [ile_iff.2 f]
    exact .inr (.inl ⟨by omega, rfl⟩)
  · have : ile 0 x = false := by
      cases h : ile 0 x with
      | false => rfl
      | true => exact absurd (ile_iff.1 h) f
    rw [this]
    exact .inr (.inr ⟨by omega, rfl⟩)
theorem sort1_vc (k1 d1 k2 d2 : Int) (a : big.1 ≤ k1 ∧ k1 ≤ big.2) (b : big.1 ≤ d1 ∧ d1 ≤ big.2) (c : big.1 ≤ k2 ∧ k2 ≤ big.2) (d : big.1 ≤ d2 ∧ d2 ≤ big.2) : VC base fSort1 [.agg #[iv k1, iv d1], .agg #[iv k2, iv d2]] (iv (cmpE (d1 - d2) (k1 - k2))) := by
  have hB : inB [big, big, big, big] [k1, d1, k2, d2] := inB_cons a.1 a.2 (inB_cons b.1 b.2 (inB_cons c.1 c.2 (inB_cons d.1 d.2 inB_nil)))
  have hz : zero 1 = false ∧ zero (-1) = false ∧ zero 0 = true := ⟨rfl, rfl, rfl⟩
  unfold cmpE
  rcases cmp3_cases (d1 - d2) with ⟨x1, x2⟩ | ⟨x1, x2⟩ | ⟨x1, x2⟩ <;> rcases cmp3_cases (k1 - k2) with ⟨y1, y2⟩ | ⟨y1, y2⟩ | ⟨y1, y2⟩
  all_goals
    first
      | rw [(zero_iff (d1 - d2)).2 x1]
      | rw [show zero (d1 - d2) = false by
          cases h : zero (d1 - d2) with
          | false => rfl
          | true => have := (zero_iff _).1 h; omega]
    have ch := allB_get (allB_get s_chk (cmp3 (d1 - d2)) (by rw [x2]; decide)) (cmp3 (k1 - k2)) (by rw [y2]; decide)
    rw [x2, y2] at ch
    have hr := (Base.ansB (V := vS (sF _ _)) base_fit (env_ok hB (by simp [sF, hz, Lin.den, denT, rho]; try omega) (by simp)) OkO.none ch rfl rfl).vc rfl rfl
    simp [sArg, hz, conc, conc1, conc0, den_l] at hr
    simp [Lin.den, denT, rho] at hr
    simp only [cond_true, cond_false, x2, y2]
    first
      | exact hr
      | (rw [show d1 = d2 by omega] at hr ⊢; exact hr)
      | (rw [show k1 = k2 by omega] at hr ⊢; exact hr)
      | (rw [show d1 = d2 by omega, show k1 = k2 by omega] at hr ⊢; exact hr)
/-- Two days told by the same week: how their events stand. -/
def inBig (V : Ab.Env) (e : Lin) : Bool := bif V.nonneg (e.add (.lit 1152921504606846976)) then V.nonneg ((Lin.lit 1152921504606846976).sub e) else false
theorem inBig_ok {V : Ab.Env} {ρ : Nat → Int} (hV : V.Ok ρ) {e : Lin} (h : inBig V e = true) : big.1 ≤ e.den ρ ∧ e.den ρ ≤ big.2 := by
  unfold inBig at h
  cases h1 : V.nonneg (e.add (.lit 1152921504606846976)) with
  | false => rw [h1] at h; cases h
  | true =>
    rw [h1] at h
    have a1 := nonneg_le hV h1
    have a2 := nonneg_le hV h
    rw [den_add, den_lit] at a1
    rw [den_sub, den_lit] at a2
    unfold big
    exact ⟨by simp only; omega, by simp only; omega⟩
def oSort (V : Ab.Env) : Oracle := fun f l => bif natIs f fSort1 then (match l with
  | [.agg [.int k1 a, .int k2 d1], .agg [.int k3 b, .int k4 d2]] =>
    bif IntKind.same k1 .i64 && (IntKind.same k2 .i64 && (IntKind.same k3 .i64 && IntKind.same k4 .i64)) then
      (bif (d1.sub d2).isLit && (a.isLit && b.isLit) then
        (bif inBig V d1 && (inBig V d2 && (inBig V a && inBig V b)) then some (iL (cmpE (d1.sub d2).c (a.c - b.c))) else none) else none) else none
  | _ => none) else none
theorem oSort_ok {V : Ab.Env} {ρ : Nat → Int} (hV : V.Ok ρ) : OkO base ρ (oSort V) := by
  intro f l r h
  unfold oSort at h
  cases hf : natIs f fSort1 with
  | false => rw [hf] at h; cases h
  | true =>
    rw [hf] at h
    simp only [cond_true] at h
    obtain rfl := natIs_eq hf
    split at h
    · rename_i k1 a k2 d1 k3 b k4 d2
      cases hk : IntKind.same k1 .i64 && (IntKind.same k2 .i64 && (IntKind.same k3 .i64 && IntKind.same k4 .i64)) with
      | false => rw [hk] at h; cases h
      | true =>
        rw [hk] at h
        simp only [Bool.and_eq_true] at hk
        obtain ⟨g1, g2, g3, g4⟩ := hk
        obtain rfl := IntKind.same_eq g1
        obtain rfl := IntKind.same_eq g2
        obtain rfl := IntKind.same_eq g3
        obtain rfl := IntKind.same_eq g4
        simp only [cond_true] at h
        cases hl : (d1.sub d2).isLit && (a.isLit && b.isLit) with
        | false => rw [hl] at h; cases h
        | true =>
          rw [hl] at h
          simp only [Bool.and_eq_true] at hl
          obtain ⟨l1, l2, l3⟩ := hl
          simp only [cond_true] at h
          cases hi : inBig V d1 && (inBig V d2 && (inBig V a && inBig V b)) with
          | false => rw [hi] at h; cases h
          | true =>
            rw [hi] at h
            simp only [Bool.and_eq_true] at hi
            obtain ⟨i1, i2, i3, i4⟩ := hi
            obtain rfl := Option.some.inj h
            have e1 := den_isLit (ρ := ρ) l1
            rw [den_sub] at e1
            have e2 := den_isLit (ρ := ρ) l2
            have e3 := den_isLit (ρ := ρ) l3
            refine (sort1_vc (a.den ρ) (d1.den ρ) (b.den ρ) (d2.den ρ) (inBig_ok hV i3) (inBig_ok hV i1) (inBig_ok hV i4) (inBig_ok hV i2)).ans rfl rfl rfl ?_
            simp only [conc, conc1, conc0, den_l]
            rw [e1, e2, e3]
    · cases h
end
end Go.Proofs.YtnikgcedifdaeaaGreatDoor.Sab
end
