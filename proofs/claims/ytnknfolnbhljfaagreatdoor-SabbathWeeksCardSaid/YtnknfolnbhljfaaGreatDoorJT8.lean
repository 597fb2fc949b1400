/- Texts of the proof, joined by a program (part 8): contracts of functions, plain laws. -/
import Derived.Test.YtnknfolnbhljfaaGreatDoorJT6
import Derived.Test.YtnknfolnbhljfaaGreatDoorJTFreeK0
import Derived.Test.YtnknfolnbhljfaaGreatDoorJTFreeK1
import Derived.Test.YtnknfolnbhljfaaGreatDoorJTFreeK2
import Derived.Test.YtnknfolnbhljfaaGreatDoorJTFreeK3
set_option linter.unusedVariables false
set_option linter.unusedSimpArgs false
set_option linter.unusedSectionVars false
section
/- In which part of a cycle a day is. -/
set_option linter.unusedVariables false
set_option linter.unusedSimpArgs false
namespace Go.Proofs.YtnknfolnbhljfaaGreatDoor.Sab
open Go Go.Proofs.YtnknfolnbhljfaaGreatDoor.Ab
set_option maxRecDepth 100000
set_option maxHeartbeats 0
noncomputable section
abbrev fPart : Nat := 38
def b1 (t : Ty) : Int := offD t 7 false 15
def b2 (t : Ty) : Int := offD t 9 false 6
def b3 (t : Ty) : Int := offD t 11 false 10
/-- The begins, and what is known of the day between two of them: it is behind the first, ahead of the second. -/
def mPart (t : Ty) : Memo := [(fDay, [yE 0, iL 7, iL 15], dE (t.1 + b1 t)), (fDay, [yE 0, iL 9, iL 6], dE (t.1 + b2 t)), (fDay, [yE 0, iL 11, iL 10], dE (t.1 + b3 t)), (fDay, [yE 1, iL 1, iL 1], dE (t.1 + tyLen t))]
def fact0 (lo hi : Option Int) (w : Int) : List Lin := (match lo with | some o => [⟨-(w + o), [(1, -7), (2, 1)]⟩] | none => []) ++ (match hi with | some o => [⟨w + o - 1, [(1, 7), (2, -1)]⟩] | none => [])
def spans (t : Ty) : List (Int × Option Int × Option Int) := [(1, none, some (b1 t)), (2, some (b1 t), some (b2 t)), (3, some (b2 t), some (b3 t)), (4, some (b3 t), some (tyLen t)), (5, some (tyLen t), none)]
def vPart (t : Ty) (s : Int × Option Int × Option Int) : Env := ⟨[(1, 9998), (-400000, 400000), (-3000000000, 5000000000)], fact0 s.2.1 s.2.2 t.1, []⟩
theorem part_chk : allB (fun t => allB (fun s => isR (.tuple [iL s.1, iL 0]) (base.go (vPart t s) (memo (mPart t)) 60 fPart [yE 0, iE 0 [(2, 1)]])) (spans t)) tyList = true := by kernel_rfl
theorem offs_up : allB (fun t => ile (b1 t) (b2 t) && ile (b2 t) (b3 t) && ile (b3 t) (tyLen t)) tyList = true := by decide +kernel
/-- In which part a day is. -/
def partOf (f : Int) (t : Ty) (n : Int) : Int := 1 + (if f + b1 t ≤ n then 1 else 0) + (if f + b2 t ≤ n then 1 else 0) + (if f + b3 t ≤ n then 1 else 0) + (if f + tyLen t ≤ n then 1 else 0)
theorem one_of : (1, (1 : Int)) ∈ ends := by decide
theorem mPart_ok {y : Int} {t : Ty} (h : YT y t) (h1 : y ≤ 9998) (l : List Int) : Memo.Ok base.P base.G (ry y l) (mPart t) := by
  obtain ⟨t2, h2⟩ := yt_of (y + 1) (by have := h.low; omega) (by omega)
  have e1 := end_vc h2 (1, 1) one_of
  have o1 : offD t2 1 false 1 = 0 := by
    have : allB (fun t => zero (offD t 1 false 1)) tyList = true := by decide +kernel
    exact (zero_iff _).1 (allB_get this t2 h2.mem)
  refine .cons ((end_vc h (7, 15) (by decide)).ans rfl rfl ?_ ?_) (.cons ((end_vc h (9, 6) (by decide)).ans rfl rfl ?_ ?_) (.cons ((end_vc h (11, 10) (by decide)).ans rfl rfl ?_ ?_) (.cons (e1.ans rfl rfl ?_ ?_) .nil)))
  · simp [conc1, conc0, den_y, den_l]
  · simp [conc, conc1, conc0, den_f h, b1]
  · simp [conc1, conc0, den_y, den_l]
  · simp [conc, conc1, conc0, den_f h, b2]
  · simp [conc1, conc0, den_y, den_l]
  · simp [conc, conc1, conc0, den_f h, b3]
  · simp [conc1, conc0, den_y, den_l]
  · simp [conc, conc1, conc0, den_f h, o1, h.len]
theorem fact0_ok {y n : Int} {t : Ty} (h : YT y t) {lo hi : Option Int} (h1 : ∀ o, lo = some o → Cal.first y + o ≤ n) (h2 : ∀ o, hi = some o → n < Cal.first y + o) : ∀ f ∈ fact0 lo hi t.1, 0 ≤ f.den (ry y [n]) := by
  have hw := h.wd
  intro f hf
  unfold fact0 at hf
  rcases List.mem_append.1 hf with hf | hf
  · cases lo with
    | none => cases hf
    | some o =>
      obtain rfl : f = _ := by simpa using hf
      have := h1 o rfl
      simp [Lin.den, denT, ry, rho]
      omega
  · cases hi with
    | none => cases hf
    | some o =>
      obtain rfl : f = _ := by simpa using hf
      have := h2 o rfl
      simp [Lin.den, denT, ry, rho]
      omega
theorem part_vc {y : Int} {t : Ty} (h : YT y t) (h1 : y ≤ 9998) (n : Int) (n0 : -3000000000 ≤ n) (n1 : n ≤ 5000000000) : VC base fPart [iv y, iv n] (.tuple #[iv (partOf (Cal.first y) t n), iv 0]) := by
  obtain ⟨f0, f1⟩ := first_bd y h.low (by omega)
  have up := of_ty offs_up h
  simp only [Bool.and_eq_true, ile_iff] at up
  obtain ⟨⟨u1, u2⟩, u3⟩ := up
  have key : ∀ s ∈ spans t, (∀ o, s.2.1 = some o → Cal.first y + o ≤ n) → (∀ o, s.2.2 = some o → n < Cal.first y + o) → VC base fPart [iv y, iv n] (.tuple #[iv s.1, iv 0]) := by
    intro s hs a1 a2
    have a := Base.ansB (V := vPart t s) (ρ := ry y [n]) base_fit (env_ok (inB_cons h.low h1 (inB_cons (by omega) (by omega) (inB_cons n0 n1 inB_nil))) (fact0_ok h a1 a2) (by simp)) (OkO.memo (mPart_ok h h1 [n])) (allB_get (of_ty part_chk h) s hs) rfl rfl
    have := a.vc rfl rfl
    have e2 : Lin.den (ry y [n]) ⟨0, [(2, 1)]⟩ = n := by simp [Lin.den, denT, ry, rho]
    simpa [conc, conc1, conc0, den_y, den_l, e2] using this
  have pick : ∀ j : Int, partOf (Cal.first y) t n = j → VC base fPart [iv y, iv n] (.tuple #[iv j, iv 0]) → VC base fPart [iv y, iv n] (.tuple #[iv (partOf (Cal.first y) t n), iv 0]) := fun j e v => e ▸ v
  by_cases c1 : n < Cal.first y + b1 t
  · exact pick 1 (by unfold partOf; simp only [if_neg (show ¬ Cal.first y + b1 t ≤ n by omega), if_neg (show ¬ Cal.first y + b2 t ≤ n by omega), if_neg (show ¬ Cal.first y + b3 t ≤ n by omega), if_neg (show ¬ Cal.first y + tyLen t ≤ n by omega)]; rfl) (key (1, none, some (b1 t)) (by simp [spans]) (by simp) (by simpa using c1))
  by_cases c2 : n < Cal.first y + b2 t
  · exact pick 2 (by unfold partOf; simp only [if_pos (show Cal.first y + b1 t ≤ n by omega), if_neg (show ¬ Cal.first y + b2 t ≤ n by omega), if_neg (show ¬ Cal.first y + b3 t ≤ n by omega), if_neg (show ¬ Cal.first y + tyLen t ≤ n by omega)]; rfl) (key (2, some (b1 t), some (b2 t)) (by simp [spans]) (by simp; omega) (by simpa using c2))
  by_cases c3 : n < Cal.first y + b3 t
  · exact pick 3 (by unfold partOf; simp only [if_pos (show Cal.first y + b1 t ≤ n by omega), if_pos (show Cal.first y + b2 t ≤ n by omega), if_neg (show ¬ Cal.first y + b3 t ≤ n by omega), if_neg (show ¬ Cal.first y + tyLen t ≤ n by omega)]; rfl) (key (3, some (b2 t), some (b3 t)) (by simp [spans]) (by simp; omega) (by simpa using c3))
  by_cases c4 : n < Cal.first y + tyLen t
  · exact pick 4 (by unfold partOf; simp only [if_pos (show Cal.first y + b1 t ≤ n by omega), if_pos (show Cal.first y + b2 t ≤ n by omega), if_pos (show Cal.first y + b3 t ≤ n by omega), if_neg (show ¬ Cal.first y + tyLen t ≤ n by omega)]; rfl) (key (4, some (b3 t), some (tyLen t)) (by simp [spans]) (by simp; omega) (by simpa using c4))
  · exact pick 5 (by unfold partOf; simp only [if_pos (show Cal.first y + b1 t ≤ n by omega), if_pos (show Cal.first y + b2 t ≤ n by omega), if_pos (show Cal.first y + b3 t ≤ n by omega), if_pos (show Cal.first y + tyLen t ≤ n by omega)]; rfl) (key (5, some (tyLen t), none) (by simp [spans]) (by simp; omega) (by simp))
def partK (t : Ty) (o : Int) : Int := 1 + (bif ile (b1 t) o then 1 else 0) + (bif ile (b2 t) o then 1 else 0) + (bif ile (b3 t) o then 1 else 0) + (bif ile (tyLen t) o then 1 else 0)
theorem partOf_eq (f : Int) (t : Ty) (o : Int) : partOf f t (f + o) = partK t o := by
  have e : ∀ a : Int, (bif ile a o then (1 : Int) else 0) = if f + a ≤ f + o then 1 else 0 := by
    intro a
    cases h : ile a o with
    | true => rw [if_pos (by have := ile_iff.1 h; omega)]; rfl
    | false =>
      have : ¬ a ≤ o := fun hh => by rw [ile_iff.2 hh] at h; cases h
      rw [if_neg (by omega)]; rfl
  unfold partOf partK
  rw [e, e, e, e]
end
end Go.Proofs.YtnknfolnbhljfaaGreatDoor.Sab
end

section
/- The free Sabbaths as a row; the readings, in plain words; what is to be checked. -/
set_option linter.unusedVariables false
set_option linter.unusedSimpArgs false
namespace Go.Proofs.YtnknfolnbhljfaaGreatDoor.Sab
open Go Go.Proofs.YtnknfolnbhljfaaGreatDoor.Ab
set_option maxRecDepth 100000
noncomputable section
theorem allB_drop {α : Type} {p : α → Bool} {l : List α} (n : Nat) (h : allB p ((l.drop n).take 1) = true) (k : allB p (l.drop (n + 1)) = true) : allB p (l.drop n) = true :=
  allB_parts 1 h (by rw [List.drop_drop]; exact k)
theorem free_chk : allB okFree pairsL = true := by
  have e : pairsL.drop 37 = [] := by decide +kernel
  have h : allB okFree (pairsL.drop 37) = true := by rw [e]; rfl
  have := allB_drop 0 free_chk_0 (allB_drop 1 free_chk_1 (allB_drop 2 free_chk_2 (allB_drop 3 free_chk_3 (allB_drop 4 free_chk_4 (allB_drop 5 free_chk_5 (allB_drop 6 free_chk_6 (allB_drop 7 free_chk_7 (allB_drop 8 free_chk_8 (allB_drop 9 free_chk_9 (allB_drop 10 free_chk_10 (allB_drop 11 free_chk_11 (allB_drop 12 free_chk_12 (allB_drop 13 free_chk_13 (allB_drop 14 free_chk_14 (allB_drop 15 free_chk_15 (allB_drop 16 free_chk_16 (allB_drop 17 free_chk_17 (allB_drop 18 free_chk_18 (allB_drop 19 free_chk_19 (allB_drop 20 free_chk_20 (allB_drop 21 free_chk_21 (allB_drop 22 free_chk_22 (allB_drop 23 free_chk_23 (allB_drop 24 free_chk_24 (allB_drop 25 free_chk_25 (allB_drop 26 free_chk_26 (allB_drop 27 free_chk_27 (allB_drop 28 free_chk_28 (allB_drop 29 free_chk_29 (allB_drop 30 free_chk_30 (allB_drop 31 free_chk_31 (allB_drop 32 free_chk_32 (allB_drop 33 free_chk_33 (allB_drop 34 free_chk_34 (allB_drop 35 free_chk_35 (allB_drop 36 free_chk_36 (h)))))))))))))))))))))))))))))))))))))
  simpa using this
theorem free_lvc {y : Int} {p : Ty × Ty} (h : YP y p) (h9 : y ≤ 9998) (pl : Int) (hp : pl ∈ places) : LVC base fFree [iv y, iv pl] ((freeOff p.1 pl).map fun o => iv (Cal.first y + o)) 3 1 (freeOff p.1 pl).length (some 0) true := by
  have c := allB_get (show allB (fun pl => isLR (rowI p.1 (freeOff p.1 pl)) base.A0.next (base.goL vCyc noO (memoL (mlFree p pl)) 400 fFree [yE 0, iL pl])) places = true from of_pair free_chk h) pl hp
  have hx : allB pl0 (rowI p.1 (freeOff p.1 pl)).cs = true := pl_row _ _
  have hE : LMemo.Ok base.P base.G (ry y []) (mlFree p pl) := by
    refine .cons ((all_lvc h.a h9 pl hp).ans rfl (pl_row _ _) ?_ ?_) (.cons ((feast_lvc h.a pl hp).ans rfl (pl_evs _ _) ?_ ?_) (.cons ((feast_lvc h.b pl hp).ans rfl (pl_evs _ _) ?_ ?_) .nil))
    · simp [conc1, conc0, den_y, den_l]
    · simp [rowI, conc0, den_f h.a, Function.comp_def]
    · simp [conc1, conc0, den_y, den_l]
    · exact (evs_conc _ _ _ _ fun o => den_f h.a o []).symm
    · simp [conc1, conc0, den_y, den_l]
    · refine (evs_conc _ _ _ _ fun o => ?_).symm
      have := den_f h.a (tyLen p.1 + o) []
      rw [← Int.add_assoc] at this
      rw [this, h.a.len]
      omega
  have := (Base.lansB base_fit (vCyc_ok h.a.low h9) OkO.none (OkL.memo hE) c hx rfl).vc rfl hx
  simpa [rowI, conc1, conc0, den_y, den_f h.a, den_l, Function.comp_def] using this
abbrev fTorah : Nat := 15
def countP (t : Ty) (k : Int) : List Int → Int
  | [] => 0
  | o :: r => (bif zero (partK t o - k) then 1 else 0) + countP t k r
/-- The first portions of those that are read together. -/
def joined (few : Int) : List Int → List Int
  | [] => []
  | n :: r => bif ile 1 few then n :: joined (few - 1) r else []
def planOf (t : Ty) (l : List Int) : List Int :=
  let p1 := countP t 1 l
  let p2 := countP t 2 l
  let a := bif t.2.2 then [] else joined (25 - p1) [22] ++ joined (9 - p2) [27, 29, 32]
  let done := bif t.2.2 then p1 + p2 else 34
  a ++ joined (44 - done - countP t 3 l) [42, 39] ++ (bif zero (countP t 5 l - 1) then [51] else [])
/-- First, many, day. -/
def readings (plan free : List Int) : Int → List Int → List (Int × Int × Int)
  | _, [] => []
  | next, o :: r => bif elemI o free then (bif elemI next plan then (next, 2, o) :: readings plan free (next + 2) r else (next, 1, o) :: readings plan free (next + 1) r) else (0, 0, o) :: readings plan free next r
def torahOff (t : Ty) (pl : Int) : List (Int × Int × Int) := readings (planOf t (freeOff t pl)) (freeOff t pl) 1 (allOff t pl)
def rowR (t : Ty) (l : List (Int × Int × Int)) : LR := ⟨(l.map fun e => [iL e.1, iL e.2.1, dE (t.1 + e.2.2)]).flatten, 42, 3, l.length, some 0, false⟩
def mlTorah (t : Ty) (pl : Int) : LMemo := [(fAll, [yE 0, iL pl], rowI t (allOff t pl)), (fFree, [yE 0, iL pl], rowI t (freeOff t pl))]
def mParts (t : Ty) (l : List Int) : Memo := l.map fun o => (fPart, [yE 0, dE (t.1 + o)], .tuple [iL (partK t o), iL 0])
def mTorah (t : Ty) (pl : Int) : Memo := (fLeap, [yE 0], .tuple [bL t.2.2, iL 0]) :: mParts t (freeOff t pl)
def okTorah (t : Ty) : Bool := allB (fun pl => isLR (rowR t (torahOff t pl)) base.A0.next (base.goL vCyc (memo (mTorah t pl)) (memoL (mlTorah t pl)) 400 fTorah [yE 0, iL pl])) places
end
end Go.Proofs.YtnknfolnbhljfaaGreatDoor.Sab
end
