/- Texts of the proof, joined by a program (part 10): contracts of functions, plain laws. -/
import Derived.Test.YtnikgcedifdaeaaGreatDoorJRTorahK0
import Derived.Test.YtnikgcedifdaeaaGreatDoorJRTorahK1
import Derived.Test.YtnikgcedifdaeaaGreatDoorJRTorahK2
import Derived.Test.YtnikgcedifdaeaaGreatDoorJRTorahK3
import Derived.Test.YtnikgcedifdaeaaGreatDoorJR7
set_option linter.unusedVariables false
set_option linter.unusedSimpArgs false
set_option linter.unusedSectionVars false
section
/- The readings as a row; parts of a cycle. -/
set_option linter.unusedVariables false
set_option linter.unusedSimpArgs false
namespace Go.Proofs.YtnikgcedifdaeaaGreatDoor.Sab
open Go Go.Proofs.YtnikgcedifdaeaaGreatDoor.Ab
set_option maxRecDepth 100000
noncomputable section
theorem torah_chk : allB okTorah tyList = true :=
  allB_cons torah_chk_0 (allB_cons torah_chk_1 (allB_cons torah_chk_2 (allB_cons torah_chk_3 (allB_cons torah_chk_4 (allB_cons torah_chk_5 (allB_cons torah_chk_6 (allB_cons torah_chk_7 (allB_cons torah_chk_8 (allB_cons torah_chk_9 (allB_cons torah_chk_10 (allB_cons torah_chk_11 (allB_cons torah_chk_12 (allB_cons torah_chk_13 allB_nil)))))))))))))
def rdVals (f : Int) (l : List (Int × Int × Int)) : List Value := (l.map fun e => [iv e.1, iv e.2.1, iv (f + e.2.2)]).flatten
theorem pl_rds (c : Int) (l : List (Int × Int × Int)) : allB pl0 ((l.map fun e => [iL e.1, iL e.2.1, dE (c + e.2.2)]).flatten) = true := by
  induction l with
  | nil => rfl
  | cons a r ih => exact ih
theorem rds_conc (ρ : Nat → Int) (c f : Int) (l : List (Int × Int × Int)) (h : ∀ o, Lin.den ρ ⟨c + o, [(1, 7)]⟩ = f + o) : ((l.map fun e => [iL e.1, iL e.2.1, dE (c + e.2.2)]).flatten).map (conc0 ρ) = rdVals f l := by
  induction l with
  | nil => rfl
  | cons a r ih =>
    simp only [rdVals, List.map_cons, List.flatten_cons, List.cons_append, List.nil_append, conc0, den_l, h]
    congr 3
theorem mParts_ok {y : Int} {t : Ty} (h : YT y t) (h9 : y ≤ 9998) (l m : List Int) (hm : ∀ o ∈ m, -100000 ≤ o ∧ o ≤ 100000) : Memo.Ok base.P base.G (ry y l) (mParts t m) := by
  intro e he
  obtain ⟨o, ho, rfl⟩ := List.mem_map.1 he
  obtain ⟨f0, f1⟩ := first_bd y h.low (by omega)
  obtain ⟨o0, o1⟩ := hm o ho
  refine (part_vc h h9 (Cal.first y + o) (by omega) (by omega)).ans rfl rfl ?_ ?_
  · simp [conc1, conc0, den_y, den_f h]
  · simp [conc, conc1, conc0, den_l, partOf_eq]
theorem offs_bd {t : Ty} {pl : Int} (m : List Int) (h : allB (fun o => ile (-100000) o && ile o 100000) m = true) : ∀ o ∈ m, -100000 ≤ o ∧ o ≤ 100000 := by
  intro o ho
  have := allB_get h o ho
  simp only [Bool.and_eq_true, ile_iff] at this
  exact this
theorem free_bd : allB (fun t => allB (fun pl => allB (fun o => ile (-100000) o && ile o 100000) (freeOff t pl)) places) tyList = true := by decide +kernel
theorem torah_lvc {y : Int} {p : Ty × Ty} (h : YP y p) (h9 : y ≤ 9998) (pl : Int) (hp : pl ∈ places) : LVC base fTorah [iv y, iv pl] (rdVals (Cal.first y) (torahOff p.1 pl)) 29 3 (torahOff p.1 pl).length (some 0) false := by
  have c := allB_get (show allB (fun pl => isLR (rowR p.1 (torahOff p.1 pl)) base.A0.next (base.goL vCyc (memo (mTorah p.1 pl)) (memoL (mlTorah p.1 pl)) 400 fTorah [yE 0, iL pl])) places = true from of_ty torah_chk h.a) pl hp
  have hx : allB pl0 (rowR p.1 (torahOff p.1 pl)).cs = true := pl_rds _ _
  have hE : LMemo.Ok base.P base.G (ry y []) (mlTorah p.1 pl) := by
    refine .cons ((all_lvc h.a h9 pl hp).ans rfl (pl_row _ _) ?_ ?_) (.cons ((free_lvc h h9 pl hp).ans rfl (pl_row _ _) ?_ ?_) .nil)
    · simp [conc1, conc0, den_y, den_l]
    · simp [rowI, conc0, den_f h.a, Function.comp_def]
    · simp [conc1, conc0, den_y, den_l]
    · simp [rowI, conc0, den_f h.a, Function.comp_def]
  have hM : Memo.Ok base.P base.G (ry y []) (mTorah p.1 pl) := by
    refine .cons ((leap_vc y (by have := h.a.low; omega) (by omega)).ans rfl rfl ?_ ?_) (mParts_ok h.a h9 [] _ (offs_bd (t := p.1) (pl := pl) _ (allB_get (of_ty free_bd h.a) pl hp)))
    · simp [conc1, conc0, den_y]
    · simp [conc, conc1, conc0, den_l, h.a.leap]
  have := (Base.lansB base_fit (vCyc_ok h.a.low h9) (OkO.memo hM) (OkL.memo hE) c hx rfl).vc rfl hx
  have e := rds_conc (ry y []) p.1.1 (Cal.first y) (torahOff p.1 pl) (fun o => den_f h.a o [])
  simp only [rowR] at this
  rw [e] at this
  simpa [conc1, conc0, den_y, den_l] using this
end
end Go.Proofs.YtnikgcedifdaeaaGreatDoor.Sab
end

section
/- From the calendar's variables to those and the portions' names. Plain. -/
set_option linter.unusedVariables false
namespace Go.Proofs.YtnikgcedifdaeaaGreatDoor.Sab
open Go Go.Proofs.YtnikgcedifdaeaaGreatDoor.Ab
theorem glN {w : World} (h : baseN.G w) : base.G w := by
  intro x hx
  refine h x ?_
  have hx : x ∈ L_base := hx
  show x ∈ L_baseN
  simp only [L_base, L_baseN, List.mem_cons, List.not_mem_nil, or_false] at hx ⊢
  rcases hx with h | h
  · exact .inl h
  · exact .inr (.inl h)
theorem _root_.Go.Proofs.YtnikgcedifdaeaaGreatDoor.Ab.VC.toN {f : Nat} {vs : List Value} {r : Value} (h : VC base f vs r) : VC baseN f vs r := ⟨h.has, fun w hG => h.calls w (glN hG)⟩
theorem _root_.Go.Proofs.YtnikgcedifdaeaaGreatDoor.Ab.LVC.toN {f : Nat} {vs cells : List Value} {elem : TypeId} {sz n : Nat} {tup : Option Int} {opn : Bool} (h : LVC base f vs cells elem sz n tup opn) : LVC baseN f vs cells elem sz n tup opn := ⟨h.has, fun w hG => h.calls w (glN hG)⟩
end Go.Proofs.YtnikgcedifdaeaaGreatDoor.Sab
end

section
/- The example in the laws about readings. -/
set_option linter.unusedVariables false
set_option linter.unusedSimpArgs false
namespace Go.Proofs.YtnikgcedifdaeaaGreatDoor.Sab
open Go Go.Proofs.YtnikgcedifdaeaaGreatDoor.Ab
set_option maxRecDepth 100000
set_option maxHeartbeats 0
noncomputable section
abbrev fAwake : Nat := 12
abbrev fCycle : Nat := 41
def p84 : Ty × Ty := ((6, 0, true), (4, 2, false))
theorem f84 : Cal.first 5784 = 738779 := by decide +kernel
theorem yp84 : YP 5784 p84 := ⟨⟨by decide, by decide, by decide, by decide +kernel, by decide +kernel, by decide +kernel⟩, ⟨by decide, by decide, by decide, by decide +kernel, by decide +kernel, by decide +kernel⟩⟩
def rd84 : LR := ⟨((torahOff p84.1 0).map fun e => [iL e.1, iL e.2.1, iL (738779 + e.2.2)]).flatten, 29, 3, (torahOff p84.1 0).length, some 0, false⟩
theorem pl_rl (c : Int) (l : List (Int × Int × Int)) : allB pl0 ((l.map fun e => [iL e.1, iL e.2.1, iL (c + e.2.2)]).flatten) = true := by
  induction l with
  | nil => rfl
  | cons a r ih => exact ih
theorem rl_conc (ρ : Nat → Int) (f : Int) (l : List (Int × Int × Int)) : ((l.map fun e => [iL e.1, iL e.2.1, iL (f + e.2.2)]).flatten).map (conc0 ρ) = rdVals f l := by
  induction l with
  | nil => rfl
  | cons a r ih =>
    simp only [rdVals, List.map_cons, List.flatten_cons, List.cons_append, List.nil_append, conc0, den_l]
    congr 3
def vNo : Env := ⟨[], [], []⟩
theorem vNo_ok : vNo.Ok (rho []) := env_ok inB_nil (by simp) (by simp)
theorem cyc1_chk : isR (.tuple [iL 5784, iL 0]) (base.go vNo noO 400 fCycle [iL 738807, iL 0]) = true := by kernel_rfl
theorem cyc2_chk : isR (.tuple [iL 5784, iL 0]) (base.go vNo noO 400 fCycle [iL 738808, iL 0]) = true := by kernel_rfl
def mAwake : Memo := [(fCycle, [iL 738807, iL 0], .tuple [iL 5784, iL 0]), (fCycle, [iL 738808, iL 0], .tuple [iL 5784, iL 0])]
theorem awake_chk : isR (bL true) (baseN.goL vNo (memo mAwake) (memoL [(fTorah, [iL 5784, iL 0], rd84)]) 400 fAwake []) = true := by kernel_rfl
theorem awake_vc : VC baseN fAwake [] (.bool true) := by
  have c1 := (Base.ansB (ρ := rho []) base_fit vNo_ok OkO.none cyc1_chk rfl rfl).vc rfl rfl
  have c2 := (Base.ansB (ρ := rho []) base_fit vNo_ok OkO.none cyc2_chk rfl rfl).vc rfl rfl
  have hM : Memo.Ok baseN.P baseN.G (rho []) mAwake := .cons (c1.toN.ans rfl rfl rfl rfl) (.cons (c2.toN.ans rfl rfl rfl rfl) .nil)
  have hx : allB pl0 rd84.cs = true := pl_rl _ _
  have hL : LMemo.Ok baseN.P baseN.G (rho []) [(fTorah, [iL 5784, iL 0], rd84)] := by
    refine .cons (LVC.ans (x := rd84) (torah_lvc yp84 (by decide) 0 (by decide)).toN rfl hx ?_ ?_) .nil
    · simp [conc1, conc0, den_l]
    · rw [f84]
      exact (rl_conc _ _ _).symm
  have := (Base.ansL baseN_fit vNo_ok (OkO.memo hM) (OkL.memo hL) awake_chk rfl rfl).vc rfl rfl
  simpa [conc, conc1, conc0] using this
end
end Go.Proofs.YtnikgcedifdaeaaGreatDoor.Sab
end

section
/- The laws about readings: what is to be checked. -/
set_option linter.unusedVariables false
set_option linter.unusedSimpArgs false
namespace Go.Proofs.YtnikgcedifdaeaaGreatDoor.Sab
open Go Go.Proofs.YtnikgcedifdaeaaGreatDoor.Ab
set_option maxRecDepth 100000
noncomputable section
/-- The year, the first day's week, how often the argument went round, the same for the place. -/
def vLaw24 : Env := ⟨[(1, 9998), (-400000, 400000), (0, 6), (0, 127)], [], [(⟨-1, [(0, 1), (2, 9998)]⟩, 9998, 2)]⟩
def argY : AV := .int .u16 ⟨-1, [(0, 1), (2, 9998)]⟩
def argP (pl : Int) : AV := .int .u8 ⟨pl, [(3, 2)]⟩
def mAwk : Memo := [(fAwake, [], bL true)]
def lT (t : Ty) (pl : Int) : LMemo := [(fTorah, [yE 0, iL pl], rowR t (torahOff t pl))]
end
end Go.Proofs.YtnikgcedifdaeaaGreatDoor.Sab
end

section
/- The laws about readings: what they rest on holds. -/
set_option linter.unusedVariables false
set_option linter.unusedSimpArgs false
namespace Go.Proofs.YtnikgcedifdaeaaGreatDoor.Sab
open Go Go.Proofs.YtnikgcedifdaeaaGreatDoor.Ab
set_option maxRecDepth 100000
noncomputable section
theorem mAwk_ok (ρ : Nat → Int) : Memo.Ok baseN.P baseN.G ρ mAwk := .cons (awake_vc.ans rfl rfl rfl rfl) .nil
theorem lT_ok {y : Int} {p : Ty × Ty} (h : YP y p) (h9 : y ≤ 9998) (l : List Int) (pl : Int) (hp : pl ∈ places) : LAns baseN.P baseN.G (ry y l) fTorah [yE 0, iL pl] (rowR p.1 (torahOff p.1 pl)) := by
  have hx : allB pl0 (rowR p.1 (torahOff p.1 pl)).cs = true := pl_rds _ _
  refine LVC.ans (x := rowR p.1 (torahOff p.1 pl)) (torah_lvc h h9 pl hp).toN rfl hx ?_ ?_
  · simp [conc1, conc0, den_y, den_l]
  · exact (rds_conc (ry y l) p.1.1 (Cal.first y) _ (fun o => den_f h.a o l)).symm
theorem law24_ok {k q m : Int} (h0 : 1 ≤ k) (h1 : k ≤ 9998) (q0 : 0 ≤ q) (q1 : q ≤ 6) (m0 : 0 ≤ m) (m1 : m ≤ 127) : vLaw24.Ok (ry k [q, m]) := by
  obtain ⟨f0, f1⟩ := first_bd k h0 (by omega)
  exact env_ok (inB_cons h0 h1 (inB_cons (by omega) (by omega) (inB_cons q0 q1 (inB_cons m0 m1 inB_nil)))) (by simp [vLaw24]) (by
    simp [vLaw24, Lin.den, denT, ry, rho]
    omega)
end
end Go.Proofs.YtnikgcedifdaeaaGreatDoor.Sab
end
