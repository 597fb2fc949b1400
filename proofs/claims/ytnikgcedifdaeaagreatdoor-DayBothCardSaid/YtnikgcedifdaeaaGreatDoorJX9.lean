/- Texts of the proof, joined by a program (part 9): contracts of functions, plain laws. -/
import Derived.Test.YtnikgcedifdaeaaGreatDoorJXFreeK0
import Derived.Test.YtnikgcedifdaeaaGreatDoorJXFreeK2
import Derived.Test.YtnikgcedifdaeaaGreatDoorJX7
import Derived.Below
import Derived.Deep.Draws
import Derived.OwnWalk
import Derived.Tactics
import Derived.WalkKit
import Derived.KernelRfl
import Derived.RowKit3
import Derived.Deep.LoopGhost
import Derived.Deep.QuietTactic
import Derived.BigQuiet
import Derived.WideLaws
import Derived.Deep.DeepCutAuto
import Derived.Deep.CutBlock
import Derived.Deep.RegionHeld3
import Derived.Laws.Rows
import Derived.OrdersHeld
import Derived.Outline
import Derived.IntWalk
import Derived.RegionTactic
import Derived.Lib.SmallJoins
set_option linter.unusedVariables false
set_option linter.unusedSimpArgs false
set_option linter.unusedSectionVars false
section
/- The free Sabbaths as a row; the readings, in plain words; what is to be checked. -/
set_option linter.unusedVariables false
set_option linter.unusedSimpArgs false
namespace Go.Proofs.YtnikgcedifdaeaaGreatDoor.Sab
open Go Go.Proofs.YtnikgcedifdaeaaGreatDoor.Ab
set_option maxRecDepth 100000
noncomputable section
theorem allB_drop {α : Type} {p : α → Bool} {l : List α} (n : Nat) (h : allB p ((l.drop n).take 1) = true) (k : allB p (l.drop (n + 1)) = true) : allB p (l.drop n) = true :=
  allB_parts 1 h (by rw [List.drop_drop]; exact k)
theorem free_chk : allB okFree pairsL = true := by
  have e : pairsL.drop 37 = [] := by decide +kernel
  have h : allB okFree (pairsL.drop 37) = true := by rw [e]; rfl
  have := allB_drop 0 free_chk_0 (allB_drop 1 free_chk_1 (allB_drop 2 free_chk_2 (allB_drop 3 free_chk_3 (allB_drop 4 free_chk_4 (allB_drop 5 free_chk_5 (allB_drop 6 free_chk_6 (allB_drop 7 free_chk_7 (allB_drop 8 free_chk_8 (allB_drop 9 free_chk_9 (allB_drop 10 free_chk_10 (allB_drop 11 free_chk_11 (allB_drop 12 free_chk_12 (allB_drop 13 free_chk_13 (allB_drop 14 free_chk_14 (allB_drop 15 free_chk_15 (allB_drop 16 free_chk_16 (allB_drop 17 free_chk_17 (allB_drop 18 free_chk_18 (allB_drop 19 free_chk_19 (allB_drop 20 free_chk_20 (allB_drop 21 free_chk_21 (allB_drop 22 free_chk_22 (allB_drop 23 free_chk_23 (allB_drop 24 free_chk_24 (allB_drop 25 free_chk_25 (allB_drop 26 free_chk_26 (allB_drop 27 free_chk_27 (allB_drop 28 free_chk_28 (allB_drop 29 free_chk_29 (allB_drop 30 free_chk_30 (allB_drop 31 free_chk_31 (allB_drop 32 free_chk_32 (allB_drop 33 free_chk_33 (allB_drop 34 free_chk_34 (allB_drop 35 free_chk_35 (allB_drop 36 free_chk_36 (h)))))))))))))))))))))))))))))))))))))
  simpa using this
theorem free_lvc {y : Int} {p : Ty × Ty} (h : YP y p) (h9 : y ≤ 9998) (pl : Int) (hp : pl ∈ places) : LVC base fFree [iv y, iv pl] ((freeOff p.1 pl).map fun o => iv (Cal.first y + o)) 3 1 (freeOff p.1 pl).length (some 0) true := by
  have c := allB_get (show allB (fun pl => isLR (rowI p.1 (freeOff p.1 pl)) base.A0.next (base.goL vCyc noO (memoL (mlFree p pl)) 400 fFree [yE 0, iL pl])) places = true from of_pair free_chk h) pl hp
  have hx : allB pl0 (rowI p.1 (freeOff p.1 pl)).cs = true := pl_row _ _
  have hE : LMemo.Ok base.P base.G (ry y []) (mlFree p pl) := by
    refine .cons ((all_lvc h.a h9 pl hp).ans rfl (pl_row _ _) ?_ ?_) (.cons ((feast_lvc h.a pl hp).ans rfl (pl_evs _ _) ?_ ?_) (.cons ((feast_lvc h.b pl hp).ans rfl (pl_evs _ _) ?_ ?_) .nil))
    · simp [conc1, conc0, den_y, den_l]
    · simp [rowI, conc0, den_f h.a, Function.comp_def]
    · simp [conc1, conc0, den_y, den_l]
    · exact (evs_conc _ _ _ _ fun o => den_f h.a o []).symm
    · simp [conc1, conc0, den_y, den_l]
    · refine (evs_conc _ _ _ _ fun o => ?_).symm
      have := den_f h.a (tyLen p.1 + o) []
      rw [← Int.add_assoc] at this
      rw [this, h.a.len]
      omega
  have := (Base.lansB base_fit (vCyc_ok h.a.low h9) OkO.none (OkL.memo hE) c hx rfl).vc rfl hx
  simpa [rowI, conc1, conc0, den_y, den_f h.a, den_l, Function.comp_def] using this
abbrev fTorah : Nat := 8
def countP (t : Ty) (k : Int) : List Int → Int
  | [] => 0
  | o :: r => (bif zero (partK t o - k) then 1 else 0) + countP t k r
/-- The first portions of those that are read together. -/
def joined (few : Int) : List Int → List Int
  | [] => []
  | n :: r => bif ile 1 few then n :: joined (few - 1) r else []
def planOf (t : Ty) (l : List Int) : List Int :=
  let p1 := countP t 1 l
  let p2 := countP t 2 l
  let a := bif t.2.2 then [] else joined (25 - p1) [22] ++ joined (9 - p2) [27, 29, 32]
  let done := bif t.2.2 then p1 + p2 else 34
  a ++ joined (44 - done - countP t 3 l) [42, 39] ++ (bif zero (countP t 5 l - 1) then [51] else [])
/-- First, many, day. -/
def readings (plan free : List Int) : Int → List Int → List (Int × Int × Int)
  | _, [] => []
  | next, o :: r => bif elemI o free then (bif elemI next plan then (next, 2, o) :: readings plan free (next + 2) r else (next, 1, o) :: readings plan free (next + 1) r) else (0, 0, o) :: readings plan free next r
def torahOff (t : Ty) (pl : Int) : List (Int × Int × Int) := readings (planOf t (freeOff t pl)) (freeOff t pl) 1 (allOff t pl)
def rowR (t : Ty) (l : List (Int × Int × Int)) : LR := ⟨(l.map fun e => [iL e.1, iL e.2.1, dE (t.1 + e.2.2)]).flatten, 29, 3, l.length, some 0, false, none⟩
def mlTorah (t : Ty) (pl : Int) : LMemo := [(fAll, [yE 0, iL pl], rowI t (allOff t pl)), (fFree, [yE 0, iL pl], rowI t (freeOff t pl))]
def mParts (t : Ty) (l : List Int) : Memo := l.map fun o => (fPart, [yE 0, dE (t.1 + o)], .tuple [iL (partK t o), iL 0])
def mTorah (t : Ty) (pl : Int) : Memo := (fLeap, [yE 0], .tuple [bL t.2.2, iL 0]) :: mParts t (freeOff t pl)
def okTorah (t : Ty) : Bool := allB (fun pl => isLR (rowR t (torahOff t pl)) base.A0.next (base.goL vCyc (memo (mTorah t pl)) (memoL (mlTorah t pl)) 400 fTorah [yE 0, iL pl])) places
end
end Go.Proofs.YtnikgcedifdaeaaGreatDoor.Sab
end

section
/- The year of a day: a binary search, walked over the shadow program. -/
namespace Go.Proofs.YtnikgcedifdaeaaGreatDoor.Sab
open Go Go.RowKit Go.Proofs.YtnikgcedifdaeaaGreatDoor.Ab Go.Proofs.YtnikgcedifdaeaaGreatDoor.Lift
set_option linter.unusedVariables false
set_option linter.unusedSimpArgs false
/-- A fact that stands aside. -/
structure Aside0 (p : Prop) : Prop where
  out : p
theorem sRefl (w : World) : Same w w := ⟨fun _ _ => rfl, Nat.le_refl _, rfl, rfl, rfl, Nat.le_refl _⟩
theorem sTrans {w v u : World} (a : Same w v) (b : Same v u) : Same w u :=
  ⟨fun c hc => (b.heap c (Nat.lt_of_lt_of_le hc a.size)).trans (a.heap c hc), Nat.le_trans a.size b.size, b.tape.trans a.tape, b.os.trans a.os, b.output.trans a.output, Nat.le_trans a.drawn b.drawn⟩
theorem sDrew (w : World) : Same w w.drew := ⟨fun _ _ => rfl, Nat.le_refl _, rfl, rfl, rfl, Nat.le_succ _⟩
theorem sAlloc (w : World) (o : Obj) : Same w (w.alloc o) :=
  have b : Below w.heap.size w (w.alloc o) := (Below.refl _ _).alloc (Nat.le_refl _) o
  ⟨fun c hc => b.block c hc, b.size, b.tape, b.os, b.output, Nat.le_refl _⟩
theorem sCell {W V : World} {g : Nat} {u : Value} (h : W.cell? ⟨g, 0, none⟩ = some u) (hb : Same W V) : V.cell? ⟨g, 0, none⟩ = some u := by
  by_cases c : g < W.heap.size
  · have e := hb.heap g c
    unfold World.cell? at h ⊢
    simp only [e]
    exact h
  · exfalso
    have : W.heap[g]? = none := by simp; omega
    simp [World.cell?, this] at h
/-- The shadow's types are the program's. -/
theorem sh_under (P : Program) (fU : Nat) (stub : Func) (t : TypeId) : (shadow P fU stub).underlying t = P.underlying t := rfl
theorem sp_under (t : TypeId) : SP.underlying t = Tryz.prog.underlying t := sh_under _ _ _ _
theorem sp_int : SP.underlying 3 = Tryz.prog.underlying 3 := sh_under _ _ _ _
theorem sp_agg (w : World) : Sem.run SP (isAgg 3) w = .ok false w := run_agg (sp_int.trans Tryz.underlying3)
attribute [local go_sem] sp_under sp_agg
/-- What the shadow has of a function that is kept. -/
theorem sp_search : SP.funcs[136]? = some Tryz.f136 := keep136.1
theorem sp_close : SP.funcs[137]? = some Tryz.f137 := keep137.1
theorem sp_year : SP.funcs[94]? = some Tryz.f94 := keep94.1
theorem sp_enter {f : FuncId} {fn : Func} (hf : SP.funcs[f]? = some fn) (hname : (fn.name == "runtime.NumGoroutine") = false) (hb : fn.body.isSome = true) (args : Array Value) (w : World) : (callFunc f args).run SP w = .ok (.enter f args) w := by
  have h1 : fn.name ≠ "runtime.NumGoroutine" := by simpa using hname
  obtain ⟨c, hc⟩ := Option.isSome_iff_exists.1 hb
  simp [callFunc, hf, h1, hc]
/-- Binary search for the least number at which b says true; the numbers from N on say so, too. -/
def up (y : Int) (h : Int) : Bool := decide (y ≤ h)
set_option maxHeartbeats 4000000 in
set_option maxRecDepth 100000 in
theorem sort_search (y : Int) (c : Nat) (ad : Addr) (N : Int) (y0 : 0 ≤ y) (hy : y ≤ N) (hN1 : N ≤ 20000) (w : World) (hc : ∀ args W, (callFunc c args).run SP W = .ok (.enter c args) W)
    (hp : ∀ W h, Same w W → 0 ≤ h → h < N → Calls SP c #[.int .i64 h, .pointer (some ad)] W fun e w' => e = .returned (.bool (decide (y ≤ h))) ∧ Same W w') :
    Calls SP 136 #[.int .i64 N, .func (.func c) #[] #[.pointer (some ad)]] w fun e w' => e = .returned (.int .i64 y) ∧ Same w w' := by
  have HP := Aside0.mk hp
  have HC := Aside0.mk hc
  clear hp hc
  go_enter sp_search, Tryz.ntmps136
  go_wp2_with fail
  go_loopw [5, 6] (fun s5 s6 wr => ∃ (i j : Int), 0 ≤ i ∧ i ≤ y ∧ y ≤ j ∧ j ≤ N ∧ s5 = .int .i64 i ∧ s6 = .int .i64 j ∧ Aside0 (Same w wr)) (fun s5 s6 _ => (intOf s6).toNat - (intOf s5).toNat)
  case atStart => exact ⟨0, N, by omega, y0, hy, by omega, rfl, rfl, ⟨sRefl w⟩⟩
  case round =>
    obtain ⟨i, j, h0, h1, h2, h3, rfl, rfl, HB⟩ := hrel
    by_cases hlt : i < j
    · have HCALL := Aside0.mk (HP.out wr ((i + j) / 2) HB.out (by omega) (by omega))
      go_wp2_with fail
      rw [HC.out, Oper.upon_enter]
      refine HCALL.out.mono ?_
      rintro e W1 ⟨rfl, hb1⟩
      have HB2 : Aside0 (Same w W1) := ⟨sTrans HB.out hb1⟩
      clear hb1 HB HCALL
      by_cases hq : y ≤ (i + j) / 2
      · rw [decide_eq_true hq]
        go_wp2_with fail
        go_round
        case measure => simp [intOf]; omega
        case rel => exact ⟨i, (i + j) / 2, h0, h1, hq, by omega, rfl, rfl, HB2⟩
      · rw [decide_eq_false hq]
        go_wp2_with fail
        go_round
        case measure => simp [intOf]; omega
        case rel => exact ⟨(i + j) / 2 + 1, j, by omega, by omega, h2, h3, by go_num, rfl, HB2⟩
    · have HE := Aside0.mk (show i = y by omega)
      go_wp2_with fail
      go_ret
      exact ⟨by first | rfl | (rw [HE.out]; rfl), HB.out⟩
abbrev fBegins : Nat := 138
abbrev fYear : Nat := 94
set_option maxHeartbeats 4000000 in
set_option maxRecDepth 100000 in
theorem year_closure (n y v : Int) (g : Nat) (W : World) (hc : W.cell? ⟨g, 0, none⟩ = some (.int .i64 n)) (y0 : 0 ≤ y) (y1 : y ≤ 9999) (HB : Aside0 (∀ V, Same W V → Calls SP fBegins #[.int .i64 (y + 1)] V fun e w' => e = .returned (.int .i64 v) ∧ Same V w')) :
    Calls SP 137 #[.int .i64 y, .pointer (some ⟨g, 0, none⟩)] W fun e w' => e = .returned (.bool (decide (v > n))) ∧ Same W w' := by
  have HC := Aside0.mk hc
  have hw : IntKind.i64.wrap (y + 1) = y + 1 := by unfold IntKind.wrap; simp [IntKind.signed, IntKind.bits]; omega
  clear hc
  go_enter sp_close, Tryz.ntmps137
  go_upto_region 1 with fail
  go_cut [3] (fun v3 wc => v3 = .bool (decide (v > n)) ∧ Aside0 (Same W wc))
  case first =>
    go_region_held3 (fun V => Same W V ∧ V.cell? ⟨g, 0, none⟩ = some (.int .i64 n)) (first | (have hz_ : Same W W.drew := sDrew W; exact ⟨hz_, sCell HC.out hz_⟩) | (have hz_ := sTrans (And.left (by assumption)) hb; exact ⟨hz_, sCell HC.out hz_⟩)) (first | (rw [sp_enter keep138.1 rfl rfl, Oper.upon_enter]; refine (HB.out _ (by first | exact sDrew W | exact And.left (by assumption))).mono ?_; rintro e w' ⟨rfl, hb⟩))
    have HD := Aside0.mk (And.left (‹Same W _ ∧ _›))
    go_wp2_with fail
    go_meet
    case rel => exact ⟨rfl, HD⟩
  case rest =>
    obtain ⟨rfl, HD⟩ := hcut
    go_wp2_with fail
    go_ret
    exact ⟨rfl, HD.out⟩
end Go.Proofs.YtnikgcedifdaeaaGreatDoor.Sab
end

section
/- The year of a day: what it answers. -/
namespace Go.Proofs.YtnikgcedifdaeaaGreatDoor.Sab
open Go Go.RowKit Go.Proofs.YtnikgcedifdaeaaGreatDoor.Ab Go.Proofs.YtnikgcedifdaeaaGreatDoor.Lift
set_option linter.unusedVariables false
set_option linter.unusedSimpArgs false
set_option maxRecDepth 100000
attribute [local go_sem] sp_under sp_agg
noncomputable section
theorem sG {w v : World} (h : base.G w) (s : Same w v) : base.G v := fun x hx => (s.heap _ (Array.getElem?_eq_some_iff.1 (h x hx)).1).trans (h x hx)
theorem long_pos : allB (fun t => ile 353 (tyLen t)) tyList = true := by decide +kernel
theorem first_step {y : Int} (h0 : 1 ≤ y) (h1 : y ≤ 9999) : Cal.first y + 353 ≤ Cal.first (y + 1) := by
  obtain ⟨t, ht⟩ := yt_of y h0 h1
  have := of_ty long_pos ht
  rw [ile_iff] at this
  have := ht.len
  omega
theorem first_up (k : Nat) : ∀ (a : Int), 1 ≤ a → a + k ≤ 10000 → Cal.first a + 353 * k ≤ Cal.first (a + k) := by
  induction k with
  | zero => intro a _ _; simp
  | succ k ih =>
    intro a h0 h1
    have := ih a h0 (by omega)
    have := first_step (y := a + k) (by omega) (by omega)
    rw [show a + ((k + 1 : Nat) : Int) = a + k + 1 by omega]
    omega
theorem first_le {a b : Int} (h0 : 1 ≤ a) (h : a ≤ b) (h1 : b ≤ 10000) : Cal.first a ≤ Cal.first b := by
  have := first_up (b - a).toNat a h0 (by omega)
  rw [show a + ((b - a).toNat : Int) = b by omega] at this
  omega
def vBeg : Ab.Env := ⟨[(1, 10000), (-1373427, 2300000)], [], []⟩
def mBeg : Memo := [(fFirst, [iE 0 [(0, 1)]], .tuple [iE 0 [(1, 1)], iL 0])]
theorem begins_chk : isR (iE 0 [(1, 1)]) (base.go vBeg (memo mBeg) 60 fBegins [iE 0 [(0, 1)]]) = true := by kernel_rfl
theorem begins_vc (y : Int) (h0 : 1 ≤ y) (h1 : y ≤ 10000) : VC base fBegins [iv y] (iv (Cal.first y)) := by
  obtain ⟨f0, f1⟩ := first_bd y h0 h1
  have hE : Memo.Ok base.P base.G (rho [y, Cal.first y]) mBeg := by
    refine .cons ((first_vc y h0 h1).ans rfl rfl ?_ ?_) .nil
    all_goals simp [conc, conc1, conc0, Lin.den, denT, rho, Lin.lit]
  have := (Base.ansB (V := vBeg) (ρ := rho [y, Cal.first y]) base_fit (env_ok (inB_cons h0 h1 (inB_cons f0 f1 inB_nil)) (by simp [vBeg]) (by simp [vBeg])) (OkO.memo hE) begins_chk rfl rfl).vc rfl rfl
  simpa [conc, conc1, conc0, Lin.den, denT, rho] using this
abbrev fLast : Nat := 135
def vNone : Ab.Env := ⟨[], [], []⟩
def lastD : Int := 2278650
theorem first_last : Cal.first 10000 = lastD + 1 := by decide +kernel
theorem last_chk : isR (iL lastD) (base.go vNone (memo [(fBegins, [iL 10000], iL (lastD + 1))]) 60 fLast []) = true := by kernel_rfl
theorem last_vc : VC base fLast [] (iv lastD) := by
  have hE : Memo.Ok base.P base.G (rho []) [(fBegins, [iL 10000], iL (lastD + 1))] := by
    refine .cons ((begins_vc 10000 (by decide) (by decide)).ans rfl rfl ?_ ?_) .nil
    · simp [conc1, conc0, den_l]
    · simp [conc, conc1, conc0, den_l, first_last]
  have := (Base.ansB (V := vNone) (ρ := rho []) base_fit (env_ok inB_nil (by simp [vNone]) (by simp [vNone])) (OkO.memo hE) last_chk rfl rfl).vc rfl rfl
  simpa [conc, conc1, conc0, den_l] using this
end
set_option maxHeartbeats 4000000 in
set_option maxRecDepth 100000 in
theorem year_calls (y n : Int) (y0 : 1 ≤ y) (y1 : y ≤ 9999) (n0 : Cal.first y ≤ n) (n1 : n < Cal.first (y + 1)) (w : World) (hG : base.G w) :
    Calls SP fYear #[.int .i64 n] w fun e w' => e = .returned (.tuple #[.int .i64 y, .int .i64 0]) ∧ Same w w' := by
  have HB0 := Aside0.mk (sAlloc w (Obj.cells #[.int .i64 n] 3))
  have HC0 := Aside0.mk (show (w.alloc (Obj.cells #[.int .i64 n] 3)).cell? ⟨w.heap.size, 0, none⟩ = some (.int .i64 n) from (cell_of_row _ _ 0 #[.int .i64 n] 3 (0, 0) (heap_alloc_new w _)).trans rfl)
  have HG := Aside0.mk (sG hG HB0.out)
  have hlow : -1373427 ≤ n := Int.le_trans (first_bd y y0 (by omega)).1 n0
  have htop : n ≤ lastD := by
    have := first_le (a := y + 1) (b := 10000) (by omega) (by omega) (by omega)
    rw [first_last] at this
    omega
  have HS := Aside0.mk (fun (h : Int) (h0 : 0 ≤ h) (h1 : h < 10000) => show decide (Cal.first (h + 1) > n) = decide (y ≤ h) from by
    rw [decide_eq_decide]
    constructor
    · intro hh
      refine Int.not_lt.1 fun hlt => ?_
      have := first_le (a := h + 1) (b := y) (by omega) (by omega) (by omega)
      omega
    · intro hh
      have := first_le (a := y + 1) (b := h + 1) (by omega) (by omega) (by omega)
      omega)
  have HL : Aside0 (∀ V, base.G V → Calls SP fLast #[] V fun e w' => e = .returned (.int .i64 lastD) ∧ Same V w') := ⟨fun V hV => last_vc.calls V hV⟩
  have HBG : Aside0 (∀ V (h : Int), base.G V → 1 ≤ h → h ≤ 10000 → Calls SP fBegins #[.int .i64 h] V fun e w' => e = .returned (.int .i64 (Cal.first h)) ∧ Same V w') := ⟨fun V h hV h0 h1 => (begins_vc h h0 h1).calls V hV⟩
  clear hG n0 n1
  have b1 : decide (n < -1373427) = false := decide_eq_false (by omega)
  have b2 : decide (n > lastD) = false := decide_eq_false (by omega)
  go_enter sp_year, Tryz.ntmps94
  go_upto_region 1 with fail
  generalize w.alloc (Obj.cells #[.int .i64 n] 3) = W at HB0 HC0 HG ⊢
  go_cut [10] (fun v10 wc => v10 = .bool false ∧ Aside0 (Same W wc))
  case first =>
    go_region_held3 (fun V => Same W V ∧ V.cell? ⟨w.heap.size, 0, none⟩ = some (.int .i64 n)) (first | (have hz_ : Same W W.drew := sDrew W; exact ⟨hz_, sCell HC0.out hz_⟩) | (have hz_ := sTrans (And.left (by assumption)) hb; exact ⟨hz_, sCell HC0.out hz_⟩)) (first | (rw [sp_enter keep135.1 rfl rfl, Oper.upon_enter]; refine (HL.out _ (sG HG.out (by first | exact sDrew W | exact And.left (by assumption)))).mono ?_; rintro e w' ⟨rfl, hb⟩))
    have HD := Aside0.mk (And.left (‹Same W _ ∧ _›))
    go_wp2_with fail
    go_meet
    case rel => exact ⟨by first | rfl | simp [b1, b2], HD⟩
  case rest =>
    obtain ⟨rfl, HD⟩ := hcut
    have HX := Aside0.mk (sCell HC0.out HD.out)
    have HSR := Aside0.mk (sort_search y 137 ⟨w.heap.size, 0, none⟩ 10000 (by omega) (by omega) (by omega) wc
      (fun args V => sp_enter sp_close rfl rfl args V)
      (fun V h hV h0 h1 => by
        have := year_closure n h (Cal.first (h + 1)) w.heap.size V (sCell HX.out hV) h0 (by omega) ⟨fun U hU => HBG.out U (h + 1) (sG HG.out (sTrans HD.out (sTrans hV hU))) (by omega) (by omega)⟩
        rw [HS.out h h0 h1] at this
        exact this))
    go_wp2_with fail
    rw [sp_enter sp_search rfl rfl, Oper.upon_enter]
    refine HSR.out.mono ?_
    rintro e W2 ⟨rfl, hb⟩
    have HB2 := Aside0.mk (sTrans HD.out hb)
    clear hb
    go_wp2_with fail
    go_ret2
    exact ⟨rfl, sTrans HB0.out HB2.out⟩
theorem year_vc (y n : Int) (y0 : 1 ≤ y) (y1 : y ≤ 9999) (n0 : Cal.first y ≤ n) (n1 : n < Cal.first (y + 1)) : VC base fYear [iv n] (.tuple #[iv y, iv 0]) :=
  ⟨⟨_, _, keep94.1, keep94.2, rfl⟩, fun w hG => year_calls y n y0 y1 n0 n1 w hG⟩
end Go.Proofs.YtnikgcedifdaeaaGreatDoor.Sab
end

section
/- The Gregorian calendar: what its least functions answer. -/
set_option linter.unusedVariables false
set_option linter.unusedSimpArgs false
namespace Go.Proofs.YtnikgcedifdaeaaGreatDoor.Sab
open Go Go.Proofs.YtnikgcedifdaeaaGreatDoor.Ab
set_option maxRecDepth 100000
noncomputable section
abbrev fEDiv : Nat := 190
abbrev fEMod : Nat := 99
abbrev fGDown : Nat := 145
abbrev fGBeg : Nat := 102
abbrev fGYear : Nat := 101
abbrev fGLeap : Nat := 146
abbrev fGIn : Nat := 100
abbrev fGFrom : Nat := 53
def ks : List Int := [4, 100, 400, 146097]
def vDP (k : Int) : Ab.Env := ⟨[(0, 10000000), (0, k - 1)], [], [(⟨0, [(0, k), (1, 1)]⟩, k.toNat, 0)]⟩
def vDN (k : Int) : Ab.Env := ⟨[(0, 10000000), (1, k - 1)], [], [(⟨k, [(0, k), (1, -1)]⟩, k.toNat, 0)]⟩
def vDZ : Ab.Env := ⟨[(-10000000, -1)], [], []⟩
def okDiv (k : Int) : Bool :=
  isR (.tuple [iE 0 [(0, 1)], iL 0]) (base.go (vDP k) noO 60 fEDiv [iE 0 [(0, k), (1, 1)], iL k]) && isR (.tuple [iE 0 [(1, 1)], iL 0]) (base.go (vDP k) noO 60 fEMod [iE 0 [(0, k), (1, 1)], iL k]) &&
  (isR (.tuple [iE (-1) [(0, -1)], iL 0]) (base.go (vDN k) noO 60 fEDiv [iE (-k) [(0, -k), (1, 1)], iL k]) && isR (.tuple [iE 0 [(1, 1)], iL 0]) (base.go (vDN k) noO 60 fEMod [iE (-k) [(0, -k), (1, 1)], iL k])) &&
  (isR (.tuple [iE 0 [(0, 1)], iL 0]) (base.go vDZ noO 60 fEDiv [iE 0 [(0, k)], iL k]) && isR (.tuple [iL 0, iL 0]) (base.go vDZ noO 60 fEMod [iE 0 [(0, k)], iL k]))
theorem div_chk : allB okDiv ks = true := by kernel_rfl
theorem div_both (k : Int) (hk : k ∈ ks) (a : Int) (a0 : -30000000 ≤ a) (a1 : a ≤ 30000000) : VC base fEDiv [iv a, iv k] (.tuple #[iv (a / k), iv 0]) ∧ VC base fEMod [iv a, iv k] (.tuple #[iv (a % k), iv 0]) := by
  have c := allB_get div_chk k hk
  simp only [okDiv, Bool.and_eq_true] at c
  obtain ⟨⟨⟨p1, p2⟩, n1, n2⟩, z1, z2⟩ := c
  simp only [ks, List.mem_cons, List.not_mem_nil, or_false] at hk
  have hk2 : 4 ≤ k := by omega
  have hkn : (k.toNat : Int) = k := by omega
  have h1 : a = k * (a / k) + a % k := by have := Int.emod_def a k; omega
  have h2 : 0 ≤ a % k := Int.emod_nonneg a (by omega)
  have h3 : a % k < k := Int.emod_lt_of_pos a (by omega)
  have hq : -10000000 ≤ a / k ∧ a / k ≤ 10000000 := by rcases hk with rfl | rfl | rfl | rfl <;> omega
  generalize a / k = q at *
  generalize a % k = r at *
  subst h1
  by_cases hs : 0 ≤ q
  · have hV : (vDP k).Ok (rho [q, r]) := env_ok (inB_cons hs (by omega) (inB_cons h2 (by omega) inB_nil)) (by simp [vDP]) (by
      simp [vDP, Lin.den, denT, rho]
      refine ⟨by omega, ?_⟩
      rw [show max k 0 = k by omega, show k * q + r = r + k * q by omega, Int.add_mul_ediv_left _ _ (by omega), Int.ediv_eq_zero_of_lt h2 h3]
      omega)
    constructor
    · have := (Base.ansB base_fit hV OkO.none p1 rfl rfl).vc rfl rfl
      simpa [conc, conc1, conc0, Lin.den, denT, rho, Lin.lit] using this
    · have := (Base.ansB base_fit hV OkO.none p2 rfl rfl).vc rfl rfl
      simpa [conc, conc1, conc0, Lin.den, denT, rho, Lin.lit] using this
  by_cases hr : r = 0
  · subst hr
    have hV : vDZ.Ok (rho [q]) := env_ok (inB_cons hq.1 (by omega) inB_nil) (by simp [vDZ]) (by simp [vDZ])
    constructor
    · have := (Base.ansB base_fit hV OkO.none z1 rfl rfl).vc rfl rfl
      simpa [conc, conc1, conc0, Lin.den, denT, rho, Lin.lit] using this
    · have := (Base.ansB base_fit hV OkO.none z2 rfl rfl).vc rfl rfl
      simpa [conc, conc1, conc0, Lin.den, denT, rho, Lin.lit] using this
  · have hV : (vDN k).Ok (rho [-q - 1, r]) := env_ok (inB_cons (by omega) (by omega) (inB_cons (by omega) (by omega) inB_nil)) (by simp [vDN]) (by
      simp [vDN, Lin.den, denT, rho]
      refine ⟨by omega, ?_⟩
      rw [show max k 0 = k by omega, show k + (k * (-q - 1) + -r) = (k - r) + k * (-q - 1) by omega, Int.add_mul_ediv_left _ _ (by omega), Int.ediv_eq_zero_of_lt (by omega) (by omega)]
      omega)
    have e1 : -k + (-k * (-q - 1) + r) = k * q + r := by
      rw [show -q - 1 = -(q + 1) by omega, Int.neg_mul_neg, Int.mul_add]
      omega
    constructor
    · have := (Base.ansB base_fit hV OkO.none n1 rfl rfl).vc rfl rfl
      have e2 : -1 + -(-q - 1) = q := by omega
      simp [conc, conc1, conc0, Lin.den, denT, rho, Lin.lit] at this
      rw [e1, e2] at this
      exact this
    · have := (Base.ansB base_fit hV OkO.none n2 rfl rfl).vc rfl rfl
      simp [conc, conc1, conc0, Lin.den, denT, rho, Lin.lit] at this
      rw [e1] at this
      exact this
def vDn : Ab.Env := ⟨[(-30000000, 30000000), (-30000000, 30000000)], [], []⟩
theorem gdown_chk : allB (fun k => isR (iE 0 [(1, 1)]) (base.go vDn (memo [(fEDiv, [iE 0 [(0, 1)], iL k], .tuple [iE 0 [(1, 1)], iL 0])]) 60 fGDown [iE 0 [(0, 1)], iL k])) ks = true := by kernel_rfl
theorem ks_bd {k : Int} (hk : k ∈ ks) {a : Int} (a0 : -30000000 ≤ a) (a1 : a ≤ 30000000) : -30000000 ≤ a / k ∧ a / k ≤ 30000000 := by
  simp only [ks, List.mem_cons, List.not_mem_nil, or_false] at hk
  rcases hk with rfl | rfl | rfl | rfl <;> omega
theorem gdown_vc (k : Int) (hk : k ∈ ks) (a : Int) (a0 : -30000000 ≤ a) (a1 : a ≤ 30000000) : VC base fGDown [iv a, iv k] (iv (a / k)) := by
  have b := ks_bd hk a0 a1
  have hE : Memo.Ok base.P base.G (rho [a, a / k]) [(fEDiv, [iE 0 [(0, 1)], iL k], .tuple [iE 0 [(1, 1)], iL 0])] := by
    refine .cons ((div_both k hk a a0 a1).1.ans rfl rfl ?_ ?_) .nil
    all_goals simp [conc, conc1, conc0, Lin.den, denT, rho, Lin.lit]
  have := (Base.ansB (V := vDn) (ρ := rho [a, a / k]) base_fit (env_ok (inB_cons a0 a1 (inB_cons b.1 b.2 inB_nil)) (by simp) (by simp)) (OkO.memo hE) (allB_get gdown_chk k hk) rfl rfl).vc rfl rfl
  simpa [conc, conc1, conc0, Lin.den, denT, rho, Lin.lit] using this
def gBeg (y : Int) : Int := 365 * (y - 1) + (y - 1) / 4 - (y - 1) / 100 + (y - 1) / 400
def vGB : Ab.Env := ⟨[(-5000, 8000), (-5000, 8000), (-5000, 8000), (-5000, 8000)], [], []⟩
def mGB : Memo := [(fGDown, [iE (-1) [(0, 1)], iL 4], iE 0 [(1, 1)]), (fGDown, [iE (-1) [(0, 1)], iL 100], iE 0 [(2, 1)]), (fGDown, [iE (-1) [(0, 1)], iL 400], iE 0 [(3, 1)])]
theorem gbeg_chk : isR (iE (-365) [(0, 365), (1, 1), (2, -1), (3, 1)]) (base.go vGB (memo mGB) 60 fGBeg [iE 0 [(0, 1)]]) = true := by kernel_rfl
theorem gbeg_vc (y : Int) (y0 : -4500 ≤ y) (y1 : y ≤ 7500) : VC base fGBeg [iv y] (iv (gBeg y)) := by
  have hE : Memo.Ok base.P base.G (rho [y, (y - 1) / 4, (y - 1) / 100, (y - 1) / 400]) mGB := by
    refine .cons ((gdown_vc 4 (by decide) (y - 1) (by omega) (by omega)).ans rfl rfl ?_ ?_) (.cons ((gdown_vc 100 (by decide) (y - 1) (by omega) (by omega)).ans rfl rfl ?_ ?_) (.cons ((gdown_vc 400 (by decide) (y - 1) (by omega) (by omega)).ans rfl rfl ?_ ?_) .nil))
    all_goals simp [conc, conc1, conc0, Lin.den, denT, rho, Lin.lit]
    all_goals omega
  have := (Base.ansB (V := vGB) base_fit (env_ok (inB_cons (by omega) (by omega) (inB_cons (by omega) (by omega) (inB_cons (by omega) (by omega) (inB_cons (by omega) (by omega) inB_nil)))) (by simp) (by simp)) (OkO.memo hE) gbeg_chk rfl rfl).vc rfl rfl
  have e : -365 + (365 * y + ((y - 1) / 4 + (-((y - 1) / 100) + (y - 1) / 400))) = gBeg y := by unfold gBeg; omega
  simpa [conc, conc1, conc0, Lin.den, denT, rho, Lin.lit, e] using this
def gQ (day : Int) : Int := min (((day - 1) % 146097) / 36524) 3
def gR (day : Int) : Int := (day - 1) % 146097 - 36524 * gQ day
def gS (day : Int) : Int := gR day % 1461
def gyr (day : Int) : Int := 400 * ((day - 1) / 146097) + 100 * gQ day + 4 * (gR day / 1461) + min (gS day / 365) 3 + 1
def nGY : AV := iE 1 [(0, 146097), (1, 1)]
def mGY : Memo := [(fEMod, [iE 0 [(0, 146097), (1, 1)], iL 146097], .tuple [iE 0 [(1, 1)], iL 0]), (fGDown, [iE 0 [(0, 146097), (1, 1)], iL 146097], iE 0 [(0, 1)])]
def bigL (b4 : Bool) : Lin := bif b4 then ⟨-109572, [(1, 1)]⟩ else ⟨0, [(1, 1), (2, -36524)]⟩
def sL (b4 : Bool) : Lin := bif b4 then ⟨-109572, [(1, 1), (3, -1461)]⟩ else ⟨0, [(1, 1), (2, -36524), (3, -1461)]⟩
def q03 (b4 : Bool) : Int × Int := bif b4 then (4, 4) else (0, 3)
def vGY (b4 d4 : Bool) : Ab.Env := ⟨[(-20, 20), (0, 146096), q03 b4, (0, 25), q03 d4], [bigL b4, sL b4], [(⟨0, [(1, 1)]⟩, 36524, 2), (bigL b4, 1461, 3), (sL b4, 365, 4)]⟩
def resGY (b4 d4 : Bool) : AV := iE (1 + (bif b4 then 300 else 0) + (bif d4 then 3 else 0)) ([(0, 400)] ++ (bif b4 then [] else [(2, 100)]) ++ [(3, 4)] ++ (bif d4 then [] else [(4, 1)]))
def okGY (b4 d4 : Bool) : Bool := isR (resGY b4 d4) (base.go (vGY b4 d4) (memo mGY) 60 fGYear [nGY])
theorem gy_chk : (okGY false false && okGY false true && (okGY true false && okGY true true)) = true := by kernel_rfl
end
end Go.Proofs.YtnikgcedifdaeaaGreatDoor.Sab
end

section
/- The Gregorian calendar: the year of a day, leap years, what is to be checked of dates. -/
set_option linter.unusedVariables false
set_option linter.unusedSimpArgs false
namespace Go.Proofs.YtnikgcedifdaeaaGreatDoor.Sab
open Go Go.Proofs.YtnikgcedifdaeaaGreatDoor.Ab
set_option maxRecDepth 100000
noncomputable section
theorem vc_of {B : Base} {f : Nat} {a b u v : Int} (h : VC B f [iv a] (iv b)) (e1 : a = u) (e2 : b = v) : VC B f [iv u] (iv v) := by
  subst e1 e2
  exact h
theorem gyear_vc (day : Int) (h0 : -1373427 ≤ day) (h1 : day ≤ 2300000) : VC base fGYear [iv day] (iv (gyr day)) := by
  obtain ⟨a, ha⟩ : ∃ a, a = (day - 1) / 146097 := ⟨_, rfl⟩
  obtain ⟨big, hb⟩ : ∃ b, b = (day - 1) % 146097 := ⟨_, rfl⟩
  obtain ⟨q, hq⟩ : ∃ q, q = big / 36524 := ⟨_, rfl⟩
  have hd : day = 1 + (146097 * a + big) := by omega
  have hg : gyr day = 400 * a + 100 * min q 3 + 4 * ((big - 36524 * min q 3) / 1461) + min ((big - 36524 * min q 3) % 1461 / 365) 3 + 1 := by
    unfold gyr gS gR gQ
    rw [← ha, ← hb, ← hq]
  have c := gy_chk
  simp only [Bool.and_eq_true] at c
  have hE : ∀ l, Memo.Ok base.P base.G (rho (a :: big :: l)) mGY := fun l => by
    have m1 := (div_both 146097 (by decide) (day - 1) (by omega) (by omega)).2
    have m2 := gdown_vc 146097 (by decide) (day - 1) (by omega) (by omega)
    rw [← hb] at m1
    rw [← ha] at m2
    refine .cons (m1.ans rfl rfl ?_ ?_) (.cons (m2.ans rfl rfl ?_ ?_) .nil)
    all_goals simp [conc, conc1, conc0, Lin.den, denT, rho, Lin.lit]
    all_goals omega
  have i0 : inB [(-20, 20), (0, 146096)] [a, big] := inB_cons (by omega) (by omega) (inB_cons (by omega) (by omega) inB_nil)
  by_cases hq4 : q = 4
  · obtain ⟨r, hr⟩ : ∃ r, r = big - 109572 := ⟨_, rfl⟩
    have e1 : big - 36524 * min q 3 = r := by omega
    have e2 : min q 3 = 3 := by omega
    rw [e1, e2] at hg
    have hr0 : 0 ≤ r ∧ r ≤ 36524 := by omega
    by_cases d4 : r % 1461 / 365 = 4
    · have := (Base.ansB (V := vGY true true) (ρ := rho [a, big, q, r / 1461, r % 1461 / 365]) base_fit (env_ok (inB_cons (by omega) (by omega) (inB_cons (by omega) (by omega) (inB_cons (by omega) (by omega) (inB_cons (by omega) (by omega) (inB_cons (by omega) (by omega) inB_nil))))) (by simp [vGY, bigL, sL, Lin.den, denT, rho]; omega) (by simp [vGY, bigL, sL, Lin.den, denT, rho]; omega)) (OkO.memo (hE _)) c.2.2 rfl rfl).vc rfl rfl
      simp [resGY, nGY, conc, conc1, conc0, Lin.den, denT, rho, Lin.lit] at this
      exact vc_of this (by omega) (by omega)
    · have := (Base.ansB (V := vGY true false) (ρ := rho [a, big, q, r / 1461, r % 1461 / 365]) base_fit (env_ok (inB_cons (by omega) (by omega) (inB_cons (by omega) (by omega) (inB_cons (by omega) (by omega) (inB_cons (by omega) (by omega) (inB_cons (by omega) (by omega) inB_nil))))) (by simp [vGY, bigL, sL, Lin.den, denT, rho]; omega) (by simp [vGY, bigL, sL, Lin.den, denT, rho]; omega)) (OkO.memo (hE _)) c.2.1 rfl rfl).vc rfl rfl
      simp [resGY, nGY, conc, conc1, conc0, Lin.den, denT, rho, Lin.lit] at this
      exact vc_of this (by omega) (by omega)
  · obtain ⟨r, hr⟩ : ∃ r, r = big - 36524 * q := ⟨_, rfl⟩
    have e2 : min q 3 = q := by omega
    have e1 : big - 36524 * min q 3 = r := by omega
    rw [e1, e2] at hg
    have hr0 : 0 ≤ r ∧ r ≤ 36524 := by omega
    by_cases d4 : r % 1461 / 365 = 4
    · have := (Base.ansB (V := vGY false true) (ρ := rho [a, big, q, r / 1461, r % 1461 / 365]) base_fit (env_ok (inB_cons (by omega) (by omega) (inB_cons (by omega) (by omega) (inB_cons (by omega) (by omega) (inB_cons (by omega) (by omega) (inB_cons (by omega) (by omega) inB_nil))))) (by simp [vGY, bigL, sL, Lin.den, denT, rho]; omega) (by simp [vGY, bigL, sL, Lin.den, denT, rho]; omega)) (OkO.memo (hE _)) c.1.2 rfl rfl).vc rfl rfl
      simp [resGY, nGY, conc, conc1, conc0, Lin.den, denT, rho, Lin.lit] at this
      exact vc_of this (by omega) (by omega)
    · have := (Base.ansB (V := vGY false false) (ρ := rho [a, big, q, r / 1461, r % 1461 / 365]) base_fit (env_ok (inB_cons (by omega) (by omega) (inB_cons (by omega) (by omega) (inB_cons (by omega) (by omega) (inB_cons (by omega) (by omega) (inB_cons (by omega) (by omega) inB_nil))))) (by simp [vGY, bigL, sL, Lin.den, denT, rho]; omega) (by simp [vGY, bigL, sL, Lin.den, denT, rho]; omega)) (OkO.memo (hE _)) c.1.1 rfl rfl).vc rfl rfl
      simp [resGY, nGY, conc, conc1, conc0, Lin.den, denT, rho, Lin.lit] at this
      exact vc_of this (by omega) (by omega)
def gLeapR (r : Int) : Bool := bif zero (r % 400) then true else bif zero (r % 100) then false else zero (r % 4)
def gLeap (y : Int) : Bool := gLeapR (y % 400)
def upto : Nat → List Int
  | 0 => []
  | n + 1 => Int.ofNat n :: upto n
theorem mem_upto : ∀ (n : Nat) (i : Int), 0 ≤ i → i < Int.ofNat n → i ∈ upto n
  | 0, i, h0, h1 => absurd h1 (by simp; omega)
  | n + 1, i, h0, h1 => by
    unfold upto
    by_cases e : i = Int.ofNat n
    · exact e ▸ List.mem_cons_self ..
    · refine List.mem_cons_of_mem _ (mem_upto n i h0 ?_)
      simp only [Int.ofNat_eq_natCast] at *
      omega
def vLP : Ab.Env := ⟨[(0, 100)], [], []⟩
def vLN : Ab.Env := ⟨[(-100, -1)], [], []⟩
theorem gleap_p : allB (fun r => isR (bL (gLeapR r)) (base.go vLP noO 60 fGLeap [iE r [(0, 400)]])) (upto 400) = true := by kernel_rfl
theorem gleap_n : allB (fun r => isR (bL (gLeapR r)) (base.go vLN noO 60 fGLeap [iE r [(0, 400)]])) (upto 400) = true := by kernel_rfl
theorem gleap_vc (y : Int) (y0 : -4500 ≤ y) (y1 : y ≤ 7500) : VC base fGLeap [iv y] (.bool (gLeap y)) := by
  have e : Lin.den (rho [y / 400]) ⟨y % 400, [(0, 400)]⟩ = y := by simp [Lin.den, denT, rho]; omega
  have hm : y % 400 ∈ upto 400 := mem_upto 400 _ (by omega) (by simp; omega)
  by_cases hs : 0 ≤ y / 400
  · have := (Base.ansB (V := vLP) (ρ := rho [y / 400]) base_fit (env_ok (inB_cons hs (by omega) inB_nil) (by simp [vLP]) (by simp [vLP])) OkO.none (allB_get gleap_p _ hm) rfl rfl).vc rfl rfl
    simpa [conc, conc1, conc0, e, gLeap] using this
  · have := (Base.ansB (V := vLN) (ρ := rho [y / 400]) base_fit (env_ok (inB_cons (by omega) (by omega) inB_nil) (by simp [vLN]) (by simp [vLN])) OkO.none (allB_get gleap_n _ hm) rfl rfl).vc rfl rfl
    simpa [conc, conc1, conc0, e, gLeap] using this
theorem gLeapR_iff (r : Int) : gLeapR r = decide (r % 400 = 0 ∨ (r % 100 ≠ 0 ∧ r % 4 = 0)) := by
  unfold gLeapR
  rw [zero_dec, zero_dec, zero_dec]
  by_cases a : r % 400 = 0 <;> by_cases b : r % 100 = 0 <;> by_cases c : r % 4 = 0 <;> simp [a, b, c]
theorem leap_k {r c s q : Int} (hr : r = 1461 * c + s) (hq : q < 3 → r ≤ 36523) (hq3 : q ≤ 3) (e : s = 1460) (h : c = 24) : q = 3 := by omega
theorem leap_c (a q c d y : Int) (q0 : 0 ≤ q) (q1 : q ≤ 3) (c0 : 0 ≤ c) (c1 : c ≤ 24) (h : c = 24 → q = 3) (e : d = 3) (hy : y = 400 * a + 100 * q + 4 * c + d + 1) : y % 400 % 400 = 0 ∨ (y % 400 % 100 ≠ 0 ∧ y % 400 % 4 = 0) := by
  by_cases e2 : c = 24
  · left
    have := h e2
    have : y % 400 = 0 := by omega
    omega
  · right
    have : y % 400 = 100 * q + 4 * c + 4 := by omega
    rw [this]
    constructor <;> omega
/-- A day stands in the year. -/
theorem gyr_in (day : Int) (h0 : -1373427 ≤ day) (h1 : day ≤ 2300000) : -4000 ≤ gyr day ∧ gyr day ≤ 7000 ∧ gBeg (gyr day) + 1 ≤ day ∧ day ≤ gBeg (gyr day) + (if gLeap (gyr day) = true then 366 else 365) := by
  obtain ⟨a, ha⟩ : ∃ a, a = (day - 1) / 146097 := ⟨_, rfl⟩
  obtain ⟨big, hb⟩ : ∃ b, b = (day - 1) % 146097 := ⟨_, rfl⟩
  obtain ⟨q, hq⟩ : ∃ q, q = min (big / 36524) 3 := ⟨_, rfl⟩
  obtain ⟨r, hr⟩ : ∃ r, r = big - 36524 * q := ⟨_, rfl⟩
  obtain ⟨c, hc⟩ : ∃ c, c = r / 1461 := ⟨_, rfl⟩
  obtain ⟨s, hs⟩ : ∃ s, s = r % 1461 := ⟨_, rfl⟩
  obtain ⟨d, hd⟩ : ∃ d, d = min (s / 365) 3 := ⟨_, rfl⟩
  have hg : gyr day = 400 * a + 100 * q + 4 * c + d + 1 := by
    unfold gyr gS gR gQ
    rw [← ha, ← hb, ← hq, ← hr, ← hc, ← hs, ← hd]
  have hday : day = 146097 * a + 36524 * q + 1461 * c + s + 1 := by omega
  have b1 : 0 ≤ q ∧ q ≤ 3 ∧ 0 ≤ c ∧ c ≤ 24 ∧ 0 ≤ d ∧ d ≤ 3 ∧ 0 ≤ s ∧ s ≤ 1460 := by omega
  have hrc : r = 1461 * c + s := by omega
  have hr1 : 0 ≤ r ∧ r ≤ 36524 ∧ (q < 3 → r ≤ 36523) := by omega
  have hs1 : s - 365 * d ≤ 365 ∧ 0 ≤ s - 365 * d ∧ (s - 365 * d = 365 → d = 3 ∧ s = 1460) := by omega
  have hbeg : gBeg (gyr day) = 146097 * a + 36524 * q + 1461 * c + 365 * d := by
    rw [hg]
    unfold gBeg
    have x1 : (400 * a + 100 * q + 4 * c + d + 1 - 1) / 4 = 100 * a + 25 * q + c := by omega
    have x2 : (400 * a + 100 * q + 4 * c + d + 1 - 1) / 100 = 4 * a + q := by omega
    have x3 : (400 * a + 100 * q + 4 * c + d + 1 - 1) / 400 = a := by omega
    rw [x1, x2, x3]
    omega
  refine ⟨by omega, by omega, by omega, ?_⟩
  rw [hbeg]
  unfold gLeap
  rw [gLeapR_iff, hg]
  split
  · omega
  · rename_i hn
    rw [decide_eq_true_iff] at hn
    have : s - 365 * d ≠ 365 := by
      intro e
      obtain ⟨e3, e4⟩ := hs1.2.2 e
      exact hn (leap_c a q c d _ b1.1 b1.2.1 b1.2.2.1 b1.2.2.2.1 (leap_k hrc hr1.2.2 b1.2.1 e4) e3 rfl)
    omega
def glen (lp : Bool) : List Int := [31, bif lp then 29 else 28, 31, 30, 31, 30, 31, 31, 30, 31, 30, 31]
def gmonsAt : Int → Int → List Int → List (Int × Int × Int)
  | _, _, [] => []
  | m, a, x :: r => (m, a, x) :: gmonsAt (m + 1) (a + x) r
/-- A month, how many days are ahead of it, how many it has. -/
def gmons (lp : Bool) : List (Int × Int × Int) := gmonsAt 1 0 (glen lp)
def vGF (m : Int × Int × Int) : Ab.Env := ⟨[(-4500, 7500), (-2000000, 3000000), (m.2.1 + 1, m.2.1 + m.2.2)], [], []⟩
def nGF : AV := iE 0 [(1, 1), (2, 1)]
def mGF (lp : Bool) : Memo := [(fGIn, [nGF], bL true), (fGYear, [nGF], yE' 0), (fGBeg, [yE' 0], iE 0 [(1, 1)]), (fGLeap, [yE' 0], bL lp)]
where yE' (c : Int) : AV := iE c [(0, 1)]
def okGF (lp : Bool) : Bool := allB (fun m => isR (.tuple [.agg [iE 0 [(0, 1)], iL m.1, iE (-m.2.1) [(2, 1)]], iL 0]) (base.go (vGF m) (memo (mGF lp)) 200 fGFrom [nGF])) (gmons lp)
set_option maxHeartbeats 0 in
theorem gf_chk : (okGF false && okGF true) = true := by kernel_rfl
/-- The Gregorian date of a day. -/
structure Civ (day y m d : Int) : Prop where
  yr : y = gyr day
  mon : ∃ x ∈ gmons (gLeap y), x.1 = m ∧ x.2.1 < day - gBeg y ∧ day - gBeg y ≤ x.2.1 + x.2.2 ∧ d = day - gBeg y - x.2.1
def gmonOf : Int → List (Int × Int × Int) → Option (Int × Int × Int)
  | _, [] => none
  | o, m :: r => bif ile (m.2.1 + 1) o && ile o (m.2.1 + m.2.2) then some m else gmonOf o r
theorem gmonOf_ok {o : Int} {m : Int × Int × Int} : ∀ {l : List (Int × Int × Int)}, gmonOf o l = some m → m ∈ l ∧ m.2.1 < o ∧ o ≤ m.2.1 + m.2.2
  | [], h => by cases h
  | x :: r, h => by
    unfold gmonOf at h
    cases hc : ile (x.2.1 + 1) o && ile o (x.2.1 + x.2.2) with
    | true =>
      rw [hc] at h
      obtain rfl := Option.some.inj h
      simp only [Bool.and_eq_true, ile_iff] at hc
      exact ⟨List.mem_cons_self .., by omega, hc.2⟩
    | false =>
      rw [hc] at h
      obtain ⟨h1, h2⟩ := gmonOf_ok (l := r) h
      exact ⟨List.mem_cons_of_mem _ h1, h2⟩
theorem gmon_chk : allB (fun lp => allB (fun o => match gmonOf (o + 1) (gmons lp) with | some _ => true | none => !lp && ile 365 o) (upto 366)) bools = true := by decide +kernel
theorem civ_of (day : Int) (h0 : -1373427 ≤ day) (h1 : day ≤ 2300000) : ∃ y m d, Civ day y m d := by
  obtain ⟨g0, g1, g2, g3⟩ := gyr_in day h0 h1
  have hb : gLeap (gyr day) ∈ bools := by cases gLeap (gyr day) <;> decide
  have hle : day - gBeg (gyr day) - 1 < 366 := by
    split at g3 <;> omega
  have c := allB_get (allB_get gmon_chk _ hb) (day - gBeg (gyr day) - 1) (mem_upto 366 _ (by omega) (by simp; omega))
  cases hm : gmonOf (day - gBeg (gyr day) - 1 + 1) (gmons (gLeap (gyr day))) with
  | none =>
    rw [hm] at c
    simp only [Bool.and_eq_true, Bool.not_eq_true', ile_iff] at c
    rw [c.1] at g3
    simp at g3
    omega
  | some x =>
    obtain ⟨k1, k2, k3⟩ := gmonOf_ok hm
    exact ⟨gyr day, x.1, day - gBeg (gyr day) - x.2.1, rfl, x, k1, rfl, by omega, by omega, rfl⟩
end
end Go.Proofs.YtnikgcedifdaeaaGreatDoor.Sab
end

section
/- The date of a day; the cycle of a day. -/
set_option linter.unusedVariables false
set_option linter.unusedSimpArgs false
namespace Go.Proofs.YtnikgcedifdaeaaGreatDoor.Sab
open Go Go.Proofs.YtnikgcedifdaeaaGreatDoor.Ab
set_option maxRecDepth 100000
set_option maxHeartbeats 0
noncomputable section
abbrev fFromDay : Nat := 51
/-- Ahead of a month, its length, number, whether it is the added one. -/
structure Mon where
  a : Int
  len : Int
  num : Int
  ad : Bool
def monsAt (lp : Bool) : Int → Int → List Int → List Mon
  | _, _, [] => []
  | m, a, x :: r => ⟨a, x, bif lp && ile 6 m then m - 1 else m, lp && zero (m - 6)⟩ :: monsAt lp (m + 1) (a + x) r
def mons (t : Ty) : List Mon := monsAt t.2.2 1 0 (lens t)
def vFD (m : Mon) : Ab.Env := ⟨[(1, 9999), (-400000, 400000), (0, m.len - 1)], [], []⟩
def nA (t : Ty) (m : Mon) : AV := iE (t.1 + m.a) [(1, 7), (2, 1)]
def mFD (t : Ty) (m : Mon) : Memo := (fYear, [nA t m], .tuple [yE 0, iL 0]) :: mOf t
def okFrom (t : Ty) : Bool := allB (fun m => isR (.tuple [.agg [yE 0, iL m.num, bL m.ad, iE 1 [(2, 1)]], iL 0]) (base.go (vFD m) (memo (mFD t m)) 200 fFromDay [nA t m])) (mons t)
theorem from_chk : allB okFrom tyList = true := by kernel_rfl
theorem mons_len : allB (fun t => allB (fun m => ile 0 m.a && ile (m.a + m.len) (tyLen t) && ile 1 m.len && ile m.len 30) (mons t)) tyList = true := by decide +kernel
theorem from_vc {y : Int} {t : Ty} (h : YT y t) (m : Mon) (hm : m ∈ mons t) (j : Int) (j0 : 0 ≤ j) (j1 : j ≤ m.len - 1) : VC base fFromDay [iv (Cal.first y + (m.a + j))] (.tuple #[.agg #[iv y, iv m.num, .bool m.ad, iv (1 + j)], iv 0]) := by
  have h0 := h.low
  have h9 := h.high
  have hw := h.wd
  have hl := h.len
  obtain ⟨f0, f1⟩ := first_bd y h0 (by omega)
  have b := allB_get (of_ty mons_len h) m hm
  simp only [Bool.and_eq_true, ile_iff] at b
  obtain ⟨⟨⟨b0, b1⟩, b2⟩, b3⟩ := b
  have dn : Lin.den (ry y [j]) ⟨t.1 + m.a, [(1, 7), (2, 1)]⟩ = Cal.first y + (m.a + j) := by simp [Lin.den, denT, ry, rho]; omega
  have hE : Memo.Ok base.P base.G (ry y [j]) (mFD t m) := by
    refine .cons ((year_vc y (Cal.first y + (m.a + j)) h0 h9 (by omega) (by omega)).ans rfl rfl ?_ ?_) (mOf_ok h [j])
    · simp [nA, conc1, conc0, dn]
    · simp [conc, conc1, conc0, den_y, den_l]
  have := (Base.ansB (V := vFD m) (ρ := ry y [j]) base_fit (env_ok (inB_cons h0 h9 (inB_cons (by omega) (by omega) (inB_cons j0 j1 inB_nil))) (by simp [vFD]) (by simp [vFD])) (OkO.memo hE) (allB_get (show allB (fun m => isR (.tuple [.agg [yE 0, iL m.num, bL m.ad, iE 1 [(2, 1)]], iL 0]) (base.go (vFD m) (memo (mFD t m)) 200 fFromDay [nA t m])) (mons t) = true from of_ty from_chk h) m hm) rfl rfl).vc rfl rfl
  have d1 : Lin.den (ry y [j]) ⟨1, [(2, 1)]⟩ = 1 + j := by simp [Lin.den, denT, ry, rho]
  simpa [nA, conc, conc1, conc0, dn, d1, den_y, den_l] using this
/-- Which month a day is in. -/
def monOf : Int → List Mon → Option Mon
  | _, [] => none
  | o, m :: r => bif ile m.a o && ile o (m.a + m.len - 1) then some m else monOf o r
theorem monOf_ok {o : Int} {m : Mon} : ∀ {l : List Mon}, monOf o l = some m → m ∈ l ∧ m.a ≤ o ∧ o ≤ m.a + m.len - 1
  | [], h => by cases h
  | x :: r, h => by
    unfold monOf at h
    cases hc : ile x.a o && ile o (x.a + x.len - 1) with
    | true =>
      rw [hc] at h
      obtain rfl := Option.some.inj h
      simp only [Bool.and_eq_true, ile_iff] at hc
      exact ⟨List.mem_cons_self .., hc.1, hc.2⟩
    | false =>
      rw [hc] at h
      obtain ⟨h1, h2⟩ := monOf_ok (l := r) h
      exact ⟨List.mem_cons_of_mem _ h1, h2⟩
def daysN : Nat → List Int
  | 0 => []
  | n + 1 => Int.ofNat n :: daysN n
theorem mon_chk : allB (fun t => allB (fun o => match monOf o (mons t) with | some _ => true | none => bif ile (tyLen t) o then true else false) (daysN 390)) tyList = true := by decide +kernel
abbrev fCyc : Nat := 41
def nO (t : Ty) : AV := iE t.1 [(1, 7), (2, 1)]
def mCy (t : Ty) (ad : Bool) : Memo := (fFromDay, [nO t], .tuple [.agg [yE 0, iE 0 [(3, 1)], bL ad, iE 0 [(4, 1)]], iL 0]) :: mEnds t 0 t.1
def okCy (t : Ty) : Bool := allB (fun pl => allB (fun ad => isR (.tuple [yE 0, iL 0]) (base.go ⟨[(1, 9998), (-400000, 400000), (23 - pl, 390), (1, 12), (1, 30)], [], []⟩ (memo (mCy t ad)) 100 fCyc [nO t, iL pl]) && isR (.tuple [yE (-1), iL 0]) (base.go ⟨[(2, 9999), (-400000, 400000), (0, 22 - pl), (1, 12), (1, 30)], [], []⟩ (memo (mCy t ad)) 100 fCyc [nO t, iL pl])) bools) places
theorem cy_chk : allB okCy tyList = true := by kernel_rfl
end
end Go.Proofs.YtnikgcedifdaeaaGreatDoor.Sab
end

section
/- The Gregorian date of a day; days out of range. -/
set_option linter.unusedVariables false
set_option linter.unusedSimpArgs false
namespace Go.Proofs.YtnikgcedifdaeaaGreatDoor.Sab
open Go Go.Proofs.YtnikgcedifdaeaaGreatDoor.Ab
set_option maxRecDepth 100000
noncomputable section
theorem first_one : Cal.first 1 = -1373427 := by decide +kernel
/-- Each day of the range is one of a year. -/
theorem year_of (n : Int) (h0 : -1373427 ≤ n) (h1 : n ≤ lastD) : ∃ y, 1 ≤ y ∧ y ≤ 9999 ∧ Cal.first y ≤ n ∧ n < Cal.first (y + 1) := by
  have step : ∀ k : Nat, k ≤ 9999 → n < Cal.first (1 + k) → ∃ y, 1 ≤ y ∧ y ≤ 9999 ∧ Cal.first y ≤ n ∧ n < Cal.first (y + 1) := by
    intro k
    induction k with
    | zero =>
      intro _ h
      rw [show (1 : Int) + ((0 : Nat) : Int) = 1 by omega, first_one] at h
      omega
    | succ k ih =>
      intro hk h
      by_cases c : n < Cal.first (1 + k)
      · exact ih (by omega) c
      · exact ⟨1 + k, by omega, by omega, by omega, by rwa [show (1 : Int) + k + 1 = 1 + ((k + 1 : Nat) : Int) by omega]⟩
  refine step 9999 (by omega) ?_
  rw [show (1 : Int) + ((9999 : Nat) : Int) = 10000 by omega, first_last]
  unfold lastD at *
  omega
def minI : Int := -9223372036854775808
def maxI : Int := 9223372036854775807
def vLow : Ab.Env := ⟨[(minI, -1373428)], [], []⟩
def vHigh : Ab.Env := ⟨[(lastD + 1, maxI)], [], []⟩
abbrev nE : AV := iE 0 [(0, 1)]
def mLast : Memo := [(fLast, [], iL lastD)]
theorem year_out_chk : (isR (.tuple [iL 0, iL 2]) (base.go vLow (memo mLast) 60 fYear [nE]) && isR (.tuple [iL 0, iL 2]) (base.go vHigh (memo mLast) 60 fYear [nE])) = true := by kernel_rfl
/-- Out of the range. -/
def Outside (n : Int) : Prop := minI ≤ n ∧ n ≤ maxI ∧ (n < -1373427 ∨ lastD < n)
theorem den_n (n : Int) (l : List Int) : Lin.den (rho (n :: l)) ⟨0, [(0, 1)]⟩ = n := by simp [Lin.den, denT, rho]
theorem out_ans {n : Int} (h : Outside n) {O : Oracle} (hO : OkO base (rho [n]) O) {fuel f : Nat} {l : List AV} {r : AV} (c : (isR r (base.go vLow O fuel f l) && isR r (base.go vHigh O fuel f l)) = true) (hr : pl r = true) (hl : allB pl1 l = true) : Ans base.P base.G (rho [n]) f l r := by
  rw [Bool.and_eq_true] at c
  rcases h.2.2 with g | g
  · exact Base.ansB (V := vLow) base_fit (env_ok (inB_cons h.1 (by omega) inB_nil) (by simp [vLow]) (by simp [vLow])) hO c.1 hr hl
  · exact Base.ansB (V := vHigh) base_fit (env_ok (inB_cons (by omega) h.2.1 inB_nil) (by simp [vHigh]) (by simp [vHigh])) hO c.2 hr hl
theorem year_out {n : Int} (h : Outside n) : VC base fYear [iv n] (.tuple #[iv 0, iv 2]) := by
  have hE : Memo.Ok base.P base.G (rho [n]) mLast := .cons (last_vc.ans rfl rfl (by simp) (by simp [conc, conc1, conc0, den_l])) .nil
  have := (out_ans h (OkO.memo hE) year_out_chk rfl rfl).vc rfl rfl
  simpa [conc, conc1, conc0, den_n, den_l] using this
def mYO : Memo := [(fYear, [nE], .tuple [iL 0, iL 2])]
theorem mYO_ok {n : Int} (h : Outside n) : Memo.Ok base.P base.G (rho [n]) mYO := .cons ((year_out h).ans rfl rfl (by simp [conc1, conc0, den_n]) (by simp [conc, conc1, conc0, den_l])) .nil
theorem from_out_chk : (isR (.tuple [.agg [iL 0, iL 0, bL false, iL 0], iL 2]) (base.go vLow (memo mYO) 60 fFromDay [nE]) && isR (.tuple [.agg [iL 0, iL 0, bL false, iL 0], iL 2]) (base.go vHigh (memo mYO) 60 fFromDay [nE])) = true := by kernel_rfl
theorem from_out {n : Int} (h : Outside n) : VC base fFromDay [iv n] (.tuple #[.agg #[iv 0, iv 0, .bool false, iv 0], iv 2]) := by
  have := (out_ans h (OkO.memo (mYO_ok h)) from_out_chk rfl rfl).vc rfl rfl
  simpa [conc, conc1, conc0, den_n, den_l] using this
def vIn : Ab.Env := ⟨[(-1373427, lastD), (1, 9999)], [], []⟩
theorem gin_chk : isR (bL true) (base.go vIn (memo [(fYear, [nE], .tuple [iE 0 [(1, 1)], iL 0])]) 60 fGIn [nE]) = true := by kernel_rfl
theorem gin_vc (n : Int) (h0 : -1373427 ≤ n) (h1 : n ≤ lastD) : VC base fGIn [iv n] (.bool true) := by
  obtain ⟨y, y0, y1, y2, y3⟩ := year_of n h0 h1
  have hE : Memo.Ok base.P base.G (rho [n, y]) [(fYear, [nE], .tuple [iE 0 [(1, 1)], iL 0])] := by
    refine .cons ((year_vc y n y0 y1 y2 y3).ans rfl rfl ?_ ?_) .nil
    all_goals simp [conc, conc1, conc0, Lin.den, denT, rho, Lin.lit]
  have := (Base.ansB (V := vIn) (ρ := rho [n, y]) base_fit (env_ok (inB_cons h0 h1 (inB_cons y0 y1 inB_nil)) (by simp [vIn]) (by simp [vIn])) (OkO.memo hE) gin_chk rfl rfl).vc rfl rfl
  simpa [conc, conc1, conc0, den_n] using this
theorem gfrom_vc {day y m d : Int} (h0 : -1373427 ≤ day) (h1 : day ≤ lastD) (h : Civ day y m d) : VC base fGFrom [iv day] (.tuple #[.agg #[iv y, iv m, iv d], iv 0]) := by
  have h2 : day ≤ 2300000 := by unfold lastD at h1; omega
  obtain ⟨g0, g1, g2, g3⟩ := gyr_in day h0 h2
  obtain ⟨hy, x, hx, rfl, x1, x2, rfl⟩ := h
  rw [← hy] at g0 g1 g2 g3
  have hb : gLeap y = true ∨ gLeap y = false := by cases gLeap y <;> simp
  have c := gf_chk
  rw [Bool.and_eq_true] at c
  have hc : okGF (gLeap y) = true := by
    rcases hb with e | e <;> rw [e]
    · exact c.2
    · exact c.1
  have hc := allB_get (show allB (fun m => isR (.tuple [.agg [iE 0 [(0, 1)], iL m.1, iE (-m.2.1) [(2, 1)]], iL 0]) (base.go (vGF m) (memo (mGF (gLeap y))) 200 fGFrom [nGF])) (gmons (gLeap y)) = true from hc) x hx
  have hE : Memo.Ok base.P base.G (rho [y, gBeg y, day - gBeg y]) (mGF (gLeap y)) := by
    have v1 := gyear_vc day h0 h2
    rw [← hy] at v1
    refine .cons ((gin_vc day h0 h1).ans rfl rfl ?_ ?_) (.cons (v1.ans rfl rfl ?_ ?_) (.cons ((gbeg_vc y (by omega) (by omega)).ans rfl rfl ?_ ?_) (.cons ((gleap_vc y (by omega) (by omega)).ans rfl rfl ?_ ?_) .nil)))
    all_goals simp [nGF, mGF.yE', conc, conc1, conc0, Lin.den, denT, rho, Lin.lit]
    all_goals omega
  have b1 : gBeg y + 1 ≤ day := g2
  have b2 : day ≤ gBeg y + 366 := by split at g3 <;> omega
  have := (Base.ansB (V := vGF x) (ρ := rho [y, gBeg y, day - gBeg y]) base_fit (env_ok (inB_cons (by omega) (by omega) (inB_cons (by omega) (by omega) (inB_cons (by omega) (by omega) inB_nil))) (by simp [vGF]) (by simp [vGF])) (OkO.memo hE) hc rfl rfl).vc rfl rfl
  have e1 : gBeg y + (day - gBeg y) = day := by omega
  have e2 : -x.2.1 + (day - gBeg y) = day - gBeg y - x.2.1 := by omega
  simpa [nGF, conc, conc1, conc0, Lin.den, denT, rho, Lin.lit, e1, e2] using this
end
end Go.Proofs.YtnikgcedifdaeaaGreatDoor.Sab
end

section
/- The reference's Gregorian calendar. -/
set_option linter.unusedVariables false
set_option linter.unusedSimpArgs false
namespace Go.Proofs.YtnikgcedifdaeaaGreatDoor.Sab
open Go Go.Proofs.YtnikgcedifdaeaaGreatDoor.Ab
set_option maxRecDepth 100000
noncomputable section
abbrev rDown : Nat := 61
abbrev rgAhead : Nat := 62
abbrev rGLeap : Nat := 112
abbrev rGDays : Nat := 63
abbrev rGIn : Nat := 60
abbrev rGFrom : Nat := 23
abbrev rLast : Nat := 105
def rks : List Int := [4, 100, 400, 366]
def okRDown (k : Int) : Bool :=
  isR (iE 0 [(0, 1)]) (base.go (vDP k) noO 60 rDown [iE 0 [(0, k), (1, 1)], iL k]) && (isR (iE (-1) [(0, -1)]) (base.go (vDN k) noO 60 rDown [iE (-k) [(0, -k), (1, 1)], iL k]) && isR (iE 0 [(0, 1)]) (base.go vDZ noO 60 rDown [iE 0 [(0, k)], iL k]))
theorem rdown_chk : allB okRDown rks = true := by kernel_rfl
theorem rdown_vc (k : Int) (hk : k ∈ rks) (a : Int) (a0 : -30000000 ≤ a) (a1 : a ≤ 30000000) : VC base rDown [iv a, iv k] (iv (a / k)) := by
  have c := allB_get rdown_chk k hk
  simp only [okRDown, Bool.and_eq_true] at c
  obtain ⟨p1, n1, z1⟩ := c
  simp only [rks, List.mem_cons, List.not_mem_nil, or_false] at hk
  have hk2 : 4 ≤ k := by omega
  have hkn : (k.toNat : Int) = k := by omega
  have h1 : a = k * (a / k) + a % k := by have := Int.emod_def a k; omega
  have h2 : 0 ≤ a % k := Int.emod_nonneg a (by omega)
  have h3 : a % k < k := Int.emod_lt_of_pos a (by omega)
  have hq : -10000000 ≤ a / k ∧ a / k ≤ 10000000 := by rcases hk with rfl | rfl | rfl | rfl <;> omega
  generalize a / k = q at *
  generalize a % k = r at *
  subst h1
  by_cases hs : 0 ≤ q
  · have hV : (vDP k).Ok (rho [q, r]) := env_ok (inB_cons hs (by omega) (inB_cons h2 (by omega) inB_nil)) (by simp [vDP]) (by
      simp [vDP, Lin.den, denT, rho]
      refine ⟨by omega, ?_⟩
      rw [show max k 0 = k by omega, show k * q + r = r + k * q by omega, Int.add_mul_ediv_left _ _ (by omega), Int.ediv_eq_zero_of_lt h2 h3]
      omega)
    have := (Base.ansB base_fit hV OkO.none p1 rfl rfl).vc rfl rfl
    simpa [conc, conc1, conc0, Lin.den, denT, rho, Lin.lit] using this
  by_cases hr : r = 0
  · subst hr
    have hV : vDZ.Ok (rho [q]) := env_ok (inB_cons hq.1 (by omega) inB_nil) (by simp [vDZ]) (by simp [vDZ])
    have := (Base.ansB base_fit hV OkO.none z1 rfl rfl).vc rfl rfl
    simpa [conc, conc1, conc0, Lin.den, denT, rho, Lin.lit] using this
  · have hV : (vDN k).Ok (rho [-q - 1, r]) := env_ok (inB_cons (by omega) (by omega) (inB_cons (by omega) (by omega) inB_nil)) (by simp [vDN]) (by
      simp [vDN, Lin.den, denT, rho]
      refine ⟨by omega, ?_⟩
      rw [show max k 0 = k by omega, show k + (k * (-q - 1) + -r) = (k - r) + k * (-q - 1) by omega, Int.add_mul_ediv_left _ _ (by omega), Int.ediv_eq_zero_of_lt (by omega) (by omega)]
      omega)
    have e1 : -k + (-k * (-q - 1) + r) = k * q + r := by
      rw [show -q - 1 = -(q + 1) by omega, Int.neg_mul_neg, Int.mul_add]
      omega
    have := (Base.ansB base_fit hV OkO.none n1 rfl rfl).vc rfl rfl
    have e2 : -1 + -(-q - 1) = q := by omega
    simp [conc, conc1, conc0, Lin.den, denT, rho, Lin.lit] at this
    rw [e1, e2] at this
    exact this
def mRA : Memo := [(rDown, [iE (-1) [(0, 1)], iL 4], iE 0 [(1, 1)]), (rDown, [iE (-1) [(0, 1)], iL 100], iE 0 [(2, 1)]), (rDown, [iE (-1) [(0, 1)], iL 400], iE 0 [(3, 1)])]
theorem rgahead_chk : isR (iE (-365) [(0, 365), (1, 1), (2, -1), (3, 1)]) (base.go vGB (memo mRA) 60 rgAhead [iE 0 [(0, 1)]]) = true := by kernel_rfl
theorem rgahead_vc (y : Int) (y0 : -4500 ≤ y) (y1 : y ≤ 7500) : VC base rgAhead [iv y] (iv (gBeg y)) := by
  have hE : Memo.Ok base.P base.G (rho [y, (y - 1) / 4, (y - 1) / 100, (y - 1) / 400]) mRA := by
    refine .cons ((rdown_vc 4 (by decide) (y - 1) (by omega) (by omega)).ans rfl rfl ?_ ?_) (.cons ((rdown_vc 100 (by decide) (y - 1) (by omega) (by omega)).ans rfl rfl ?_ ?_) (.cons ((rdown_vc 400 (by decide) (y - 1) (by omega) (by omega)).ans rfl rfl ?_ ?_) .nil))
    all_goals simp [conc, conc1, conc0, Lin.den, denT, rho, Lin.lit]
    all_goals omega
  have := (Base.ansB (V := vGB) base_fit (env_ok (inB_cons (by omega) (by omega) (inB_cons (by omega) (by omega) (inB_cons (by omega) (by omega) (inB_cons (by omega) (by omega) inB_nil)))) (by simp [vGB]) (by simp [vGB])) (OkO.memo hE) rgahead_chk rfl rfl).vc rfl rfl
  have e : -365 + (365 * y + ((y - 1) / 4 + (-((y - 1) / 100) + (y - 1) / 400))) = gBeg y := by unfold gBeg; omega
  simpa [conc, conc1, conc0, Lin.den, denT, rho, Lin.lit, e] using this
theorem rgleap_p : allB (fun r => isR (bL (gLeapR r)) (base.go vLP noO 60 rGLeap [iE r [(0, 400)]])) (upto 400) = true := by kernel_rfl
theorem rgleap_n : allB (fun r => isR (bL (gLeapR r)) (base.go vLN noO 60 rGLeap [iE r [(0, 400)]])) (upto 400) = true := by kernel_rfl
theorem rgleap_vc (y : Int) (y0 : -4500 ≤ y) (y1 : y ≤ 7500) : VC base rGLeap [iv y] (.bool (gLeap y)) := by
  have e : Lin.den (rho [y / 400]) ⟨y % 400, [(0, 400)]⟩ = y := by simp [Lin.den, denT, rho]; omega
  have hm : y % 400 ∈ upto 400 := mem_upto 400 _ (by omega) (by simp; omega)
  by_cases hs : 0 ≤ y / 400
  · have := (Base.ansB (V := vLP) (ρ := rho [y / 400]) base_fit (env_ok (inB_cons hs (by omega) inB_nil) (by simp [vLP]) (by simp [vLP])) OkO.none (allB_get rgleap_p _ hm) rfl rfl).vc rfl rfl
    simpa [conc, conc1, conc0, e, gLeap] using this
  · have := (Base.ansB (V := vLN) (ρ := rho [y / 400]) base_fit (env_ok (inB_cons (by omega) (by omega) inB_nil) (by simp [vLN]) (by simp [vLN])) OkO.none (allB_get rgleap_n _ hm) rfl rfl).vc rfl rfl
    simpa [conc, conc1, conc0, e, gLeap] using this
def vYr : Ab.Env := ⟨[(-4500, 7500)], [], []⟩
def mLp (lp : Bool) : Memo := [(rGLeap, [iE 0 [(0, 1)]], bL lp)]
theorem rgdays_chk : allB (fun lp => allB (fun m => isR (iL m.2.2) (base.go vYr (memo (mLp lp)) 60 rGDays [iE 0 [(0, 1)], iL m.1])) (gmons lp)) bools = true := by kernel_rfl
theorem rgdays_vc (y : Int) (y0 : -4500 ≤ y) (y1 : y ≤ 7500) (m : Int × Int × Int) (hm : m ∈ gmons (gLeap y)) : VC base rGDays [iv y, iv m.1] (iv m.2.2) := by
  have hb : gLeap y ∈ bools := by cases gLeap y <;> decide
  have hE : Memo.Ok base.P base.G (rho [y]) (mLp (gLeap y)) := .cons ((rgleap_vc y y0 y1).ans rfl rfl (by simp [conc1, conc0, den_n]) (by simp [conc, conc1, conc0])) .nil
  have := (Base.ansB (V := vYr) (ρ := rho [y]) base_fit (env_ok (inB_cons y0 y1 inB_nil) (by simp [vYr]) (by simp [vYr])) (OkO.memo hE) (allB_get (allB_get rgdays_chk _ hb) m hm) rfl rfl).vc rfl rfl
  simpa [conc, conc1, conc0, den_n, den_l] using this
theorem rlast_chk : isR (iL lastD) (base.go vNone (memo [(rFirst, [iL 10000], .tuple [iL (lastD + 1), iL 0])]) 60 rLast []) = true := by kernel_rfl
theorem rlast_vc : VC base rLast [] (iv lastD) := by
  have hE : Memo.Ok base.P base.G (rho []) [(rFirst, [iL 10000], .tuple [iL (lastD + 1), iL 0])] := by
    refine .cons ((rfirst_vc 10000 (by decide) (by decide)).ans rfl rfl ?_ ?_) .nil
    · simp [conc1, conc0, den_l]
    · simp [conc, conc1, conc0, den_l, first_last]
  have := (Base.ansB (V := vNone) (ρ := rho []) base_fit (env_ok inB_nil (by simp [vNone]) (by simp [vNone])) (OkO.memo hE) rlast_chk rfl rfl).vc rfl rfl
  simpa [conc, conc1, conc0, den_l] using this
def mRLast : Memo := [(rLast, [], iL lastD)]
theorem mRLast_ok (ρ : Nat → Int) : Memo.Ok base.P base.G ρ mRLast := .cons (rlast_vc.ans rfl rfl (by simp) (by simp [conc, conc1, conc0, den_l])) .nil
theorem rgin_chk : isR (bL true) (base.go vIn (memo mRLast) 60 rGIn [nE]) = true := by kernel_rfl
theorem rgin_vc (n : Int) (h0 : -1373427 ≤ n) (h1 : n ≤ lastD) : VC base rGIn [iv n] (.bool true) := by
  have := (Base.ansB (V := vIn) (ρ := rho [n, 1]) base_fit (env_ok (inB_cons h0 h1 (inB_cons (by decide) (by decide) inB_nil)) (by simp [vIn]) (by simp [vIn])) (OkO.memo (mRLast_ok _)) rgin_chk rfl rfl).vc rfl rfl
  simpa [conc, conc1, conc0, den_n] using this
/-- By how many days the years ahead begin earlier. -/
def dB : Nat → Nat → List (Int × Int)
  | 0, _ => []
  | n + 1, i => (365 * (i : Int), 366 * (i : Int)) :: dB n (i + 1)
def dV (y : Int) : Nat → Nat → List Int
  | 0, _ => []
  | n + 1, i => (gBeg y - gBeg (y - (i : Int))) :: dV y n (i + 1)
theorem gbeg_step (y : Int) : 365 ≤ gBeg (y + 1) - gBeg y ∧ gBeg (y + 1) - gBeg y ≤ 366 := by
  unfold gBeg
  omega
theorem gbeg_far (y : Int) : ∀ i : Nat, 365 * (i : Int) ≤ gBeg y - gBeg (y - (i : Int)) ∧ gBeg y - gBeg (y - (i : Int)) ≤ 366 * (i : Int)
  | 0 => by simp
  | i + 1 => by
    have h1 := gbeg_far y i
    have h2 := gbeg_step (y - ((i + 1 : Nat) : Int))
    rw [show y - ((i + 1 : Nat) : Int) + 1 = y - (i : Int) by omega] at h2
    omega
theorem dV_in (y : Int) : ∀ (n i : Nat), inB (dB n i) (dV y n i)
  | 0, i => inB_nil
  | n + 1, i => inB_cons (gbeg_far y i).1 (gbeg_far y i).2 (dV_in y n (i + 1))
theorem dV_get (y : Int) : ∀ (n i j : Nat), j < n → (dV y n i).getD j 0 = gBeg y - gBeg (y - ((i + j : Nat) : Int))
  | n + 1, i, 0, _ => by simp [dV]
  | n + 1, i, j + 1, h => by
    have := dV_get y n (i + 1) j (by omega)
    simp only [dV, List.getD_cons_succ, this]
    rw [show i + 1 + j = i + (j + 1) by omega]
def mAh : Nat → Nat → Memo
  | 0, _ => []
  | n + 1, i => (rgAhead, [iE (-(i : Int)) [(0, 1)]], iE 0 [(1, 1), (2 + i, -1)]) :: mAh n (i + 1)
def vRG (m : Int × Int × Int) : Ab.Env := ⟨(-4200, 7200) :: (-2000000, 3000000) :: (m.2.1 + 1, m.2.1 + m.2.2) :: dB 40 1, [], []⟩
def mDs (lp : Bool) : Memo := (gmons lp).map fun m => (rGDays, [iE 0 [(0, 1)], iL m.1], iL m.2.2)
def mRG (lp : Bool) (k : Int) : Memo := (rGIn, [nGF], bL true) :: (rDown, [nGF, iL 366], iE (20 - k) [(0, 1)]) :: (rgAhead, [iE 0 [(0, 1)]], iE 0 [(1, 1)]) :: (rgAhead, [iE 1 [(0, 1)]], iE (bif lp then 366 else 365) [(1, 1)]) :: (mDs lp ++ mAh 40 1)
def okRG (lp : Bool) (k : Int) : Bool := allB (fun m => isR (.tuple [.agg [iE 0 [(0, 1)], iL m.1, iE (-m.2.1) [(2, 1)]], iL 0]) (base.go (vRG m) (memo (mRG lp k)) 200 rGFrom [nGF])) (gmons lp)
end
end Go.Proofs.YtnikgcedifdaeaaGreatDoor.Sab
end

section
/- The reference's year of a day: a binary search, walked over the shadow program. -/
namespace Go.Proofs.YtnikgcedifdaeaaGreatDoor.Sab
open Go Go.RowKit Go.Proofs.YtnikgcedifdaeaaGreatDoor.Ab Go.Proofs.YtnikgcedifdaeaaGreatDoor.Lift
set_option linter.unusedVariables false
set_option linter.unusedSimpArgs false
set_option maxRecDepth 100000
attribute [local go_sem] sp_under sp_agg
abbrev rYear : Nat := 55
theorem sp_ryear : SP.funcs[55]? = some Tryz.f55 := keep55.1
set_option maxHeartbeats 4000000 in
theorem ryear_calls (y n : Int) (y0 : 1 ≤ y) (y1 : y ≤ 9999) (n0 : Cal.first y ≤ n) (n1 : n < Cal.first (y + 1)) (w : World) (hG : base.G w) :
    Calls SP rYear #[.int .i64 n] w fun e w' => e = .returned (.tuple #[.int .i64 y, .int .i64 0]) ∧ Same w w' := by
  have HG := Aside0.mk hG
  have hlow : -1373427 ≤ n := Int.le_trans (first_bd y y0 (by omega)).1 n0
  have htop : n ≤ lastD := by
    have := first_le (a := y + 1) (b := 10000) (by omega) (by omega) (by omega)
    rw [first_last] at this
    omega
  have HS := Aside0.mk (fun (h : Int) (h0 : 1 ≤ h) (h1 : h ≤ 10000) => show decide (Cal.first h ≤ n) = decide (h ≤ y) from by
    rw [decide_eq_decide]
    constructor
    · intro hh
      refine Int.not_lt.1 fun hlt => ?_
      have := first_le (a := y + 1) (b := h) (by omega) (by omega) (by omega)
      omega
    · intro hh
      have := first_le (a := h) (b := y) (by omega) (by omega) (by omega)
      omega)
  have HL : Aside0 (∀ V, base.G V → Calls SP rLast #[] V fun e w' => e = .returned (.int .i64 lastD) ∧ Same V w') := ⟨fun V hV => rlast_vc.calls V hV⟩
  have HF : Aside0 (∀ V (h : Int), base.G V → 1 ≤ h → h ≤ 10000 → Calls SP rFirst #[.int .i64 h] V fun e w' => e = .returned (.tuple #[.int .i64 (Cal.first h), .int .i64 0]) ∧ Same V w') := ⟨fun V h hV h0 h1 => (rfirst_vc h h0 h1).calls V hV⟩
  clear hG n0 n1
  have b1 : decide (n < -1373427) = false := decide_eq_false (by omega)
  have b2 : decide (n > lastD) = false := decide_eq_false (by omega)
  go_enter sp_ryear, Tryz.ntmps55
  go_wp2_with fail
  rw [sp_enter keep105.1 rfl rfl, Oper.upon_enter]
  refine (HL.out _ HG.out).mono ?_
  rintro e W1 ⟨rfl, hb⟩
  have HB1 : Aside0 (Same w W1) := ⟨hb⟩
  clear hb
  go_wp2_with fail
  go_loopw [4, 5] (fun s4 s5 wr => ∃ (i j : Int), 1 ≤ i ∧ i ≤ y ∧ y < j ∧ j ≤ 10000 ∧ s4 = .int .i64 i ∧ s5 = .int .i64 j ∧ Aside0 (Same w wr)) (fun s4 s5 _ => (intOf s5).toNat - (intOf s4).toNat)
  case atStart => exact ⟨1, 10000, by omega, y0, by omega, by omega, rfl, rfl, HB1⟩
  case round =>
    obtain ⟨i, j, h0, h1, h2, h3, rfl, rfl, HB⟩ := hrel
    by_cases hlt : j - i > 1
    · have HCALL := Aside0.mk (HF.out wr ((i + j) / 2) (sG HG.out HB.out) (by omega) (by omega))
      go_wp2_with fail
      rw [sp_enter keep57.1 rfl rfl, Oper.upon_enter]
      refine HCALL.out.mono ?_
      rintro e W2 ⟨rfl, hb1⟩
      have HB2 : Aside0 (Same w W2) := ⟨sTrans HB.out hb1⟩
      clear hb1 HB HCALL
      have HQ := Aside0.mk (HS.out ((i + j) / 2) (by omega) (by omega))
      go_wp2_with fail
      · rename_i hz
        have hq : (i + j) / 2 ≤ y := of_decide_eq_true (HQ.out.symm.trans (decide_eq_true hz))
        go_round
        case measure => simp [intOf]; omega
        case rel => exact ⟨(i + j) / 2, j, by omega, hq, h2, h3, rfl, rfl, HB2⟩
      · rename_i hz
        have hq : ¬ (i + j) / 2 ≤ y := fun e => by
          have := of_decide_eq_true (HQ.out.trans (decide_eq_true e))
          omega
        go_round
        case measure => simp [intOf]; omega
        case rel => exact ⟨i, (i + j) / 2, h0, h1, by omega, by omega, rfl, rfl, HB2⟩
    · have HE := Aside0.mk (show i = y by omega)
      go_wp2_with fail
      go_ret2
      exact ⟨by first | rfl | (rw [HE.out]; rfl), HB.out⟩
end Go.Proofs.YtnikgcedifdaeaaGreatDoor.Sab
end

section
/- The reference's date of a day. -/
set_option linter.unusedVariables false
set_option linter.unusedSimpArgs false
namespace Go.Proofs.YtnikgcedifdaeaaGreatDoor.Sab
open Go Go.Proofs.YtnikgcedifdaeaaGreatDoor.Ab
set_option maxRecDepth 100000
set_option maxHeartbeats 0
noncomputable section
abbrev rFromDay : Nat := 21
abbrev rCount8 : Nat := 109
def idxL : Int → List Int → List (Int × Int)
  | _, [] => []
  | m, x :: r => (m, x) :: idxL (m + 1) r
theorem rdays8_chk : allB (fun t => allB (fun x => isR (iL x.2) (base.goL vNil (memo (mNum t)) (memoL (mLen t)) 200 rDaysF [tyA t, iL x.1])) (idxL 1 (lens t))) tyList = true := by kernel_rfl
def cntK (t : Ty) : Int := bif t.2.2 then 13 else 12
theorem rcount8_chk : allB (fun t => isR (iL (cntK t)) (base.goL vNil (memo (mNum t)) (memoL (mLen t)) 200 rCount8 [tyA t])) tyList = true := by kernel_rfl
def mDs8 (t : Ty) : Memo := (rCount8, [tyA t], iL (cntK t)) :: (idxL 1 (lens t)).map fun x => (rDaysF, [tyA t, iL x.1], iL x.2)
theorem mDs8_ok {t : Ty} (ht : t ∈ tyList) (ρ : Nat → Int) : Memo.Ok base.P base.G ρ (mDs8 t) := by
  have hL : LMemo.Ok base.P base.G (rho []) (mLen t) := by
    have hx : allB pl0 (lenRow t).cs = true := pl_ints _
    exact .cons (Base.lansB base_fit vNil_ok OkO.none OkL.none (allB_get rlen_chk t ht) hx rfl) .nil
  have hN : Memo.Ok base.P base.G (rho []) (mNum t) := .cons (Base.ansB base_fit vNil_ok OkO.none (allB_get rnum_chk t ht) rfl rfl) .nil
  refine .cons ?_ ?_
  · have := (Base.ansL base_fit vNil_ok (OkO.memo hN) (OkL.memo hL) (allB_get rcount8_chk t ht) rfl rfl).vc rfl rfl
    refine this.ans rfl rfl ?_ ?_
    · simp [tyA, conc1, conc0, den_l]
    · simp [conc, conc1, conc0, den_l]
  · intro e he
    obtain ⟨x, hx, rfl⟩ := List.mem_map.1 he
    have := (Base.ansL base_fit vNil_ok (OkO.memo hN) (OkL.memo hL) (allB_get (allB_get rdays8_chk t ht) x hx) rfl rfl).vc rfl rfl
    refine this.ans rfl rfl ?_ ?_
    · simp [tyA, conc1, conc0, den_l]
    · simp [conc, conc1, conc0, den_l]
def mRFD (t : Ty) (m : Mon) : Memo := (rYear, [nA t m], .tuple [yE 0, iL 0]) :: (mROf t ++ mDs8 t)
def okRFrom (t : Ty) : Bool := allB (fun m => isR (.tuple [.agg [yE 0, iL m.num, bL m.ad, iE 1 [(2, 1)]], iL 0]) (base.go (vFD m) (memo (mRFD t m)) 200 rFromDay [nA t m])) (mons t)
theorem rfrom_chk_0 : allB okRFrom (tyList.take 5) = true := by kernel_rfl
theorem rfrom_chk_1 : allB okRFrom ((tyList.drop 5).take 5) = true := by kernel_rfl
theorem rfrom_chk_2 : allB okRFrom ((tyList.drop 5).drop 5) = true := by kernel_rfl
theorem rfrom_chk : allB okRFrom tyList = true := allB_parts 5 rfrom_chk_0 (allB_parts 5 rfrom_chk_1 rfrom_chk_2)
theorem ryear_vc (y n : Int) (y0 : 1 ≤ y) (y1 : y ≤ 9999) (n0 : Cal.first y ≤ n) (n1 : n < Cal.first (y + 1)) : VC base rYear [iv n] (.tuple #[iv y, iv 0]) :=
  ⟨⟨_, _, keep55.1, keep55.2, rfl⟩, fun w hG => ryear_calls y n y0 y1 n0 n1 w hG⟩
theorem rfrom_vc {y : Int} {t : Ty} (h : YT y t) (m : Mon) (hm : m ∈ mons t) (j : Int) (j0 : 0 ≤ j) (j1 : j ≤ m.len - 1) : VC base rFromDay [iv (Cal.first y + (m.a + j))] (.tuple #[.agg #[iv y, iv m.num, .bool m.ad, iv (1 + j)], iv 0]) := by
  have h0 := h.low
  have h9 := h.high
  have hw := h.wd
  have hl := h.len
  obtain ⟨f0, f1⟩ := first_bd y h0 (by omega)
  have b := allB_get (of_ty mons_len h) m hm
  simp only [Bool.and_eq_true, ile_iff] at b
  obtain ⟨⟨⟨b0, b1⟩, b2⟩, b3⟩ := b
  have dn : Lin.den (ry y [j]) ⟨t.1 + m.a, [(1, 7), (2, 1)]⟩ = Cal.first y + (m.a + j) := by simp [Lin.den, denT, ry, rho]; omega
  have hE : Memo.Ok base.P base.G (ry y [j]) (mRFD t m) := by
    refine .cons ((ryear_vc y (Cal.first y + (m.a + j)) h0 h9 (by omega) (by omega)).ans rfl rfl ?_ ?_) (.append (mROf_ok h [j]) (mDs8_ok h.mem _))
    · simp [nA, conc1, conc0, dn]
    · simp [conc, conc1, conc0, den_y, den_l]
  have := (Base.ansB (V := vFD m) (ρ := ry y [j]) base_fit (env_ok (inB_cons h0 h9 (inB_cons (by omega) (by omega) (inB_cons j0 j1 inB_nil))) (by simp [vFD]) (by simp [vFD])) (OkO.memo hE) (allB_get (show allB (fun m => isR (.tuple [.agg [yE 0, iL m.num, bL m.ad, iE 1 [(2, 1)]], iL 0]) (base.go (vFD m) (memo (mRFD t m)) 200 rFromDay [nA t m])) (mons t) = true from of_ty rfrom_chk h) m hm) rfl rfl).vc rfl rfl
  have d1 : Lin.den (ry y [j]) ⟨1, [(2, 1)]⟩ = 1 + j := by simp [Lin.den, denT, ry, rho]
  simpa [nA, conc, conc1, conc0, dn, d1, den_y, den_l] using this
theorem ryear_out_chk : (isR (.tuple [iL 0, iL 2]) (base.go vLow (memo mRLast) 60 rYear [nE]) && isR (.tuple [iL 0, iL 2]) (base.go vHigh (memo mRLast) 60 rYear [nE])) = true := by kernel_rfl
theorem ryear_out {n : Int} (h : Outside n) : VC base rYear [iv n] (.tuple #[iv 0, iv 2]) := by
  have := (out_ans h (OkO.memo (mRLast_ok _)) ryear_out_chk rfl rfl).vc rfl rfl
  simpa [conc, conc1, conc0, den_n, den_l] using this
def mRYO : Memo := [(rYear, [nE], .tuple [iL 0, iL 2])]
theorem rfrom_out_chk : (isR (.tuple [.agg [iL 0, iL 0, bL false, iL 0], iL 2]) (base.go vLow (memo mRYO) 60 rFromDay [nE]) && isR (.tuple [.agg [iL 0, iL 0, bL false, iL 0], iL 2]) (base.go vHigh (memo mRYO) 60 rFromDay [nE])) = true := by kernel_rfl
theorem rfrom_out {n : Int} (h : Outside n) : VC base rFromDay [iv n] (.tuple #[.agg #[iv 0, iv 0, .bool false, iv 0], iv 2]) := by
  have hE : Memo.Ok base.P base.G (rho [n]) mRYO := .cons ((ryear_out h).ans rfl rfl (by simp [conc1, conc0, den_n]) (by simp [conc, conc1, conc0, den_l])) .nil
  have := (out_ans h (OkO.memo hE) rfrom_out_chk rfl rfl).vc rfl rfl
  simpa [conc, conc1, conc0, den_n, den_l] using this
end
end Go.Proofs.YtnikgcedifdaeaaGreatDoor.Sab
end

section
/- The cycle of a day: what it answers. -/
set_option linter.unusedVariables false
set_option linter.unusedSimpArgs false
namespace Go.Proofs.YtnikgcedifdaeaaGreatDoor.Sab
open Go Go.Proofs.YtnikgcedifdaeaaGreatDoor.Ab
set_option maxRecDepth 100000
noncomputable section
theorem mem_daysN : ∀ (n : Nat) (i : Int), 0 ≤ i → i < Int.ofNat n → i ∈ daysN n
  | 0, i, h0, h1 => absurd h1 (by simp; omega)
  | n + 1, i, h0, h1 => by
    unfold daysN
    by_cases e : i = Int.ofNat n
    · exact e ▸ List.mem_cons_self ..
    · refine List.mem_cons_of_mem _ (mem_daysN n i h0 ?_)
      simp only [Int.ofNat_eq_natCast] at *
      omega
theorem mons_num : allB (fun t => allB (fun m => ile 1 m.num && ile m.num 12) (mons t) && ile (tyLen t) 385) tyList = true := by decide +kernel
/-- The date of any day of a year. -/
theorem from_any {y : Int} {t : Ty} (h : YT y t) (o : Int) (o0 : 0 ≤ o) (o1 : o < tyLen t) : ∃ num d ad, 1 ≤ num ∧ num ≤ 12 ∧ 1 ≤ d ∧ d ≤ 30 ∧ VC base fFromDay [iv (Cal.first y + o)] (.tuple #[.agg #[iv y, iv num, .bool ad, iv d], iv 0]) := by
  have c2 := of_ty mons_num h
  simp only [Bool.and_eq_true, ile_iff] at c2
  have c := allB_get (of_ty mon_chk h) o (mem_daysN 390 o o0 (by simp; omega))
  cases hm : monOf o (mons t) with
  | none =>
    rw [hm] at c
    have : ile (tyLen t) o = false := by
      cases hb : ile (tyLen t) o with
      | false => rfl
      | true => rw [ile_iff] at hb; omega
    simp [this] at c
  | some m =>
    obtain ⟨h1, h2, h3⟩ := monOf_ok hm
    have b := allB_get (of_ty mons_len h) m h1
    have b2 := allB_get c2.1 m h1
    simp only [Bool.and_eq_true, ile_iff] at b b2
    have := from_vc h m h1 (o - m.a) (by omega) (by omega)
    rw [show m.a + (o - m.a) = o by omega] at this
    exact ⟨_, _, _, b2.1, b2.2, by omega, by omega, this⟩
theorem cy_vc {y : Int} {t : Ty} (h : YT y t) (pl : Int) (hp : pl ∈ places) (o : Int) (o0 : 0 ≤ o) (o1 : o < tyLen t) :
    (23 - pl ≤ o → y ≤ 9998 → VC base fCyc [iv (Cal.first y + o), iv pl] (.tuple #[iv y, iv 0])) ∧ (o ≤ 22 - pl → 2 ≤ y → VC base fCyc [iv (Cal.first y + o), iv pl] (.tuple #[iv (y - 1), iv 0])) := by
  obtain ⟨num, d, ad, n0, n1, d0, d1, v⟩ := from_any h o o0 o1
  have h0 := h.low
  have h9 := h.high
  have hw := h.wd
  have c2 := of_ty mons_num h
  simp only [Bool.and_eq_true, ile_iff] at c2
  obtain ⟨f0, f1⟩ := first_bd y h0 (by omega)
  have dn : Lin.den (ry y [o, num, d]) ⟨t.1, [(1, 7), (2, 1)]⟩ = Cal.first y + o := by simp [Lin.den, denT, ry, rho]; omega
  have dnum : Lin.den (ry y [o, num, d]) ⟨0, [(3, 1)]⟩ = num := by simp [Lin.den, denT, ry, rho]
  have dd : Lin.den (ry y [o, num, d]) ⟨0, [(4, 1)]⟩ = d := by simp [Lin.den, denT, ry, rho]
  have hE : Memo.Ok base.P base.G (ry y [o, num, d]) (mCy t ad) := by
    refine .cons (v.ans rfl rfl ?_ ?_) (mEnds_ok (yo := 0) (c := t.1) (by simpa using h) (by simp; omega) _)
    · simp [nO, conc1, conc0, dn]
    · simp [conc, conc1, conc0, den_y, den_l, dnum, dd]
  have hb : ad ∈ bools := by cases ad <;> decide
  have c := allB_get (allB_get (show allB (fun pl => allB (fun ad => isR (.tuple [yE 0, iL 0]) (base.go ⟨[(1, 9998), (-400000, 400000), (23 - pl, 390), (1, 12), (1, 30)], [], []⟩ (memo (mCy t ad)) 100 fCyc [nO t, iL pl]) && isR (.tuple [yE (-1), iL 0]) (base.go ⟨[(2, 9999), (-400000, 400000), (0, 22 - pl), (1, 12), (1, 30)], [], []⟩ (memo (mCy t ad)) 100 fCyc [nO t, iL pl])) bools) places = true from of_ty cy_chk h) pl hp) ad hb
  rw [Bool.and_eq_true] at c
  constructor
  · intro g0 g1
    have := (Base.ansB (ρ := ry y [o, num, d]) base_fit (env_ok (inB_cons h0 g1 (inB_cons (by omega) (by omega) (inB_cons g0 (by omega) (inB_cons n0 n1 (inB_cons d0 d1 inB_nil))))) (by simp) (by simp)) (OkO.memo hE) c.1 rfl rfl).vc rfl rfl
    simpa [nO, conc, conc1, conc0, dn, den_y, den_l] using this
  · intro g0 g1
    have := (Base.ansB (ρ := ry y [o, num, d]) base_fit (env_ok (inB_cons g1 h9 (inB_cons (by omega) (by omega) (inB_cons o0 g0 (inB_cons n0 n1 (inB_cons d0 d1 inB_nil))))) (by simp) (by simp)) (OkO.memo hE) c.2 rfl rfl).vc rfl rfl
    have e : y + -1 = y - 1 := by omega
    simpa [nO, conc, conc1, conc0, dn, den_y, den_l, e] using this
/-- A cycle's days. -/
theorem cyc_vc {y : Int} {t : Ty} (h : YT y t) (h9 : y ≤ 9998) (pl : Int) (hp : pl ∈ places) (o : Int) (o0 : 23 - pl ≤ o) (o1 : o ≤ tyLen t + (22 - pl)) : VC base fCyc [iv (Cal.first y + o), iv pl] (.tuple #[iv y, iv 0]) := by
  have hpl : 0 ≤ pl ∧ pl ≤ 1 := by
    simp only [places, List.mem_cons, List.not_mem_nil, or_false] at hp
    omega
  have h0 := h.low
  by_cases c : o < tyLen t
  · exact (cy_vc h pl hp o (by omega) c).1 o0 h9
  · obtain ⟨u, hu⟩ := yt_of (y + 1) (by omega) (by omega)
    have l := of_ty long_pos hu
    rw [ile_iff] at l
    have := (cy_vc hu pl hp (o - tyLen t) (by omega) (by omega)).2 (by omega) (by omega)
    rw [h.len, show Cal.first y + tyLen t + (o - tyLen t) = Cal.first y + o by omega, show y + 1 - 1 = y by omega] at this
    exact this
end
end Go.Proofs.YtnikgcedifdaeaaGreatDoor.Sab
end
