/- Texts of the proof, joined by a program (part 1): contracts of functions, plain laws. -/
import Derived.Test.YtnknfolnbhljfaaGreatDoorJT6
import Derived.Below
import Derived.Deep.Draws
import Derived.OwnWalk
import Derived.Tactics
import Derived.WalkKit
import Derived.KernelRfl
import Derived.RowKit3
import Derived.Deep.LoopGhost
import Derived.Deep.QuietTactic
import Derived.BigQuiet
import Derived.WideLaws
import Derived.Deep.DeepCutAuto
import Derived.Deep.CutBlock
import Derived.Deep.RegionHeld3
import Derived.Laws.Rows
import Derived.OrdersHeld
import Derived.Outline
import Derived.IntWalk
import Derived.RegionTactic
import Derived.Lib.SmallJoins
import Derived.Test.YtnknfolnbhljfaaGreatDoorJT7
set_option linter.unusedVariables false
set_option linter.unusedSimpArgs false
set_option linter.unusedSectionVars false
section
/- The year of a day: a binary search, walked over the shadow program. -/
namespace Go.Proofs.YtnknfolnbhljfaaGreatDoor.Sab
open Go Go.RowKit Go.Proofs.YtnknfolnbhljfaaGreatDoor.Ab Go.Proofs.YtnknfolnbhljfaaGreatDoor.Lift
set_option linter.unusedVariables false
set_option linter.unusedSimpArgs false
/-- A fact that stands aside. -/
structure Aside0 (p : Prop) : Prop where
  out : p
theorem sRefl (w : World) : Same w w := ⟨fun _ _ => rfl, Nat.le_refl _, rfl, rfl, rfl, Nat.le_refl _⟩
theorem sTrans {w v u : World} (a : Same w v) (b : Same v u) : Same w u :=
  ⟨fun c hc => (b.heap c (Nat.lt_of_lt_of_le hc a.size)).trans (a.heap c hc), Nat.le_trans a.size b.size, b.tape.trans a.tape, b.os.trans a.os, b.output.trans a.output, Nat.le_trans a.drawn b.drawn⟩
theorem sDrew (w : World) : Same w w.drew := ⟨fun _ _ => rfl, Nat.le_refl _, rfl, rfl, rfl, Nat.le_succ _⟩
theorem sAlloc (w : World) (o : Obj) : Same w (w.alloc o) :=
  have b : Below w.heap.size w (w.alloc o) := (Below.refl _ _).alloc (Nat.le_refl _) o
  ⟨fun c hc => b.block c hc, b.size, b.tape, b.os, b.output, Nat.le_refl _⟩
theorem sCell {W V : World} {g : Nat} {u : Value} (h : W.cell? ⟨g, 0, none⟩ = some u) (hb : Same W V) : V.cell? ⟨g, 0, none⟩ = some u := by
  by_cases c : g < W.heap.size
  · have e := hb.heap g c
    unfold World.cell? at h ⊢
    simp only [e]
    exact h
  · exfalso
    have : W.heap[g]? = none := by simp; omega
    simp [World.cell?, this] at h
/-- The shadow's types are the program's. -/
theorem sh_under (P : Program) (fU : Nat) (stub : Func) (t : TypeId) : (shadow P fU stub).underlying t = P.underlying t := rfl
theorem sp_under (t : TypeId) : SP.underlying t = Tryz.prog.underlying t := sh_under _ _ _ _
theorem sp_int : SP.underlying 3 = Tryz.prog.underlying 3 := sh_under _ _ _ _
theorem sp_agg (w : World) : Sem.run SP (isAgg 3) w = .ok false w := run_agg (sp_int.trans Tryz.underlying3)
attribute [local go_sem] sp_under sp_agg
/-- What the shadow has of a function that is kept. -/
theorem sp_search : SP.funcs[108]? = some Tryz.f108 := keep108.1
theorem sp_close : SP.funcs[109]? = some Tryz.f109 := keep109.1
theorem sp_year : SP.funcs[64]? = some Tryz.f64 := keep64.1
theorem sp_enter {f : FuncId} {fn : Func} (hf : SP.funcs[f]? = some fn) (hname : (fn.name == "runtime.NumGoroutine") = false) (hb : fn.body.isSome = true) (args : Array Value) (w : World) : (callFunc f args).run SP w = .ok (.enter f args) w := by
  have h1 : fn.name ≠ "runtime.NumGoroutine" := by simpa using hname
  obtain ⟨c, hc⟩ := Option.isSome_iff_exists.1 hb
  simp [callFunc, hf, h1, hc]
/-- Binary search for the least number at which b says true; the numbers from N on say so, too. -/
def up (y : Int) (h : Int) : Bool := decide (y ≤ h)
set_option maxHeartbeats 4000000 in
set_option maxRecDepth 100000 in
theorem sort_search (y : Int) (c : Nat) (ad : Addr) (N : Int) (y0 : 0 ≤ y) (hy : y ≤ N) (hN1 : N ≤ 20000) (w : World) (hc : ∀ args W, (callFunc c args).run SP W = .ok (.enter c args) W)
    (hp : ∀ W h, Same w W → 0 ≤ h → h < N → Calls SP c #[.int .i64 h, .pointer (some ad)] W fun e w' => e = .returned (.bool (decide (y ≤ h))) ∧ Same W w') :
    Calls SP 108 #[.int .i64 N, .func (.func c) #[] #[.pointer (some ad)]] w fun e w' => e = .returned (.int .i64 y) ∧ Same w w' := by
  have HP := Aside0.mk hp
  have HC := Aside0.mk hc
  clear hp hc
  go_enter sp_search, Tryz.ntmps108
  go_wp2_with fail
  go_loopw [5, 6] (fun s5 s6 wr => ∃ (i j : Int), 0 ≤ i ∧ i ≤ y ∧ y ≤ j ∧ j ≤ N ∧ s5 = .int .i64 i ∧ s6 = .int .i64 j ∧ Aside0 (Same w wr)) (fun s5 s6 _ => (intOf s6).toNat - (intOf s5).toNat)
  case atStart => exact ⟨0, N, by omega, y0, hy, by omega, rfl, rfl, ⟨sRefl w⟩⟩
  case round =>
    obtain ⟨i, j, h0, h1, h2, h3, rfl, rfl, HB⟩ := hrel
    by_cases hlt : i < j
    · have HCALL := Aside0.mk (HP.out wr ((i + j) / 2) HB.out (by omega) (by omega))
      go_wp2_with fail
      rw [HC.out, Oper.upon_enter]
      refine HCALL.out.mono ?_
      rintro e W1 ⟨rfl, hb1⟩
      have HB2 : Aside0 (Same w W1) := ⟨sTrans HB.out hb1⟩
      clear hb1 HB HCALL
      by_cases hq : y ≤ (i + j) / 2
      · rw [decide_eq_true hq]
        go_wp2_with fail
        go_round
        case measure => simp [intOf]; omega
        case rel => exact ⟨i, (i + j) / 2, h0, h1, hq, by omega, rfl, rfl, HB2⟩
      · rw [decide_eq_false hq]
        go_wp2_with fail
        go_round
        case measure => simp [intOf]; omega
        case rel => exact ⟨(i + j) / 2 + 1, j, by omega, by omega, h2, h3, by go_num, rfl, HB2⟩
    · have HE := Aside0.mk (show i = y by omega)
      go_wp2_with fail
      go_ret
      exact ⟨by first | rfl | (rw [HE.out]; rfl), HB.out⟩
abbrev fBegins : Nat := 110
abbrev fYear : Nat := 64
set_option maxHeartbeats 4000000 in
set_option maxRecDepth 100000 in
theorem year_closure (n y v : Int) (g : Nat) (W : World) (hc : W.cell? ⟨g, 0, none⟩ = some (.int .i64 n)) (y0 : 0 ≤ y) (y1 : y ≤ 9999) (HB : Aside0 (∀ V, Same W V → Calls SP fBegins #[.int .i64 (y + 1)] V fun e w' => e = .returned (.int .i64 v) ∧ Same V w')) :
    Calls SP 109 #[.int .i64 y, .pointer (some ⟨g, 0, none⟩)] W fun e w' => e = .returned (.bool (decide (v > n))) ∧ Same W w' := by
  have HC := Aside0.mk hc
  have hw : IntKind.i64.wrap (y + 1) = y + 1 := by unfold IntKind.wrap; simp [IntKind.signed, IntKind.bits]; omega
  clear hc
  go_enter sp_close, Tryz.ntmps109
  go_upto_region 1 with fail
  go_cut [3] (fun v3 wc => v3 = .bool (decide (v > n)) ∧ Aside0 (Same W wc))
  case first =>
    go_region_held3 (fun V => Same W V ∧ V.cell? ⟨g, 0, none⟩ = some (.int .i64 n)) (first | (have hz_ : Same W W.drew := sDrew W; exact ⟨hz_, sCell HC.out hz_⟩) | (have hz_ := sTrans (And.left (by assumption)) hb; exact ⟨hz_, sCell HC.out hz_⟩)) (first | (rw [sp_enter keep110.1 rfl rfl, Oper.upon_enter]; refine (HB.out _ (by first | exact sDrew W | exact And.left (by assumption))).mono ?_; rintro e w' ⟨rfl, hb⟩))
    have HD := Aside0.mk (And.left (‹Same W _ ∧ _›))
    go_wp2_with fail
    go_meet
    case rel => exact ⟨rfl, HD⟩
  case rest =>
    obtain ⟨rfl, HD⟩ := hcut
    go_wp2_with fail
    go_ret
    exact ⟨rfl, HD.out⟩
end Go.Proofs.YtnknfolnbhljfaaGreatDoor.Sab
end

section
/- The year of a day: what it answers. -/
namespace Go.Proofs.YtnknfolnbhljfaaGreatDoor.Sab
open Go Go.RowKit Go.Proofs.YtnknfolnbhljfaaGreatDoor.Ab Go.Proofs.YtnknfolnbhljfaaGreatDoor.Lift
set_option linter.unusedVariables false
set_option linter.unusedSimpArgs false
set_option maxRecDepth 100000
attribute [local go_sem] sp_under sp_agg
noncomputable section
theorem sG {w v : World} (h : base.G w) (s : Same w v) : base.G v := fun x hx => (s.heap _ (Array.getElem?_eq_some_iff.1 (h x hx)).1).trans (h x hx)
theorem long_pos : allB (fun t => ile 353 (tyLen t)) tyList = true := by decide +kernel
theorem first_step {y : Int} (h0 : 1 ≤ y) (h1 : y ≤ 9999) : Cal.first y + 353 ≤ Cal.first (y + 1) := by
  obtain ⟨t, ht⟩ := yt_of y h0 h1
  have := of_ty long_pos ht
  rw [ile_iff] at this
  have := ht.len
  omega
theorem first_up (k : Nat) : ∀ (a : Int), 1 ≤ a → a + k ≤ 10000 → Cal.first a + 353 * k ≤ Cal.first (a + k) := by
  induction k with
  | zero => intro a _ _; simp
  | succ k ih =>
    intro a h0 h1
    have := ih a h0 (by omega)
    have := first_step (y := a + k) (by omega) (by omega)
    rw [show a + ((k + 1 : Nat) : Int) = a + k + 1 by omega]
    omega
theorem first_le {a b : Int} (h0 : 1 ≤ a) (h : a ≤ b) (h1 : b ≤ 10000) : Cal.first a ≤ Cal.first b := by
  have := first_up (b - a).toNat a h0 (by omega)
  rw [show a + ((b - a).toNat : Int) = b by omega] at this
  omega
def vBeg : Ab.Env := ⟨[(1, 10000), (-1373427, 2300000)], [], []⟩
def mBeg : Memo := [(fFirst, [iE 0 [(0, 1)]], .tuple [iE 0 [(1, 1)], iL 0])]
theorem begins_chk : isR (iE 0 [(1, 1)]) (base.go vBeg (memo mBeg) 60 fBegins [iE 0 [(0, 1)]]) = true := by kernel_rfl
theorem begins_vc (y : Int) (h0 : 1 ≤ y) (h1 : y ≤ 10000) : VC base fBegins [iv y] (iv (Cal.first y)) := by
  obtain ⟨f0, f1⟩ := first_bd y h0 h1
  have hE : Memo.Ok base.P base.G (rho [y, Cal.first y]) mBeg := by
    refine .cons ((first_vc y h0 h1).ans rfl rfl ?_ ?_) .nil
    all_goals simp [conc, conc1, conc0, Lin.den, denT, rho, Lin.lit]
  have := (Base.ansB (V := vBeg) (ρ := rho [y, Cal.first y]) base_fit (env_ok (inB_cons h0 h1 (inB_cons f0 f1 inB_nil)) (by simp [vBeg]) (by simp [vBeg])) (OkO.memo hE) begins_chk rfl rfl).vc rfl rfl
  simpa [conc, conc1, conc0, Lin.den, denT, rho] using this
abbrev fLast : Nat := 107
def vNone : Ab.Env := ⟨[], [], []⟩
def lastD : Int := 2278650
theorem first_last : Cal.first 10000 = lastD + 1 := by decide +kernel
theorem last_chk : isR (iL lastD) (base.go vNone (memo [(fBegins, [iL 10000], iL (lastD + 1))]) 60 fLast []) = true := by kernel_rfl
theorem last_vc : VC base fLast [] (iv lastD) := by
  have hE : Memo.Ok base.P base.G (rho []) [(fBegins, [iL 10000], iL (lastD + 1))] := by
    refine .cons ((begins_vc 10000 (by decide) (by decide)).ans rfl rfl ?_ ?_) .nil
    · simp [conc1, conc0, den_l]
    · simp [conc, conc1, conc0, den_l, first_last]
  have := (Base.ansB (V := vNone) (ρ := rho []) base_fit (env_ok inB_nil (by simp [vNone]) (by simp [vNone])) (OkO.memo hE) last_chk rfl rfl).vc rfl rfl
  simpa [conc, conc1, conc0, den_l] using this
end
set_option maxHeartbeats 4000000 in
set_option maxRecDepth 100000 in
theorem year_calls (y n : Int) (y0 : 1 ≤ y) (y1 : y ≤ 9999) (n0 : Cal.first y ≤ n) (n1 : n < Cal.first (y + 1)) (w : World) (hG : base.G w) :
    Calls SP fYear #[.int .i64 n] w fun e w' => e = .returned (.tuple #[.int .i64 y, .int .i64 0]) ∧ Same w w' := by
  have HB0 := Aside0.mk (sAlloc w (Obj.cells #[.int .i64 n] 3))
  have HC0 := Aside0.mk (show (w.alloc (Obj.cells #[.int .i64 n] 3)).cell? ⟨w.heap.size, 0, none⟩ = some (.int .i64 n) from (cell_of_row _ _ 0 #[.int .i64 n] 3 (0, 0) (heap_alloc_new w _)).trans rfl)
  have HG := Aside0.mk (sG hG HB0.out)
  have hlow : -1373427 ≤ n := Int.le_trans (first_bd y y0 (by omega)).1 n0
  have htop : n ≤ lastD := by
    have := first_le (a := y + 1) (b := 10000) (by omega) (by omega) (by omega)
    rw [first_last] at this
    omega
  have HS := Aside0.mk (fun (h : Int) (h0 : 0 ≤ h) (h1 : h < 10000) => show decide (Cal.first (h + 1) > n) = decide (y ≤ h) from by
    rw [decide_eq_decide]
    constructor
    · intro hh
      refine Int.not_lt.1 fun hlt => ?_
      have := first_le (a := h + 1) (b := y) (by omega) (by omega) (by omega)
      omega
    · intro hh
      have := first_le (a := y + 1) (b := h + 1) (by omega) (by omega) (by omega)
      omega)
  have HL : Aside0 (∀ V, base.G V → Calls SP fLast #[] V fun e w' => e = .returned (.int .i64 lastD) ∧ Same V w') := ⟨fun V hV => last_vc.calls V hV⟩
  have HBG : Aside0 (∀ V (h : Int), base.G V → 1 ≤ h → h ≤ 10000 → Calls SP fBegins #[.int .i64 h] V fun e w' => e = .returned (.int .i64 (Cal.first h)) ∧ Same V w') := ⟨fun V h hV h0 h1 => (begins_vc h h0 h1).calls V hV⟩
  clear hG n0 n1
  have b1 : decide (n < -1373427) = false := decide_eq_false (by omega)
  have b2 : decide (n > lastD) = false := decide_eq_false (by omega)
  go_enter sp_year, Tryz.ntmps64
  go_upto_region 1 with fail
  generalize w.alloc (Obj.cells #[.int .i64 n] 3) = W at HB0 HC0 HG ⊢
  go_cut [10] (fun v10 wc => v10 = .bool false ∧ Aside0 (Same W wc))
  case first =>
    go_region_held3 (fun V => Same W V ∧ V.cell? ⟨w.heap.size, 0, none⟩ = some (.int .i64 n)) (first | (have hz_ : Same W W.drew := sDrew W; exact ⟨hz_, sCell HC0.out hz_⟩) | (have hz_ := sTrans (And.left (by assumption)) hb; exact ⟨hz_, sCell HC0.out hz_⟩)) (first | (rw [sp_enter keep107.1 rfl rfl, Oper.upon_enter]; refine (HL.out _ (sG HG.out (by first | exact sDrew W | exact And.left (by assumption)))).mono ?_; rintro e w' ⟨rfl, hb⟩))
    have HD := Aside0.mk (And.left (‹Same W _ ∧ _›))
    go_wp2_with fail
    go_meet
    case rel => exact ⟨by first | rfl | simp [b1, b2], HD⟩
  case rest =>
    obtain ⟨rfl, HD⟩ := hcut
    have HX := Aside0.mk (sCell HC0.out HD.out)
    have HSR := Aside0.mk (sort_search y 109 ⟨w.heap.size, 0, none⟩ 10000 (by omega) (by omega) (by omega) wc
      (fun args V => sp_enter sp_close rfl rfl args V)
      (fun V h hV h0 h1 => by
        have := year_closure n h (Cal.first (h + 1)) w.heap.size V (sCell HX.out hV) h0 (by omega) ⟨fun U hU => HBG.out U (h + 1) (sG HG.out (sTrans HD.out (sTrans hV hU))) (by omega) (by omega)⟩
        rw [HS.out h h0 h1] at this
        exact this))
    go_wp2_with fail
    rw [sp_enter sp_search rfl rfl, Oper.upon_enter]
    refine HSR.out.mono ?_
    rintro e W2 ⟨rfl, hb⟩
    have HB2 := Aside0.mk (sTrans HD.out hb)
    clear hb
    go_wp2_with fail
    go_ret2
    exact ⟨rfl, sTrans HB0.out HB2.out⟩
theorem year_vc (y n : Int) (y0 : 1 ≤ y) (y1 : y ≤ 9999) (n0 : Cal.first y ≤ n) (n1 : n < Cal.first (y + 1)) : VC base fYear [iv n] (.tuple #[iv y, iv 0]) :=
  ⟨⟨_, _, keep64.1, keep64.2, rfl⟩, fun w hG => year_calls y n y0 y1 n0 n1 w hG⟩
end Go.Proofs.YtnknfolnbhljfaaGreatDoor.Sab
end

section
/- The date of a day; the cycle of a day. -/
set_option linter.unusedVariables false
set_option linter.unusedSimpArgs false
namespace Go.Proofs.YtnknfolnbhljfaaGreatDoor.Sab
open Go Go.Proofs.YtnknfolnbhljfaaGreatDoor.Ab
set_option maxRecDepth 100000
set_option maxHeartbeats 0
noncomputable section
abbrev fFromDay : Nat := 34
/-- Ahead of a month, its length, number, whether it is the added one. -/
structure Mon where
  a : Int
  len : Int
  num : Int
  ad : Bool
def monsAt (lp : Bool) : Int → Int → List Int → List Mon
  | _, _, [] => []
  | m, a, x :: r => ⟨a, x, bif lp && ile 6 m then m - 1 else m, lp && zero (m - 6)⟩ :: monsAt lp (m + 1) (a + x) r
def mons (t : Ty) : List Mon := monsAt t.2.2 1 0 (lens t)
def vFD (m : Mon) : Ab.Env := ⟨[(1, 9999), (-400000, 400000), (0, m.len - 1)], [], []⟩
def nA (t : Ty) (m : Mon) : AV := iE (t.1 + m.a) [(1, 7), (2, 1)]
def mFD (t : Ty) (m : Mon) : Memo := (fYear, [nA t m], .tuple [yE 0, iL 0]) :: mOf t
def okFrom (t : Ty) : Bool := allB (fun m => isR (.tuple [.agg [yE 0, iL m.num, bL m.ad, iE 1 [(2, 1)]], iL 0]) (base.go (vFD m) (memo (mFD t m)) 200 fFromDay [nA t m])) (mons t)
theorem from_chk : allB okFrom tyList = true := by kernel_rfl
theorem mons_len : allB (fun t => allB (fun m => ile 0 m.a && ile (m.a + m.len) (tyLen t) && ile 1 m.len && ile m.len 30) (mons t)) tyList = true := by decide +kernel
theorem from_vc {y : Int} {t : Ty} (h : YT y t) (m : Mon) (hm : m ∈ mons t) (j : Int) (j0 : 0 ≤ j) (j1 : j ≤ m.len - 1) : VC base fFromDay [iv (Cal.first y + (m.a + j))] (.tuple #[.agg #[iv y, iv m.num, .bool m.ad, iv (1 + j)], iv 0]) := by
  have h0 := h.low
  have h9 := h.high
  have hw := h.wd
  have hl := h.len
  obtain ⟨f0, f1⟩ := first_bd y h0 (by omega)
  have b := allB_get (of_ty mons_len h) m hm
  simp only [Bool.and_eq_true, ile_iff] at b
  obtain ⟨⟨⟨b0, b1⟩, b2⟩, b3⟩ := b
  have dn : Lin.den (ry y [j]) ⟨t.1 + m.a, [(1, 7), (2, 1)]⟩ = Cal.first y + (m.a + j) := by simp [Lin.den, denT, ry, rho]; omega
  have hE : Memo.Ok base.P base.G (ry y [j]) (mFD t m) := by
    refine .cons ((year_vc y (Cal.first y + (m.a + j)) h0 h9 (by omega) (by omega)).ans rfl rfl ?_ ?_) (mOf_ok h [j])
    · simp [nA, conc1, conc0, dn]
    · simp [conc, conc1, conc0, den_y, den_l]
  have := (Base.ansB (V := vFD m) (ρ := ry y [j]) base_fit (env_ok (inB_cons h0 h9 (inB_cons (by omega) (by omega) (inB_cons j0 j1 inB_nil))) (by simp [vFD]) (by simp [vFD])) (OkO.memo hE) (allB_get (show allB (fun m => isR (.tuple [.agg [yE 0, iL m.num, bL m.ad, iE 1 [(2, 1)]], iL 0]) (base.go (vFD m) (memo (mFD t m)) 200 fFromDay [nA t m])) (mons t) = true from of_ty from_chk h) m hm) rfl rfl).vc rfl rfl
  have d1 : Lin.den (ry y [j]) ⟨1, [(2, 1)]⟩ = 1 + j := by simp [Lin.den, denT, ry, rho]
  simpa [nA, conc, conc1, conc0, dn, d1, den_y, den_l] using this
/-- Which month a day is in. -/
def monOf : Int → List Mon → Option Mon
  | _, [] => none
  | o, m :: r => bif ile m.a o && ile o (m.a + m.len - 1) then some m else monOf o r
theorem monOf_ok {o : Int} {m : Mon} : ∀ {l : List Mon}, monOf o l = some m → m ∈ l ∧ m.a ≤ o ∧ o ≤ m.a + m.len - 1
  | [], h => by cases h
  | x :: r, h => by
    unfold monOf at h
    cases hc : ile x.a o && ile o (x.a + x.len - 1) with
    | true =>
      rw [hc] at h
      obtain rfl := Option.some.inj h
      simp only [Bool.and_eq_true, ile_iff] at hc
      exact ⟨List.mem_cons_self .., hc.1, hc.2⟩
    | false =>
      rw [hc] at h
      obtain ⟨h1, h2⟩ := monOf_ok (l := r) h
      exact ⟨List.mem_cons_of_mem _ h1, h2⟩
def daysN : Nat → List Int
  | 0 => []
  | n + 1 => Int.ofNat n :: daysN n
theorem mon_chk : allB (fun t => allB (fun o => match monOf o (mons t) with | some _ => true | none => bif ile (tyLen t) o then true else false) (daysN 390)) tyList = true := by decide +kernel
/-! ### the cycle -/
abbrev fCyc : Nat := 11
def vCy (lo hi : Int) : Ab.Env := ⟨[(1, 9999), (-400000, 400000), (lo, hi), (1, 12), (1, 30)], [], []⟩
def nO (t : Ty) : AV := iE t.1 [(1, 7), (2, 1)]
def mCy (t : Ty) (ad : Bool) : Memo := (fFromDay, [nO t], .tuple [.agg [yE 0, iE 0 [(3, 1)], bL ad, iE 0 [(4, 1)]], iL 0]) :: mEnds t 0 t.1
def okCy (t : Ty) : Bool := allB (fun pl => allB (fun ad => isR (.tuple [yE 0, iL 0]) (base.go ⟨[(1, 9998), (-400000, 400000), (23 - pl, 390), (1, 12), (1, 30)], [], []⟩ (memo (mCy t ad)) 100 fCyc [nO t, iL pl]) && isR (.tuple [yE (-1), iL 0]) (base.go ⟨[(2, 9999), (-400000, 400000), (0, 22 - pl), (1, 12), (1, 30)], [], []⟩ (memo (mCy t ad)) 100 fCyc [nO t, iL pl])) bools) places
theorem cy_chk : allB okCy tyList = true := by kernel_rfl
end
end Go.Proofs.YtnknfolnbhljfaaGreatDoor.Sab
end

section
/- The cycle of a day: what it answers. -/
set_option linter.unusedVariables false
set_option linter.unusedSimpArgs false
namespace Go.Proofs.YtnknfolnbhljfaaGreatDoor.Sab
open Go Go.Proofs.YtnknfolnbhljfaaGreatDoor.Ab
set_option maxRecDepth 100000
noncomputable section
theorem mem_daysN : ∀ (n : Nat) (i : Int), 0 ≤ i → i < Int.ofNat n → i ∈ daysN n
  | 0, i, h0, h1 => absurd h1 (by simp; omega)
  | n + 1, i, h0, h1 => by
    unfold daysN
    by_cases e : i = Int.ofNat n
    · exact e ▸ List.mem_cons_self ..
    · refine List.mem_cons_of_mem _ (mem_daysN n i h0 ?_)
      simp only [Int.ofNat_eq_natCast] at *
      omega
theorem mons_num : allB (fun t => allB (fun m => ile 1 m.num && ile m.num 12) (mons t) && ile (tyLen t) 385) tyList = true := by decide +kernel
/-- The date of any day of a year. -/
theorem from_any {y : Int} {t : Ty} (h : YT y t) (o : Int) (o0 : 0 ≤ o) (o1 : o < tyLen t) : ∃ num d ad, 1 ≤ num ∧ num ≤ 12 ∧ 1 ≤ d ∧ d ≤ 30 ∧ VC base fFromDay [iv (Cal.first y + o)] (.tuple #[.agg #[iv y, iv num, .bool ad, iv d], iv 0]) := by
  have c2 := of_ty mons_num h
  simp only [Bool.and_eq_true, ile_iff] at c2
  have c := allB_get (of_ty mon_chk h) o (mem_daysN 390 o o0 (by simp; omega))
  cases hm : monOf o (mons t) with
  | none =>
    rw [hm] at c
    have : ile (tyLen t) o = false := by
      cases hb : ile (tyLen t) o with
      | false => rfl
      | true => rw [ile_iff] at hb; omega
    simp [this] at c
  | some m =>
    obtain ⟨h1, h2, h3⟩ := monOf_ok hm
    have b := allB_get (of_ty mons_len h) m h1
    have b2 := allB_get c2.1 m h1
    simp only [Bool.and_eq_true, ile_iff] at b b2
    have := from_vc h m h1 (o - m.a) (by omega) (by omega)
    rw [show m.a + (o - m.a) = o by omega] at this
    exact ⟨_, _, _, b2.1, b2.2, by omega, by omega, this⟩
theorem cy_vc {y : Int} {t : Ty} (h : YT y t) (pl : Int) (hp : pl ∈ places) (o : Int) (o0 : 0 ≤ o) (o1 : o < tyLen t) :
    (23 - pl ≤ o → y ≤ 9998 → VC base fCyc [iv (Cal.first y + o), iv pl] (.tuple #[iv y, iv 0])) ∧ (o ≤ 22 - pl → 2 ≤ y → VC base fCyc [iv (Cal.first y + o), iv pl] (.tuple #[iv (y - 1), iv 0])) := by
  obtain ⟨num, d, ad, n0, n1, d0, d1, v⟩ := from_any h o o0 o1
  have h0 := h.low
  have h9 := h.high
  have hw := h.wd
  have c2 := of_ty mons_num h
  simp only [Bool.and_eq_true, ile_iff] at c2
  obtain ⟨f0, f1⟩ := first_bd y h0 (by omega)
  have dn : Lin.den (ry y [o, num, d]) ⟨t.1, [(1, 7), (2, 1)]⟩ = Cal.first y + o := by simp [Lin.den, denT, ry, rho]; omega
  have dnum : Lin.den (ry y [o, num, d]) ⟨0, [(3, 1)]⟩ = num := by simp [Lin.den, denT, ry, rho]
  have dd : Lin.den (ry y [o, num, d]) ⟨0, [(4, 1)]⟩ = d := by simp [Lin.den, denT, ry, rho]
  have hE : Memo.Ok base.P base.G (ry y [o, num, d]) (mCy t ad) := by
    refine .cons (v.ans rfl rfl ?_ ?_) (mEnds_ok (yo := 0) (c := t.1) (by simpa using h) (by simp; omega) _)
    · simp [nO, conc1, conc0, dn]
    · simp [conc, conc1, conc0, den_y, den_l, dnum, dd]
  have hb : ad ∈ bools := by cases ad <;> decide
  have c := allB_get (allB_get (show allB (fun pl => allB (fun ad => isR (.tuple [yE 0, iL 0]) (base.go ⟨[(1, 9998), (-400000, 400000), (23 - pl, 390), (1, 12), (1, 30)], [], []⟩ (memo (mCy t ad)) 100 fCyc [nO t, iL pl]) && isR (.tuple [yE (-1), iL 0]) (base.go ⟨[(2, 9999), (-400000, 400000), (0, 22 - pl), (1, 12), (1, 30)], [], []⟩ (memo (mCy t ad)) 100 fCyc [nO t, iL pl])) bools) places = true from of_ty cy_chk h) pl hp) ad hb
  rw [Bool.and_eq_true] at c
  constructor
  · intro g0 g1
    have := (Base.ansB (ρ := ry y [o, num, d]) base_fit (env_ok (inB_cons h0 g1 (inB_cons (by omega) (by omega) (inB_cons g0 (by omega) (inB_cons n0 n1 (inB_cons d0 d1 inB_nil))))) (by simp) (by simp)) (OkO.memo hE) c.1 rfl rfl).vc rfl rfl
    simpa [nO, conc, conc1, conc0, dn, den_y, den_l] using this
  · intro g0 g1
    have := (Base.ansB (ρ := ry y [o, num, d]) base_fit (env_ok (inB_cons g1 h9 (inB_cons (by omega) (by omega) (inB_cons o0 g0 (inB_cons n0 n1 (inB_cons d0 d1 inB_nil))))) (by simp) (by simp)) (OkO.memo hE) c.2 rfl rfl).vc rfl rfl
    have e : y + -1 = y - 1 := by omega
    simpa [nO, conc, conc1, conc0, dn, den_y, den_l, e] using this
/-- A cycle's days. -/
theorem cyc_vc {y : Int} {t : Ty} (h : YT y t) (h9 : y ≤ 9998) (pl : Int) (hp : pl ∈ places) (o : Int) (o0 : 23 - pl ≤ o) (o1 : o ≤ tyLen t + (22 - pl)) : VC base fCyc [iv (Cal.first y + o), iv pl] (.tuple #[iv y, iv 0]) := by
  have hpl : 0 ≤ pl ∧ pl ≤ 1 := by
    simp only [places, List.mem_cons, List.not_mem_nil, or_false] at hp
    omega
  have h0 := h.low
  by_cases c : o < tyLen t
  · exact (cy_vc h pl hp o (by omega) c).1 o0 h9
  · obtain ⟨u, hu⟩ := yt_of (y + 1) (by omega) (by omega)
    have l := of_ty long_pos hu
    rw [ile_iff] at l
    have := (cy_vc hu pl hp (o - tyLen t) (by omega) (by omega)).2 (by omega) (by omega)
    rw [h.len, show Cal.first y + tyLen t + (o - tyLen t) = Cal.first y + o by omega, show y + 1 - 1 = y by omega] at this
    exact this
end
end Go.Proofs.YtnknfolnbhljfaaGreatDoor.Sab
end

section
/- The reference's calendar: what it answers is the same. -/
set_option linter.unusedVariables false
set_option linter.unusedSimpArgs false
namespace Go.Proofs.YtnknfolnbhljfaaGreatDoor.Sab
open Go Go.Proofs.YtnknfolnbhljfaaGreatDoor.Ab
set_option maxRecDepth 100000
noncomputable section
abbrev rWeek : Nat := 12
abbrev rIs : Nat := 28
abbrev rBefore : Nat := 118
abbrev rFirst : Nat := 37
abbrev rOf : Nat := 13
abbrev rDay : Nat := 29
set_option maxHeartbeats 0
theorem rweek_pos : allB (fun c => isR (iL c) (base.go vPos noO 60 rWeek [iE c [(0, 7)]])) seven = true := by kernel_rfl
theorem rweek_neg : allB (fun c => isR (iL c) (base.go vNeg noO 60 rWeek [iE c [(0, 7)]])) seven = true := by kernel_rfl
theorem rweek_vc (a : Int) (h0 : -1152921504606846976 ≤ a) (h1 : a ≤ 1152921504606846976) : VC base rWeek [iv a] (iv (a % 7)) := by
  have e : Lin.den (rho [a / 7]) ⟨a % 7, [(0, 7)]⟩ = a := by simp [Lin.den, denT, rho]; omega
  have r : Ans base.P base.G (rho [a / 7]) rWeek [iE (a % 7) [(0, 7)]] (iL (a % 7)) := by
    by_cases hs : 0 ≤ a / 7
    · exact Base.ansB (V := vPos) base_fit (env_ok (inB_cons hs (by omega) inB_nil) (by simp) (by simp)) OkO.none (of_seven rweek_pos _ (by omega) (by omega)) rfl rfl
    · exact Base.ansB (V := vNeg) base_fit (env_ok (inB_cons (by omega) (by omega) inB_nil) (by simp) (by simp)) OkO.none (of_seven rweek_neg _ (by omega) (by omega)) rfl rfl
  have := r.vc rfl rfl
  simpa [conc1, conc0, conc, e] using this
def vIs : Env := ⟨[(0, 526)], [], []⟩
theorem ris_chk : allB (fun c => isR (bL (ile ((7 * c + 1) % 19) 6)) (base.go vIs noO 60 rIs [iE c [(0, 19)]])) nineteen = true := by kernel_rfl
theorem ris_vc (y : Int) (h0 : 0 ≤ y) (h1 : y ≤ 10001) : VC base rIs [iv y] (.bool (Cal.leap y)) := by
  have e : Lin.den (rho [y / 19]) ⟨y % 19, [(0, 19)]⟩ = y := by simp [Lin.den, denT, rho]; omega
  have el : ile ((7 * (y % 19) + 1) % 19) 6 = Cal.leap y := by
    unfold Cal.leap
    rw [Bool.eq_iff_iff, ile_iff, decide_eq_true_iff, show 7 * y + 1 = 7 * (y % 19) + 1 + 19 * (7 * (y / 19)) by omega, Int.add_mul_emod_self_left]
    generalize (7 * (y % 19) + 1) % 19 = z
    omega
  have r := Base.ansB (B := base) (V := vIs) (ρ := rho [y / 19]) base_fit (env_ok (inB_cons (by omega) (by omega) inB_nil) (by simp) (by simp)) OkO.none (of_nineteen ris_chk (y % 19) (by omega) (by omega)) rfl rfl
  have := r.vc rfl rfl
  simpa [conc1, conc0, conc, e, el] using this
theorem rbefore_chk : isR (.tuple [iE 0 [(1, 1)], iL 0]) (base.go vBefore noO 60 rBefore [iE 0 [(0, 1)]]) = true := by kernel_rfl
theorem rbefore_vc (y : Int) (h0 : 1 ≤ y) (h1 : y ≤ 10001) : VC base rBefore [iv y] (.tuple #[iv (Cal.before y), iv 0]) := by
  obtain ⟨b0, b1⟩ := before_bd h0 h1
  have hb : Cal.before y = (235 * y - 234) / 19 := rfl
  have r := Base.ansB (B := base) (V := vBefore) (ρ := rho [y, Cal.before y]) base_fit (env_ok (inB_cons h0 h1 (inB_cons b0 b1 inB_nil)) (by
    simp [Lin.den, denT, rho]
    omega) (by
    simp [Lin.den, denT, rho]
    omega)) OkO.none rbefore_chk rfl rfl
  have := r.vc rfl rfl
  simpa [conc1, conc0, conc, Lin.den, denT, rho, Lin.lit] using this
def mRFirst (w : Int) (lp af : Bool) : Memo := [(rWeek, [iE (-1373427) [(2, 1)]], iL w), (rIs, [iE 0 [(0, 1)]], bL lp), (rIs, [iE (-1) [(0, 1)]], bL af), (rBefore, [iE 0 [(0, 1)]], .tuple [iE 0 [(1, 1)], iL 0])]
def okRFirst (w : Int) (r : Int × Int) (lp af : Bool) : Bool := isR (.tuple [iE (-1373427 + dlK w r.1 lp af) [(2, 1)], iL 0]) (base.go (vFirst r.1 r.2) (memo (mRFirst w lp af)) 60 rFirst [iE 0 [(0, 1)]])
theorem rfirst_chk : allB (fun w => allB (fun r => allB (fun lp => allB (fun af => okRFirst w r lp af) bools) bools) regs) seven = true := by kernel_rfl
theorem rfirst_vc (y : Int) (h0 : 1 ≤ y) (h1 : y ≤ 10000) : VC base rFirst [iv y] (.tuple #[iv (Cal.first y), iv 0]) := by
  obtain ⟨b0, b1⟩ := before_bd h0 (by omega)
  have hf : Cal.first y = Cal.md y + Cal.delay (Cal.md y) (Cal.mp y) (Cal.leap y) (Cal.leap (y - 1)) := rfl
  have hmd : Cal.md y = (5604 + 765433 * Cal.before y) / 25920 - 1373427 := rfl
  have hmp : Cal.mp y = (5604 + 765433 * Cal.before y) % 25920 := rfl
  have vb := rbefore_vc y h0 (by omega)
  have vl := ris_vc y (by omega) (by omega)
  have vl2 := ris_vc (y - 1) (by omega) (by omega)
  generalize Cal.before y = B at b0 b1 hmd hmp vb
  generalize Cal.leap y = lp at hf vl
  generalize Cal.leap (y - 1) = af at hf vl2
  obtain ⟨D, hD⟩ : ∃ D, D = (5604 + 765433 * B) / 25920 := ⟨_, rfl⟩
  have hp : 0 ≤ Cal.mp y ∧ Cal.mp y < 25920 := by rw [hmp]; omega
  have hDp : 5604 + 765433 * B - 25920 * D = Cal.mp y := by rw [hmp, hD]; omega
  have hmd' : Cal.md y = D - 1373427 := by rw [hmd, hD]
  obtain ⟨r, hr, r0, r1⟩ := reg_of (Cal.mp y) hp.1 hp.2
  have wk := rweek_vc (D - 1373427) (by omega) (by omega)
  have hE : Memo.Ok base.P base.G (rho [y, B, D, 765433 * B / 4294967296]) (mRFirst ((D - 1373427) % 7) lp af) := by
    refine .cons (wk.ans rfl rfl ?_ ?_) (.cons (vl.ans rfl rfl ?_ ?_) (.cons (vl2.ans rfl rfl ?_ ?_) (.cons (vb.ans rfl rfl ?_ ?_) .nil)))
    all_goals simp [conc, conc1, conc0, Lin.den, denT, rho, Lin.lit]
    all_goals omega
  have hb : ∀ b : Bool, b ∈ bools := by decide
  have hA := Base.ansB (B := base) (V := vFirst r.1 r.2) (ρ := rho [y, B, D, 765433 * B / 4294967296]) base_fit (env_ok (inB_cons h0 h1 (inB_cons b0 b1 (inB_cons (by omega) (by omega) (inB_cons (by omega) (by omega) inB_nil)))) (by
    simp [Lin.den, denT, rho]
    omega) (by
    simp [Lin.den, denT, rho, hD])) (OkO.memo hE) (allB_get (allB_get (allB_get (of_seven rfirst_chk ((D - 1373427) % 7) (by omega) (by omega)) r hr) lp (hb lp)) af (hb af)) rfl rfl
  have := hA.vc rfl rfl
  have e : -1373427 + dlK ((D - 1373427) % 7) r.1 lp af + D = Cal.first y := by
    rw [hf, dlK_eq, ← off_reg _ _ _ _ r hr r0 r1, ← hmd']
    unfold Cal.delay
    omega
  simpa [conc1, conc0, conc, Lin.den, denT, rho, Lin.lit, e] using this
/-! ### the year's type -/
def mRTy (t : Ty) : Memo := [(rFirst, [yE 0], .tuple [dE t.1, iL 0]), (rFirst, [yE 1], .tuple [dE (t.1 + tyLen t), iL 0]), (rIs, [yE 0], bL t.2.2), (rWeek, [dE t.1], iL t.1)]
theorem mRTy_ok {y : Int} {t : Ty} (h : YT y t) (l : List Int) : Memo.Ok base.P base.G (ry y l) (mRTy t) := by
  have h0 := h.low
  have h1 := h.high
  obtain ⟨f0, f1⟩ := first_bd y h0 (by omega)
  refine .cons ((rfirst_vc y h0 (by omega)).ans rfl rfl ?_ ?_) (.cons ((rfirst_vc (y + 1) (by omega) (by omega)).ans rfl rfl ?_ ?_) (.cons ((ris_vc y (by omega) (by omega)).ans rfl rfl ?_ ?_) (.cons ((rweek_vc (Cal.first y) (by omega) (by omega)).ans rfl rfl ?_ ?_) .nil)))
  · simp [conc1, conc0, den_y]
  · simp [conc, conc1, conc0, den_f0 h, den_l]
  · simp [conc1, conc0, den_y]
  · simp [conc, conc1, conc0, den_f h, den_l, h.len]
  · simp [conc1, conc0, den_y]
  · simp [conc, conc1, conc0, den_l, h.leap]
  · simp [conc1, conc0, den_f0 h]
  · simp [conc, conc1, conc0, den_l, h.wd]
theorem rof_chk : allB (fun t => isR (ofR t) (base.go vTy (memo (mRTy t)) 60 rOf [yE 0])) tyList = true := by kernel_rfl
theorem rof_vc {y : Int} {t : Ty} (h : YT y t) : VC base rOf [iv y] (.tuple #[.agg #[iv t.1, iv t.2.1, .bool t.2.2], iv 0]) := by
  have := (Base.ansB base_fit (vTy_ok h) (OkO.memo (mRTy_ok h [])) (of_ty rof_chk h) rfl rfl).vc rfl rfl
  simpa [ofR, conc, conc1, conc0, den_y, den_l] using this
def mROf (t : Ty) : Memo := (rOf, [yE 0], ofR t) :: mRTy t
theorem mROf_ok {y : Int} {t : Ty} (h : YT y t) (l : List Int) : Memo.Ok base.P base.G (ry y l) (mROf t) := by
  refine .cons ((rof_vc h).ans rfl rfl ?_ ?_) (mRTy_ok h l)
  · simp [conc1, conc0, den_y]
  · simp [ofR, conc, conc1, conc0, den_l]
end
end Go.Proofs.YtnknfolnbhljfaaGreatDoor.Sab
end

section
/- Sabbaths are weeks from one another: what is to be checked. -/
set_option linter.unusedVariables false
set_option linter.unusedSimpArgs false
namespace Go.Proofs.YtnknfolnbhljfaaGreatDoor.Sab
open Go Go.Proofs.YtnknfolnbhljfaaGreatDoor.Ab
set_option maxRecDepth 100000
noncomputable section
abbrev fWeeks : Nat := 3
abbrev fAwake23 : Nat := 14
def vLaw23 : Ab.Env := ⟨[(1, 9997), (-400000, 400000), (0, 6), (0, 127)], [], [(⟨-1, [(0, 1), (2, 9997)]⟩, 9997, 2)]⟩
def arg23 : AV := .int .u16 ⟨-1, [(0, 1), (2, 9997)]⟩
def argP23 (pl : Int) : AV := .int .u8 ⟨pl, [(3, 2)]⟩
def rowN (p : Ty × Ty) (pl : Int) : LR := ⟨(allOff p.2 pl).map fun o => dE (p.1.1 + tyLen p.1 + o), 3, 1, (allOff p.2 pl).length, some 0, true⟩
def mlWeeks (p : Ty × Ty) (pl : Int) : LMemo := [(fAll, [yE 0, iL pl], rowI p.1 (allOff p.1 pl)), (fAll, [yE 1, iL pl], rowN p pl), (fFree, [yE 0, iL pl], rowI p.1 (freeOff p.1 pl))]
def mWeeks (t : Ty) (pl : Int) : Memo := [(fAwake23, [], bL true), (rOf, [yE 0], ofR t)] ++ ((allOff t pl).map fun o => (fCyc, [dE (t.1 + o), iL pl], .tuple [yE 0, iL 0])) ++ ((allOff t pl).map fun o => (rWeek, [dE (t.1 + o)], iL 6))
def okWeeks (p : Ty × Ty) (pl : Int) : Bool := isR (bL true) (base.goL vLaw23 (memo (mWeeks p.1 pl)) (memoL (mlWeeks p pl)) 400 fWeeks [arg23, argP23 pl])
def okWeek2 (p : Ty × Ty) : Bool := allB (fun pl => okWeeks p pl) places
end
end Go.Proofs.YtnknfolnbhljfaaGreatDoor.Sab
end
