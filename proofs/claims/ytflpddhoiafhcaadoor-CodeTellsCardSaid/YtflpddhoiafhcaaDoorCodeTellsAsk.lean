/- The argument of 'almanackerlaw09.CodeTells', opened and shut. -/
import Derived.Test.YtflpddhoiafhcaaDoorRows
import Derived.ProofKit
import Derived.OpenShut
import Derived.ChangeSame
import Derived.Lib.SmallJoins
namespace Go.Proofs.YtflpddhoiafhcaaDoor.codeTells
open Go.ChangeShapes Go.WideShapes Go.ChangeAt Go.WideMaps Go.WideElems Go.RowKit Go.Joins
open Go.ChangeMaps (open_string shut_string)
theorem c6 : Tryd.prog.cellsOf 25 = 6 := by kernel_rfl
theorem c2 : Tryd.prog.cellsOf 23 = 2 := by kernel_rfl
theorem c1s : Tryd.prog.cellsOf 9 = 1 := by kernel_rfl
theorem c1i : Tryd.prog.cellsOf 3 = 1 := by kernel_rfl
theorem c1b : Tryd.prog.cellsOf 4 = 1 := by kernel_rfl
theorem array6 {α : Type} {cs : Array α} (h : cs.size = 6) : ∃ a b c d e f, cs = #[a, b, c, d, e, f] := by
  obtain ⟨l⟩ := cs
  match l, h with
  | [a, b, c, d, e, f], _ => exact ⟨a, b, c, d, e, f, rfl⟩
theorem open_code {H : Type} {enc : TypeId × Value → H} {w : World} {base : Nat} {spare : Nat → Bool} {held : Bool} {k : Nat} {a b : Value} {x : DataW H × List MemPlace} (h : DataW.trod enc Tryd.prog w base spare held k 23 [a, b] = some x) :
    ∃ n l, a = .int .i64 n ∧ b = .bool l ∧ x = (.agg [.lit (.int .i64 n), .lit (.bool l)], []) ∧ (Lit.int .i64 n).wf = true := by
  obtain ⟨y0, y1, m, rfl, _, h0, h1⟩ := trod_struct2 Tryd.underlying23 h
  obtain ⟨n, e0, rfl, wn⟩ := DataW.trod_int Tryd.underlying3 h0
  obtain ⟨l, e1, rfl⟩ := DataW.trod_bool Tryd.underlying4 h1
  simp [c1i, c1b] at e0 e1
  exact ⟨n, l, e0, e1, rfl, wn⟩
set_option maxRecDepth 100000 in
theorem open_ask {H : Type} {enc : TypeId × Value → H} {w : World} {base : Nat} {spare : Nat → Bool} {held : Bool} {r : Reach} {b0 : Nat} {v : Value} {d : DataW H} {p : List MemPlace}
    (hv : Value.okWide Tryd.prog w r b0 25 v) (h : DataW.Trod enc Tryd.prog w base spare held 25 v d p) :
    ∃ n l n2 l2 s m, v = .agg #[.int .i64 n, .bool l, .int .i64 n2, .bool l2, .string s, .int .i64 m] ∧
      d = .agg [.agg [.lit (.int .i64 n), .lit (.bool l)], .agg [.lit (.int .i64 n2), .lit (.bool l2)], .lit (.string s.data.toList), .lit (.int .i64 m)] ∧ p = [] ∧
      (Lit.int .i64 n).wf = true ∧ (Lit.int .i64 n2).wf = true ∧ s.size ≤ maxLen ∧ (Lit.int .i64 m).wf = true := by
  obtain ⟨cs, rfl, hsz⟩ := okWide_struct Tryd.underlying25 hv
  have h6 := hsz.trans c6
  clear hsz
  obtain ⟨a, b, c, e, f, g, rfl⟩ := array6 h6
  obtain ⟨fuel, hf⟩ := h
  obtain ⟨y0, y1, y2, y3, k, hx, _, h0, h1, h2, h3⟩ := trod_struct4 Tryd.underlying25 hf
  have g0 : DataW.trod enc Tryd.prog w base spare held k 23 [a, b] = some y0 := by simpa [Value.cells, c2] using h0
  have g1 : DataW.trod enc Tryd.prog w base spare held k 23 [c, e] = some y1 := by simpa [Value.cells, c2] using h1
  have g2 : DataW.trod enc Tryd.prog w base spare held k 9 [f] = some y2 := by simpa [Value.cells, c1s] using h2
  have g3 : DataW.trod enc Tryd.prog w base spare held k 3 [g] = some y3 := by simpa [Value.cells, c1i] using h3
  obtain ⟨n, l, rfl, rfl, rfl, wn⟩ := open_code g0
  obtain ⟨n2, l2, rfl, rfl, rfl, wn2⟩ := open_code g1
  obtain ⟨s, es, rfl, ws⟩ := DataW.trod_string Tryd.underlying9 g2
  obtain ⟨m, em, rfl, wm⟩ := DataW.trod_int Tryd.underlying3 g3
  simp only [List.cons.injEq, and_true] at es em
  subst es; subst em
  simp only [Prod.mk.injEq] at hx
  exact ⟨n, l, n2, l2, s, m, rfl, hx.1, by simpa using hx.2, wn, wn2, ws, wm⟩
theorem shut_code {H : Type} (enc : TypeId × Value → H) (w : World) (base : Nat) (spare : Nat → Bool) (held : Bool) (n : Int) (l : Bool) (wn : (Lit.int .i64 n).wf = true) :
    DataW.trod enc Tryd.prog w base spare held 2 23 [.int .i64 n, .bool l] = some (.agg [.lit (.int .i64 n), .lit (.bool l)], []) := by
  have := trod_struct2_mk (enc := enc) (w := w) (base := base) (spare := spare) (held := held) (n := 1) (cs := [.int .i64 n, .bool l]) (y0 := (.lit (.int .i64 n), [])) (y1 := (.lit (.bool l), [])) Tryd.underlying23 (by simp [c2])
    (by simp [c1i, DataW.trod, Tryd.underlying3, wn]) (by simp [c1b, DataW.trod, Tryd.underlying4])
  simpa using this
set_option maxRecDepth 100000 in
theorem shut_ask {H : Type} (enc : TypeId × Value → H) (w : World) (base : Nat) (spare : Nat → Bool) (held : Bool) (n : Int) (l : Bool) (n2 : Int) (l2 : Bool) (s : ByteArray) (m : Int)
    (wn : (Lit.int .i64 n).wf = true) (wn2 : (Lit.int .i64 n2).wf = true) (ws : s.size ≤ maxLen) (wm : (Lit.int .i64 m).wf = true) :
    DataW.Trod enc Tryd.prog w base spare held 25 (.agg #[.int .i64 n, .bool l, .int .i64 n2, .bool l2, .string s, .int .i64 m]) (.agg [.agg [.lit (.int .i64 n), .lit (.bool l)], .agg [.lit (.int .i64 n2), .lit (.bool l2)], .lit (.string s.data.toList), .lit (.int .i64 m)]) [] := by
  have h0 := shut_code enc w base spare held n l wn
  have h1 := shut_code enc w base spare held n2 l2 wn2
  have h2 : DataW.trod enc Tryd.prog w base spare held 2 9 [.string s] = some (.lit (.string s.data.toList), []) := by simp [DataW.trod, Tryd.underlying9, ws]
  have h3 : DataW.trod enc Tryd.prog w base spare held 2 3 [.int .i64 m] = some (.lit (.int .i64 m), []) := by simp [DataW.trod, Tryd.underlying3, wm]
  have := trod_struct4_mk (enc := enc) (w := w) (base := base) (spare := spare) (held := held) (n := 2) (cs := [.int .i64 n, .bool l, .int .i64 n2, .bool l2, .string s, .int .i64 m])
    (y0 := (.agg [.lit (.int .i64 n), .lit (.bool l)], [])) (y1 := (.agg [.lit (.int .i64 n2), .lit (.bool l2)], [])) (y2 := (.lit (.string s.data.toList), [])) (y3 := (.lit (.int .i64 m), [])) Tryd.underlying25 (by simp [c6])
    (by simpa [c2] using h0) (by simpa [c2] using h1) (by simpa [c1s] using h2) (by simpa [c1i] using h3)
  exact ⟨3, by simpa [Value.cells] using this⟩
end Go.Proofs.YtflpddhoiafhcaaDoor.codeTells
