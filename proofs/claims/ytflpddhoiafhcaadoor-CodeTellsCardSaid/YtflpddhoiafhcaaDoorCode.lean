/- The text of a code and the code of a text, in plain Lean: no program in sight. -/
import Derived.Lib.AtoiAll
import Derived.Lib.Strings
import Derived.KernelRfl
import Derived.Test.YtflpddhoiafhcaaDoorProg
namespace Go.Proofs.YtflpddhoiafhcaaDoor
namespace Cal
def codeOk (n : Int) (l : Bool) : Bool := decide (n > 0) && decide (n ≤ 12) && (decide (n = 5) || !l)
def codeBytes (n : Nat) (l : Bool) : List UInt8 := [77, 48 + UInt8.ofNat (n / 10), 48 + UInt8.ofNat (n % 10)] ++ (if l then [76] else [])
def codeText (n : Int) (l : Bool) : ByteArray × Bool := if codeOk n l then (⟨(codeBytes n.toNat l).toArray⟩, true) else (⟨#[]⟩, false)
def codeRead (s : ByteArray) : Int × Bool × Bool :=
  match Lib.atoiAll (Lib.trimSuffix (Lib.trimPrefix s.data.toList [77]) [76]) with
  | .ok n => if codeText n (Lib.hasSuffix (Lib.trimPrefix s.data.toList [77]) [76]) = (s, true) then (n, Lib.hasSuffix (Lib.trimPrefix s.data.toList [77]) [76], true) else (0, false, false)
  | _ => (0, false, false)
theorem codeOk_cases {n : Int} {l : Bool} (h : codeOk n l = true) : (n = 5 ∧ l = true) ∨ (l = false ∧ (n = 1 ∨ n = 2 ∨ n = 3 ∨ n = 4 ∨ n = 5 ∨ n = 6 ∨ n = 7 ∨ n = 8 ∨ n = 9 ∨ n = 10 ∨ n = 11 ∨ n = 12)) := by
  simp only [codeOk, Bool.and_eq_true, decide_eq_true_eq, Bool.or_eq_true, Bool.not_eq_true'] at h
  cases l
  · right; refine ⟨rfl, ?_⟩; omega
  · left; simpa using h.2
theorem codeRead_text {n : Int} {l : Bool} (h : codeOk n l = true) : codeRead (codeText n l).1 = (n, l, true) := by
  have key : ∀ x ∈ [((5 : Int), true), (1, false), (2, false), (3, false), (4, false), (5, false), (6, false), (7, false), (8, false), (9, false), (10, false), (11, false), (12, false)], codeRead (codeText x.1 x.2).1 = (x.1, x.2, true) := by decide +kernel
  refine key (n, l) ?_
  rcases codeOk_cases h with ⟨h1, h2⟩ | ⟨h1, h2⟩
  · subst h1; subst h2; simp
  · subst h1
    rcases h2 with h2 | h2 | h2 | h2 | h2 | h2 | h2 | h2 | h2 | h2 | h2 | h2 <;> (subst h2; simp)
theorem codeText_ok (n : Int) (l : Bool) : (codeText n l).2 = codeOk n l := by
  unfold codeText; split <;> simp_all
theorem codeRead_true {s : ByteArray} {n : Int} {l : Bool} (h : codeRead s = (n, l, true)) : codeText n l = (s, true) := by
  unfold codeRead at h
  split at h
  · split at h
    · rename_i h2
      simp only [Prod.mk.injEq] at h
      rw [← h.1, ← h.2.1]; exact h2
    · simp at h
  · simp at h
theorem codeRead_false {s : ByteArray} {n : Int} {l : Bool} (h : codeRead s = (n, l, false)) : n = 0 ∧ l = false := by
  unfold codeRead at h
  split at h
  · split at h
    · simp at h
    · simp at h; exact ⟨h.1.symm, h.2⟩
  · simp at h; exact ⟨h.1.symm, h.2⟩
end Cal
end Go.Proofs.YtflpddhoiafhcaaDoor
