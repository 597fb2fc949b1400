/- What the printed Lean function of 'almanackerlaw09.CodeBack' answers: true, at every code and every month. -/
import Derived.Test.YtflpddhoiafhcaaDoorBx4
namespace Go.Proofs.YtflpddhoiafhcaaDoor.B
open Go.RowKit
theorem awake09 : almanackerlaw09_awake.f 3 = some true := by decide +kernel
theorem back_tail : ∀ i : Fin 14, ∀ x2 : Bool, ((code_Of.f 5 x2 (wrap64 (1 + ((i.val : Nat) : Int)))).bind fun bt126 => ((code_Place.f 5 x2 bt126.1 bt126.2.1).bind fun bt130 => ((code_Of.f 5 x2 (wrap64 ((wrap64 (1 + ((i.val : Nat) : Int))) + 1))).bind fun bt132 => (if x2 = true then (almanackerlaw09_CodeBack.j1 5 (wrap64 (1 + ((i.val : Nat) : Int))) bt126.2.2 bt130.1 bt130.2 bt132.2.2 13 bt126.1 bt126.2.1 bt132.1 bt132.2.1) else (almanackerlaw09_CodeBack.j1 5 (wrap64 (1 + ((i.val : Nat) : Int))) bt126.2.2 bt130.1 bt130.2 bt132.2.2 12 bt126.1 bt126.2.1 bt132.1 bt132.2.1))))) = some true := by decide +kernel
theorem back_j0 (x1 : Int) (x2 : Bool) (h0 : 0 ≤ x1) (h1 : x1 ≤ 255) : almanackerlaw09_CodeBack.j0 (5 + 1) x1 x2 false = some true := by
  rw [almanackerlaw09_CodeBack.j0]
  rw [if_neg (by decide)]
  have hw : wrap64 x1 = x1 := by unfold wrap64; omega
  have ht : ∃ i : Fin 14, Int.tmod (wrap64 x1) 14 = ((i.val : Nat) : Int) := by
    rw [hw, Int.tmod_eq_emod_of_nonneg h0]
    exact ⟨⟨(x1 % 14).toNat, by omega⟩, by simp; omega⟩
  obtain ⟨i, hi⟩ := ht
  rw [hi]
  exact back_tail i x2
theorem codeBack_true (n : Int) (l : Bool) (m : Int) (leap : Bool) (h0 : 0 ≤ m) (h1 : m ≤ 255) : almanackerlaw09_CodeBack.f 6 n l m leap = some true := by
  unfold almanackerlaw09_CodeBack.f code_Text.f code_Read.f
  have hs : (Cal.codeText n l).1.size ≤ 281474976710656 := by
    unfold Cal.codeText Cal.codeBytes
    split
    · cases l <;> (show Array.size _ ≤ _) <;> simp
    · show Array.size _ ≤ _; simp
  rw [Option.bind_some, if_pos hs, Option.bind_some, code_Right_ok, Option.bind_some, Cal.codeText_ok]
  rw [if_neg (by simp)]
  by_cases h : Cal.codeOk n l = true
  · rw [if_pos h, Cal.codeRead_text h, if_pos rfl]
    have e : (!(n == n) || (!(l == l))) = false := by simp
    rw [e]
    exact back_j0 m leap h0 h1
  · rw [if_neg h]
    exact back_j0 m leap h0 h1
end Go.Proofs.YtflpddhoiafhcaaDoor.B
