/- What the printed Lean functions of the reference and of the package answer for codes: the same. -/
import Derived.Test.YtflpddhoiafhcaaDoorCx4
namespace Go.Proofs.YtflpddhoiafhcaaDoor.C
open Go.RowKit
theorem awake09 : almanackerlaw09_awake.f 3 = some true := by decide +kernel
def codeL (l : Bool) : List S23 := ([⟨1, false⟩, ⟨2, false⟩, ⟨3, false⟩, ⟨4, false⟩, ⟨5, false⟩] ++ (if l then [⟨5, true⟩] else []) ++ [⟨6, false⟩, ⟨7, false⟩, ⟨8, false⟩, ⟨9, false⟩, ⟨10, false⟩, ⟨11, false⟩, ⟨12, false⟩] : List S23)
theorem codes_is (l : Bool) : almanackerref09_codes.f 14 l = some (codeL l) := by cases l <;> kernel_rfl
theorem refText (n : Int) (l : Bool) : almanackerref09_Text.f n l = some (Cal.codeText n l) := rfl
theorem less_same (n : Int) (l : Bool) (n2 : Int) (l2 : Bool) : ∃ r, code_Less.f n l n2 l2 = some r ∧ almanackerref09_Less.f n l n2 l2 = some r := by
  unfold code_Less.f almanackerref09_Less.f
  by_cases h1 : n = n2
  · subst h1
    cases l <;> cases l2 <;> simp
  · by_cases h2 : n < n2 <;> simp [h1, h2]
theorem of_same (l : Bool) (m : Int) (h0 : -9223372036854775808 ≤ m) (h1 : m ≤ 9223372036854775807) : ∃ r, code_Of.f 2 l m = some r ∧ almanackerref09_Of.f 14 l m = some r := by
  by_cases hm : 1 ≤ m ∧ m ≤ 13
  · have key : ∀ i : Fin 13, ∀ l : Bool, (code_Of.f 2 l (((i.val : Nat) : Int) + 1)).isSome = true ∧ code_Of.f 2 l (((i.val : Nat) : Int) + 1) = almanackerref09_Of.f 14 l (((i.val : Nat) : Int) + 1) := by decide +kernel
    obtain ⟨k1, k2⟩ := key ⟨(m - 1).toNat, by omega⟩ l
    have e : (((⟨(m - 1).toNat, by omega⟩ : Fin 13).val : Nat) : Int) + 1 = m := by simp; omega
    rw [e] at k1 k2
    obtain ⟨r, hr⟩ := Option.isSome_iff_exists.1 k1
    exact ⟨r, hr, k2 ▸ hr⟩
  · refine ⟨(0, false, false), ?_, ?_⟩
    · have hw : ∀ b, Cal.codeOk m b = false := by
        intro b; unfold Cal.codeOk
        rcases (by omega : m < 1 ∨ m > 13) with h | h
        · simp [show ¬ m > 0 by omega]
        · simp [show ¬ m ≤ 12 by omega]
      have hw2 : m > 5 → ∀ b, Cal.codeOk (wrap64 (m - 1)) b = false := by
        intro h b; unfold Cal.codeOk
        have : wrap64 (m - 1) = m - 1 := by unfold wrap64; omega
        rw [this]
        simp [show ¬ m - 1 ≤ 12 by omega]
      unfold code_Of.f
      cases l
      · rw [if_neg (by decide), code_Of.j0, if_neg (by decide), code_Right_ok, hw]; rfl
      · rw [if_pos rfl, code_Of.j0]
        by_cases h5 : m > 5
        · rw [if_pos (by simpa using h5), code_Right_ok, hw2 h5]; rfl
        · rw [if_neg (by simpa using h5), code_Right_ok, hw]; rfl
    · unfold almanackerref09_Of.f
      rw [codes_is, Option.bind_some]
      rcases (by omega : m < 1 ∨ m > 13) with h | h
      · rw [if_pos h]
      · rw [if_neg (by omega), if_pos (by cases l <;> (show m > (_ : Int)) <;> simp [codeL] <;> omega)]
theorem place_none (n : Int) (l : Bool) (xs : List S23) (hx : ∀ x ∈ xs, x.f0 ≠ n) : ∀ (d i : Nat), i + d = xs.length → xs.length < 100 → almanackerref09_Place.l0 (d + 1) xs i n l = some (0, false)
  | 0, i, h, hl => by
    rw [almanackerref09_Place.l0, if_neg (by omega)]
  | d + 1, i, h, hl => by
    rw [almanackerref09_Place.l0, if_pos (by omega), if_pos (by omega)]
    have e : rd_T23 xs (i : Int) = xs[i]'(by omega) := by simp [rd_T23, List.getD_eq_getElem?_getD, show i < xs.length by omega]
    have hne := hx _ (List.getElem_mem (show i < xs.length by omega))
    rw [e, if_neg (by simp [hne])]
    have hw : wrap64 ((i : Int) + 1) = ((i + 1 : Nat) : Int) := by unfold wrap64; omega
    rw [hw]
    exact place_none n l xs hx d (i + 1) (by omega) hl
theorem place_same (y : Bool) (n : Int) (l : Bool) : ∃ r, code_Place.f 2 y n l = some r ∧ almanackerref09_Place.f 14 y n l = some r := by
  by_cases hn : 1 ≤ n ∧ n ≤ 12
  · have key : ∀ i : Fin 12, ∀ y l : Bool, (code_Place.f 2 y (((i.val : Nat) : Int) + 1) l).isSome = true ∧ code_Place.f 2 y (((i.val : Nat) : Int) + 1) l = almanackerref09_Place.f 14 y (((i.val : Nat) : Int) + 1) l := by decide +kernel
    obtain ⟨k1, k2⟩ := key ⟨(n - 1).toNat, by omega⟩ y l
    have e : (((⟨(n - 1).toNat, by omega⟩ : Fin 12).val : Nat) : Int) + 1 = n := by simp; omega
    rw [e] at k1 k2
    obtain ⟨r, hr⟩ := Option.isSome_iff_exists.1 k1
    exact ⟨r, hr, k2 ▸ hr⟩
  · refine ⟨(0, false), ?_, ?_⟩
    · have hw : Cal.codeOk n l = false := by
        unfold Cal.codeOk
        rcases (by omega : n < 1 ∨ n > 12) with h | h
        · simp [show ¬ n > 0 by omega]
        · simp [show ¬ n ≤ 12 by omega]
      unfold code_Place.f
      rw [code_Right_ok, hw, Option.bind_some, if_neg (by decide), code_Place.j0, if_pos rfl]
    · unfold almanackerref09_Place.f
      rw [codes_is, Option.bind_some]
      have hx : ∀ x ∈ codeL y, x.f0 ≠ n := by
        intro x hx e
        have key : ∀ y : Bool, ∀ x ∈ codeL y, 1 ≤ x.f0 ∧ x.f0 ≤ 12 := by
          intro y; cases y <;> simp [codeL]
        have := key y x hx
        omega
      have hlen : (codeL y).length = 12 ∨ (codeL y).length = 13 := by cases y <;> simp [codeL]
      rcases hlen with h | h
      · exact almanackerref09_Place.mono_l 13 _ _ _ _ _ (place_none n l _ hx 12 0 (by omega) (by omega))
      · exact place_none n l _ hx 13 0 (by omega) (by omega)
theorem read_none (s : ByteArray) (xs : List S23) (hx : ∀ x ∈ xs, (Cal.codeText x.f0 x.f1).1.toList ≠ s.toList) : ∀ (d i : Nat), i + d = xs.length → xs.length < 100 → almanackerref09_Read.l0 (d + 1) s xs i = some (0, false, false)
  | 0, i, h, hl => by
    rw [almanackerref09_Read.l0, if_neg (by omega)]
  | d + 1, i, h, hl => by
    rw [almanackerref09_Read.l0, if_pos (by omega), if_pos (by omega)]
    have e : rd_T23 xs (i : Int) = xs[i]'(by omega) := by simp [rd_T23, List.getD_eq_getElem?_getD, show i < xs.length by omega]
    have hne := hx _ (List.getElem_mem (show i < xs.length by omega))
    rw [e, refText, Option.bind_some, if_neg hne]
    have hw : wrap64 ((i : Int) + 1) = ((i + 1 : Nat) : Int) := by unfold wrap64; omega
    rw [hw]
    exact read_none s xs hx d (i + 1) (by omega) hl
theorem refRead (s : ByteArray) : almanackerref09_Read.f 14 s = some (Cal.codeRead s) := by
  by_cases h : ∃ n l, Cal.codeOk n l = true ∧ (Cal.codeText n l).1 = s
  · obtain ⟨n, l, h1, rfl⟩ := h
    rw [Cal.codeRead_text h1]
    have key : ∀ x ∈ [((5 : Int), true), (1, false), (2, false), (3, false), (4, false), (5, false), (6, false), (7, false), (8, false), (9, false), (10, false), (11, false), (12, false)], almanackerref09_Read.f 14 (Cal.codeText x.1 x.2).1 = some (x.1, x.2, true) := by decide +kernel
    refine key (n, l) ?_
    rcases Cal.codeOk_cases h1 with ⟨h1, h2⟩ | ⟨h1, h2⟩
    · subst h1; subst h2; simp
    · subst h1
      rcases h2 with h2 | h2 | h2 | h2 | h2 | h2 | h2 | h2 | h2 | h2 | h2 | h2 <;> (subst h2; simp)
  · have hr : Cal.codeRead s = (0, false, false) := by
      obtain ⟨n, l, b, hb⟩ : ∃ n l b, Cal.codeRead s = (n, l, b) := ⟨_, _, _, rfl⟩
      cases b
      · obtain ⟨h1, h2⟩ := Cal.codeRead_false hb; rw [hb, h1, h2]
      · have ht := Cal.codeRead_true hb
        exact absurd ⟨n, l, by rw [← Cal.codeText_ok, ht], by rw [ht]⟩ h
    rw [hr]
    unfold almanackerref09_Read.f
    rw [codes_is, Option.bind_some]
    refine read_none s (codeL true) ?_ 13 0 (by simp [codeL]) (by simp [codeL])
    intro x hx e
    refine h ⟨x.f0, x.f1, ?_, ByteArray.ext ?_⟩
    · have key : ∀ x ∈ codeL true, Cal.codeOk x.f0 x.f1 = true := by simp [codeL]; decide
      exact key x hx
    · rw [Lib.toList_data, Lib.toList_data] at e
      exact Array.toList_inj.1 e
end Go.Proofs.YtflpddhoiafhcaaDoor.C
