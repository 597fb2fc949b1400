/- Texts of the proof, joined by a program (of one law): contracts of functions, plain laws. -/
import Derived.Test.YtnknfolnbhljfaaGreatDoorJToNamesK0
import Derived.Test.YtnknfolnbhljfaaGreatDoorJToNamesK1
import Derived.Test.YtnknfolnbhljfaaGreatDoorJToNamesK2
import Derived.Test.YtnknfolnbhljfaaGreatDoorJToNamesK3
import Derived.Test.YtnknfolnbhljfaaGreatDoorJT9
set_option linter.unusedVariables false
set_option linter.unusedSimpArgs false
set_option linter.unusedSectionVars false
section
/- The portions' names: the law. -/
set_option linter.unusedVariables false
set_option linter.unusedSimpArgs false
namespace Go.Proofs.YtnknfolnbhljfaaGreatDoor.Sab
open Go Go.Proofs.YtnknfolnbhljfaaGreatDoor.Ab
set_option maxRecDepth 100000
noncomputable section
theorem upTo54 : upTo 54 = [0, 1, 2, 3, 4, 5, 6, 7, 8, 9, 10, 11, 12, 13, 14, 15, 16, 17, 18, 19, 20, 21, 22, 23, 24, 25, 26, 27, 28, 29, 30, 31, 32, 33, 34, 35, 36, 37, 38, 39, 40, 41, 42, 43, 44, 45, 46, 47, 48, 49, 50, 51, 52, 53] := by decide +kernel
theorem names_chk : allB okNames (upTo 54) = true := by
  rw [upTo54]
  exact allB_cons names_chk_0 (allB_cons names_chk_1 (allB_cons names_chk_2 (allB_cons names_chk_3 (allB_cons names_chk_4 (allB_cons names_chk_5 (allB_cons names_chk_6 (allB_cons names_chk_7 (allB_cons names_chk_8 (allB_cons names_chk_9 (allB_cons names_chk_10 (allB_cons names_chk_11 (allB_cons names_chk_12 (allB_cons names_chk_13 (allB_cons names_chk_14 (allB_cons names_chk_15 (allB_cons names_chk_16 (allB_cons names_chk_17 (allB_cons names_chk_18 (allB_cons names_chk_19 (allB_cons names_chk_20 (allB_cons names_chk_21 (allB_cons names_chk_22 (allB_cons names_chk_23 (allB_cons names_chk_24 (allB_cons names_chk_25 (allB_cons names_chk_26 (allB_cons names_chk_27 (allB_cons names_chk_28 (allB_cons names_chk_29 (allB_cons names_chk_30 (allB_cons names_chk_31 (allB_cons names_chk_32 (allB_cons names_chk_33 (allB_cons names_chk_34 (allB_cons names_chk_35 (allB_cons names_chk_36 (allB_cons names_chk_37 (allB_cons names_chk_38 (allB_cons names_chk_39 (allB_cons names_chk_40 (allB_cons names_chk_41 (allB_cons names_chk_42 (allB_cons names_chk_43 (allB_cons names_chk_44 (allB_cons names_chk_45 (allB_cons names_chk_46 (allB_cons names_chk_47 (allB_cons names_chk_48 (allB_cons names_chk_49 (allB_cons names_chk_50 (allB_cons names_chk_51 (allB_cons names_chk_52 (allB_cons names_chk_53 (allB_nil))))))))))))))))))))))))))))))))))))))))))))))))))))))
theorem mem_upTo : ∀ (n : Nat) (i : Int), 0 ≤ i → i < Int.ofNat n → i ∈ upTo n
  | 0, i, h0, h1 => absurd h1 (by simp; omega)
  | n + 1, i, h0, h1 => by
    unfold upTo
    by_cases e : i = Int.ofNat n
    · exact List.mem_append.2 (.inr (by simp [e]))
    · refine List.mem_append.2 (.inl (mem_upTo n i h0 ?_))
      simp only [Int.ofNat_eq_natCast] at *
      omega
theorem names_law (a b : Int) (a0 : 0 ≤ a) (a1 : a ≤ 255) (b0 : 0 ≤ b) (b1 : b ≤ 255) : VC baseN fNames [.int .u8 a, .int .u8 b] (.bool true) := by
  have c := allB_get (show allB (fun n => isR (bL true) (baseN.go (vNames (a % 54) n) (memo [(fAwk, [], bL true)]) 60 fNames [.int .u8 ⟨a % 54, [(0, 54)]⟩, .int .u8 ⟨n, [(1, 54)]⟩])) (upTo 54) = true from allB_get names_chk (a % 54) (mem_upTo 54 _ (by omega) (by simp; omega))) (b % 54) (mem_upTo 54 _ (by omega) (by simp; omega))
  have hM : Memo.Ok baseN.P baseN.G (rho [a / 54, b / 54]) [(fAwk, [], bL true)] := .cons (awake_vc.ans rfl rfl rfl rfl) .nil
  have := (Base.ansB (V := vNames (a % 54) (b % 54)) (ρ := rho [a / 54, b / 54]) baseN_fit (env_ok (inB_cons (by omega) (by omega) (inB_cons (by omega) (by omega) inB_nil)) (by simp [vNames]) (by simp [vNames])) (OkO.memo hM) c rfl rfl).vc rfl rfl
  have e1 : a % 54 + 54 * (a / 54) = a := by omega
  have e2 : b % 54 + 54 * (b / 54) = b := by omega
  simpa [conc, conc1, conc0, Lin.den, denT, rho, e1, e2] using this
end
end Go.Proofs.YtnknfolnbhljfaaGreatDoor.Sab
end
