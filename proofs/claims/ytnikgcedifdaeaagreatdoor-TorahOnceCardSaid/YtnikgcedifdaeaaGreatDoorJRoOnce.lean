/- Texts of the proof, joined by a program (of one law): contracts of functions, plain laws. -/
import Derived.Test.YtnikgcedifdaeaaGreatDoorJRoOnceK0
import Derived.Test.YtnikgcedifdaeaaGreatDoorJRoOnceK1
import Derived.Test.YtnikgcedifdaeaaGreatDoorJRoOnceK2
import Derived.Test.YtnikgcedifdaeaaGreatDoorJRoOnceK3
import Derived.Test.YtnikgcedifdaeaaGreatDoorJR10
import Derived.Test.YtnikgcedifdaeaaGreatDoorJRoRefB2
set_option linter.unusedVariables false
set_option linter.unusedSimpArgs false
set_option linter.unusedSectionVars false
section
/- Each portion is read once: the law. -/
set_option linter.unusedVariables false
set_option linter.unusedSimpArgs false
namespace Go.Proofs.YtnikgcedifdaeaaGreatDoor.Sab
open Go Go.Proofs.YtnikgcedifdaeaaGreatDoor.Ab
set_option maxRecDepth 100000
noncomputable section
theorem once_chk : allB okOnce tyList = true :=
  allB_cons once_chk_0 (allB_cons once_chk_1 (allB_cons once_chk_2 (allB_cons once_chk_3 (allB_cons once_chk_4 (allB_cons once_chk_5 (allB_cons once_chk_6 (allB_cons once_chk_7 (allB_cons once_chk_8 (allB_cons once_chk_9 (allB_cons once_chk_10 (allB_cons once_chk_11 (allB_cons once_chk_12 (allB_cons once_chk_13 (allB_nil))))))))))))))
theorem once_law (a b : Int) (a0 : 0 ≤ a) (a1 : a ≤ 65535) (b0 : 0 ≤ b) (b1 : b ≤ 255) : VC baseN fOnce [.int .u16 a, .int .u8 b] (.bool true) := by
  obtain ⟨k, hk⟩ : ∃ k, k = 1 + a % 9998 := ⟨_, rfl⟩
  obtain ⟨q, hq⟩ : ∃ q, q = a / 9998 := ⟨_, rfl⟩
  obtain ⟨m, hm⟩ : ∃ m, m = b / 2 := ⟨_, rfl⟩
  obtain ⟨pl, hpl⟩ : ∃ pl, pl = b % 2 := ⟨_, rfl⟩
  have hpp : pl ∈ places := by
    rcases (by omega : pl = 0 ∨ pl = 1) with h | h <;> rw [h] <;> decide
  obtain ⟨p, hp⟩ := yp_of k (by omega) (by omega)
  have h9 : k ≤ 9998 := by omega
  have c := allB_get (show allB (fun pl => isR (bL true) (baseN.goL vLaw24 (memo mAwk) (memoL (lOnce p.1 pl)) 400 fOnce [argY, argP pl])) places = true from of_ty once_chk hp.a) pl hpp
  have hL : LMemo.Ok baseN.P baseN.G (ry k [q, m]) (lOnce p.1 pl) := by
    refine .cons (lT_ok hp h9 _ pl hpp) (.cons ((rfree_lvc hp h9 pl hpp).toN.ans rfl (pl_row _ _) ?_ ?_) (.cons ((rall_lvc hp.a h9 pl hpp).toN.ans rfl (pl_row _ _) ?_ ?_) .nil))
    · simp [conc1, conc0, den_y, den_l]
    · simp [rowI, conc0, den_f hp.a, Function.comp_def]
    · simp [conc1, conc0, den_y, den_l]
    · simp [rowI, conc0, den_f hp.a, Function.comp_def]
  have := (Base.ansL (ρ := ry k [q, m]) baseN_fit (law24_ok (by omega) h9 (by omega) (by omega) (by omega) (by omega)) (OkO.memo (mAwk_ok _)) (OkL.memo hL) c rfl rfl).vc rfl rfl
  have e : -1 + (k + 9998 * q) = a := by omega
  have e2 : pl + 2 * m = b := by omega
  simpa [argY, argP, conc, conc1, conc0, Lin.den, denT, ry, rho, e, e2] using this
end
end Go.Proofs.YtnikgcedifdaeaaGreatDoor.Sab
end
