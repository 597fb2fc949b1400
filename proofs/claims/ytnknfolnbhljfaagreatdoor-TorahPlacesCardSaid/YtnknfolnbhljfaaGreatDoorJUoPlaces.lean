/- Texts of the proof, joined by a program (of one law): contracts of functions, plain laws. -/
import Derived.Test.YtnknfolnbhljfaaGreatDoorJUoPlacesK0
import Derived.Test.YtnknfolnbhljfaaGreatDoorJUoPlacesK1
import Derived.Test.YtnknfolnbhljfaaGreatDoorJU1
set_option linter.unusedVariables false
set_option linter.unusedSimpArgs false
set_option linter.unusedSectionVars false
section
/- The readings in the two places: the law. -/
set_option linter.unusedVariables false
set_option linter.unusedSimpArgs false
namespace Go.Proofs.YtnknfolnbhljfaaGreatDoor.Sab
open Go Go.Proofs.YtnknfolnbhljfaaGreatDoor.Ab
set_option maxRecDepth 100000
noncomputable section
theorem places_chk : allB okPlaces tyList = true :=
  allB_cons places_chk_0 (allB_cons places_chk_1 (allB_cons places_chk_2 (allB_cons places_chk_3 (allB_cons places_chk_4 (allB_cons places_chk_5 (allB_cons places_chk_6 (allB_cons places_chk_7 (allB_cons places_chk_8 (allB_cons places_chk_9 (allB_cons places_chk_10 (allB_cons places_chk_11 (allB_cons places_chk_12 (allB_cons places_chk_13 (allB_nil))))))))))))))
theorem places_law (a : Int) (a0 : 0 ≤ a) (a1 : a ≤ 65535) : VC baseN fPlaces [.int .u16 a] (.bool true) := by
  obtain ⟨k, hk⟩ : ∃ k, k = 1 + a % 9998 := ⟨_, rfl⟩
  obtain ⟨q, hq⟩ : ∃ q, q = a / 9998 := ⟨_, rfl⟩
  obtain ⟨p, hp⟩ := yp_of k (by omega) (by omega)
  have h9 : k ≤ 9998 := by omega
  have c := of_ty places_chk hp.a
  have hM := Memo.Ok.append (mAwk_ok (ry k [q, 0])) (mRParts_ok hp.a h9 [q, 0] (allOff p.1 0) (offs_bd (t := p.1) (pl := 0) _ (allB_get (of_ty all_bd hp.a) 0 (by decide))))
  have hL : LMemo.Ok baseN.P baseN.G (ry k [q, 0]) (lT p.1 0 ++ lT p.1 1) := .cons (lT_ok hp h9 _ 0 (by decide)) (.cons (lT_ok hp h9 _ 1 (by decide)) .nil)
  have := (Base.ansL (ρ := ry k [q, 0]) baseN_fit (law24_ok (by omega) h9 (by omega) (by omega) (by omega) (by omega)) (OkO.memo hM) (OkL.memo hL) c rfl rfl).vc rfl rfl
  have e : -1 + (k + 9998 * q) = a := by omega
  simpa [argY, conc, conc1, conc0, Lin.den, denT, ry, rho, e] using this
end
end Go.Proofs.YtnknfolnbhljfaaGreatDoor.Sab
end
