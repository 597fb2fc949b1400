/- Texts of the proof, joined by a program (of one law): contracts of functions, plain laws. -/
import Derived.Test.YtnknfolnbhljfaaGreatDoorJUoAnchorsK0
import Derived.Test.YtnknfolnbhljfaaGreatDoorJUoAnchorsK1
import Derived.Test.YtnknfolnbhljfaaGreatDoorJUoAnchorsK2
import Derived.Test.YtnknfolnbhljfaaGreatDoorJUoAnchorsK3
import Derived.Test.YtnknfolnbhljfaaGreatDoorJU1
set_option linter.unusedVariables false
set_option linter.unusedSimpArgs false
set_option linter.unusedSectionVars false
section
/- Where the readings stand: the law. -/
set_option linter.unusedVariables false
set_option linter.unusedSimpArgs false
namespace Go.Proofs.YtnknfolnbhljfaaGreatDoor.Sab
open Go Go.Proofs.YtnknfolnbhljfaaGreatDoor.Ab
set_option maxRecDepth 100000
noncomputable section
theorem anchors_chk : allB okAnchors tyList = true :=
  allB_cons anchors_chk_0 (allB_cons anchors_chk_1 (allB_cons anchors_chk_2 (allB_cons anchors_chk_3 (allB_cons anchors_chk_4 (allB_cons anchors_chk_5 (allB_cons anchors_chk_6 (allB_cons anchors_chk_7 (allB_cons anchors_chk_8 (allB_cons anchors_chk_9 (allB_cons anchors_chk_10 (allB_cons anchors_chk_11 (allB_cons anchors_chk_12 (allB_cons anchors_chk_13 (allB_nil))))))))))))))
theorem anchors_law (a b : Int) (a0 : 0 ≤ a) (a1 : a ≤ 65535) (b0 : 0 ≤ b) (b1 : b ≤ 255) : VC baseN fAnchors [.int .u16 a, .int .u8 b] (.bool true) := by
  obtain ⟨k, hk⟩ : ∃ k, k = 1 + a % 9998 := ⟨_, rfl⟩
  obtain ⟨q, hq⟩ : ∃ q, q = a / 9998 := ⟨_, rfl⟩
  obtain ⟨m, hm⟩ : ∃ m, m = b / 2 := ⟨_, rfl⟩
  obtain ⟨pl, hpl⟩ : ∃ pl, pl = b % 2 := ⟨_, rfl⟩
  have hpp : pl ∈ places := by
    rcases (by omega : pl = 0 ∨ pl = 1) with h | h <;> rw [h] <;> decide
  obtain ⟨p, hp⟩ := yp_of k (by omega) (by omega)
  have h9 : k ≤ 9998 := by omega
  have c := allB_get (show allB (fun pl => isR (bL true) (baseN.goL vLaw24 (memo (mAwk ++ mAnc p.1 ++ mRParts p.1 (allOff p.1 pl))) (memoL (lT p.1 pl)) 400 fAnchors [argY, argP pl])) places = true from of_ty anchors_chk hp.a) pl hpp
  have hM := Memo.Ok.append (Memo.Ok.append (mAwk_ok (ry k [q, m])) (.cons (rIs_ans hp.a _) (.cons (rSuk_ans hp _) .nil))) (mRParts_ok hp.a h9 [q, m] (allOff p.1 pl) (offs_bd (t := p.1) (pl := pl) _ (allB_get (of_ty all_bd hp.a) pl hpp)))
  have hL : LMemo.Ok baseN.P baseN.G (ry k [q, m]) (lT p.1 pl) := .cons (lT_ok hp h9 _ pl hpp) .nil
  have := (Base.ansL (ρ := ry k [q, m]) baseN_fit (law24_ok (by omega) h9 (by omega) (by omega) (by omega) (by omega)) (OkO.memo hM) (OkL.memo hL) c rfl rfl).vc rfl rfl
  have e : -1 + (k + 9998 * q) = a := by omega
  have e2 : pl + 2 * m = b := by omega
  simpa [argY, argP, conc, conc1, conc0, Lin.den, denT, ry, rho, e, e2] using this
end
end Go.Proofs.YtnknfolnbhljfaaGreatDoor.Sab
end
