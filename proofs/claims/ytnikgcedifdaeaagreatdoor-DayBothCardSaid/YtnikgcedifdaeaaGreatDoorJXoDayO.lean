/- Texts of the proof, joined by a program (of one law): contracts of functions, plain laws. -/
import Derived.Test.YtnikgcedifdaeaaGreatDoorJXoDayXK0
import Derived.Test.YtnikgcedifdaeaaGreatDoorJXoDayXK2
import Derived.Test.YtnikgcedifdaeaaGreatDoorJXoBothK
import Derived.Test.YtnikgcedifdaeaaGreatDoorJXoBothX
set_option linter.unusedVariables false
set_option linter.unusedSimpArgs false
set_option linter.unusedSectionVars false
section
/- All days of all years. -/
set_option linter.unusedVariables false
namespace Go.Proofs.YtnikgcedifdaeaaGreatDoor.Sab
open Go Go.Proofs.YtnikgcedifdaeaaGreatDoor.Ab
set_option maxRecDepth 100000
noncomputable section
theorem dayx_len : allB (fun pl => allB (fun t => ((dayPts t pl).drop 80).isEmpty) tyList) places = true := by decide +kernel
theorem allB_stepX {α : Type} {p : α → Bool} {l : List α} (n k : Nat) (h : allB p ((l.drop n).take k) = true) (r : allB p (l.drop (n + k)) = true) : allB p (l.drop n) = true :=
  allB_parts k h (by rw [List.drop_drop]; exact r)
theorem dayx_0_0 : okDPs 0 (1, 0, false) = true := by
  have e := List.isEmpty_iff.1 (allB_get (allB_get dayx_len 0 (by decide)) (1, 0, false) (by decide))
  have h : allB (okDP (1, 0, false) 0) ((dayPts (1, 0, false) 0).drop 80) = true := by rw [e]; rfl
  exact (allB_stepX 0 20 dayxk_0_0_0 (allB_stepX 20 20 dayxk_0_0_1 (allB_stepX 40 20 dayxk_0_0_2 (allB_stepX 60 20 dayxk_0_0_3 h))))
theorem dayx_0_1 : okDPs 0 (1, 2, false) = true := by
  have e := List.isEmpty_iff.1 (allB_get (allB_get dayx_len 0 (by decide)) (1, 2, false) (by decide))
  have h : allB (okDP (1, 2, false) 0) ((dayPts (1, 2, false) 0).drop 80) = true := by rw [e]; rfl
  exact (allB_stepX 0 20 dayxk_0_1_0 (allB_stepX 20 20 dayxk_0_1_1 (allB_stepX 40 20 dayxk_0_1_2 (allB_stepX 60 20 dayxk_0_1_3 h))))
theorem dayx_0_2 : okDPs 0 (2, 1, false) = true := by
  have e := List.isEmpty_iff.1 (allB_get (allB_get dayx_len 0 (by decide)) (2, 1, false) (by decide))
  have h : allB (okDP (2, 1, false) 0) ((dayPts (2, 1, false) 0).drop 80) = true := by rw [e]; rfl
  exact (allB_stepX 0 20 dayxk_0_2_0 (allB_stepX 20 20 dayxk_0_2_1 (allB_stepX 40 20 dayxk_0_2_2 (allB_stepX 60 20 dayxk_0_2_3 h))))
theorem dayx_0_3 : okDPs 0 (4, 1, false) = true := by
  have e := List.isEmpty_iff.1 (allB_get (allB_get dayx_len 0 (by decide)) (4, 1, false) (by decide))
  have h : allB (okDP (4, 1, false) 0) ((dayPts (4, 1, false) 0).drop 80) = true := by rw [e]; rfl
  exact (allB_stepX 0 20 dayxk_0_3_0 (allB_stepX 20 20 dayxk_0_3_1 (allB_stepX 40 20 dayxk_0_3_2 (allB_stepX 60 20 dayxk_0_3_3 h))))
theorem dayx_0_4 : okDPs 0 (4, 2, false) = true := by
  have e := List.isEmpty_iff.1 (allB_get (allB_get dayx_len 0 (by decide)) (4, 2, false) (by decide))
  have h : allB (okDP (4, 2, false) 0) ((dayPts (4, 2, false) 0).drop 80) = true := by rw [e]; rfl
  exact (allB_stepX 0 20 dayxk_0_4_0 (allB_stepX 20 20 dayxk_0_4_1 (allB_stepX 40 20 dayxk_0_4_2 (allB_stepX 60 20 dayxk_0_4_3 h))))
theorem dayx_0_5 : okDPs 0 (6, 0, false) = true := by
  have e := List.isEmpty_iff.1 (allB_get (allB_get dayx_len 0 (by decide)) (6, 0, false) (by decide))
  have h : allB (okDP (6, 0, false) 0) ((dayPts (6, 0, false) 0).drop 80) = true := by rw [e]; rfl
  exact (allB_stepX 0 20 dayxk_0_5_0 (allB_stepX 20 20 dayxk_0_5_1 (allB_stepX 40 20 dayxk_0_5_2 (allB_stepX 60 20 dayxk_0_5_3 h))))
theorem dayx_0_6 : okDPs 0 (6, 2, false) = true := by
  have e := List.isEmpty_iff.1 (allB_get (allB_get dayx_len 0 (by decide)) (6, 2, false) (by decide))
  have h : allB (okDP (6, 2, false) 0) ((dayPts (6, 2, false) 0).drop 80) = true := by rw [e]; rfl
  exact (allB_stepX 0 20 dayxk_0_6_0 (allB_stepX 20 20 dayxk_0_6_1 (allB_stepX 40 20 dayxk_0_6_2 (allB_stepX 60 20 dayxk_0_6_3 h))))
theorem dayx_0_7 : okDPs 0 (1, 0, true) = true := by
  have e := List.isEmpty_iff.1 (allB_get (allB_get dayx_len 0 (by decide)) (1, 0, true) (by decide))
  have h : allB (okDP (1, 0, true) 0) ((dayPts (1, 0, true) 0).drop 80) = true := by rw [e]; rfl
  exact (allB_stepX 0 20 dayxk_0_7_0 (allB_stepX 20 20 dayxk_0_7_1 (allB_stepX 40 20 dayxk_0_7_2 (allB_stepX 60 20 dayxk_0_7_3 h))))
theorem dayx_0_8 : okDPs 0 (1, 2, true) = true := by
  have e := List.isEmpty_iff.1 (allB_get (allB_get dayx_len 0 (by decide)) (1, 2, true) (by decide))
  have h : allB (okDP (1, 2, true) 0) ((dayPts (1, 2, true) 0).drop 80) = true := by rw [e]; rfl
  exact (allB_stepX 0 20 dayxk_0_8_0 (allB_stepX 20 20 dayxk_0_8_1 (allB_stepX 40 20 dayxk_0_8_2 (allB_stepX 60 20 dayxk_0_8_3 h))))
theorem dayx_0_9 : okDPs 0 (2, 1, true) = true := by
  have e := List.isEmpty_iff.1 (allB_get (allB_get dayx_len 0 (by decide)) (2, 1, true) (by decide))
  have h : allB (okDP (2, 1, true) 0) ((dayPts (2, 1, true) 0).drop 80) = true := by rw [e]; rfl
  exact (allB_stepX 0 20 dayxk_0_9_0 (allB_stepX 20 20 dayxk_0_9_1 (allB_stepX 40 20 dayxk_0_9_2 (allB_stepX 60 20 dayxk_0_9_3 h))))
theorem dayx_0_10 : okDPs 0 (4, 0, true) = true := by
  have e := List.isEmpty_iff.1 (allB_get (allB_get dayx_len 0 (by decide)) (4, 0, true) (by decide))
  have h : allB (okDP (4, 0, true) 0) ((dayPts (4, 0, true) 0).drop 80) = true := by rw [e]; rfl
  exact (allB_stepX 0 20 dayxk_0_10_0 (allB_stepX 20 20 dayxk_0_10_1 (allB_stepX 40 20 dayxk_0_10_2 (allB_stepX 60 20 dayxk_0_10_3 h))))
theorem dayx_0_11 : okDPs 0 (4, 2, true) = true := by
  have e := List.isEmpty_iff.1 (allB_get (allB_get dayx_len 0 (by decide)) (4, 2, true) (by decide))
  have h : allB (okDP (4, 2, true) 0) ((dayPts (4, 2, true) 0).drop 80) = true := by rw [e]; rfl
  exact (allB_stepX 0 20 dayxk_0_11_0 (allB_stepX 20 20 dayxk_0_11_1 (allB_stepX 40 20 dayxk_0_11_2 (allB_stepX 60 20 dayxk_0_11_3 h))))
theorem dayx_0_12 : okDPs 0 (6, 0, true) = true := by
  have e := List.isEmpty_iff.1 (allB_get (allB_get dayx_len 0 (by decide)) (6, 0, true) (by decide))
  have h : allB (okDP (6, 0, true) 0) ((dayPts (6, 0, true) 0).drop 80) = true := by rw [e]; rfl
  exact (allB_stepX 0 20 dayxk_0_12_0 (allB_stepX 20 20 dayxk_0_12_1 (allB_stepX 40 20 dayxk_0_12_2 (allB_stepX 60 20 dayxk_0_12_3 h))))
theorem dayx_0_13 : okDPs 0 (6, 2, true) = true := by
  have e := List.isEmpty_iff.1 (allB_get (allB_get dayx_len 0 (by decide)) (6, 2, true) (by decide))
  have h : allB (okDP (6, 2, true) 0) ((dayPts (6, 2, true) 0).drop 80) = true := by rw [e]; rfl
  exact (allB_stepX 0 20 dayxk_0_13_0 (allB_stepX 20 20 dayxk_0_13_1 (allB_stepX 40 20 dayxk_0_13_2 (allB_stepX 60 20 dayxk_0_13_3 h))))
theorem dayx_chk_0 : allB (okDPs 0) tyList = true :=
  allB_cons dayx_0_0 (allB_cons dayx_0_1 (allB_cons dayx_0_2 (allB_cons dayx_0_3 (allB_cons dayx_0_4 (allB_cons dayx_0_5 (allB_cons dayx_0_6 (allB_cons dayx_0_7 (allB_cons dayx_0_8 (allB_cons dayx_0_9 (allB_cons dayx_0_10 (allB_cons dayx_0_11 (allB_cons dayx_0_12 (allB_cons dayx_0_13 allB_nil)))))))))))))
theorem dayg_chk_0 : allB (okDGs 0) tyList = true :=
  allB_cons dayxg_0_0 (allB_cons dayxg_0_1 (allB_cons dayxg_0_2 (allB_cons dayxg_0_3 (allB_cons dayxg_0_4 (allB_cons dayxg_0_5 (allB_cons dayxg_0_6 (allB_cons dayxg_0_7 (allB_cons dayxg_0_8 (allB_cons dayxg_0_9 (allB_cons dayxg_0_10 (allB_cons dayxg_0_11 (allB_cons dayxg_0_12 (allB_cons dayxg_0_13 allB_nil)))))))))))))
theorem dayx_1_0 : okDPs 1 (1, 0, false) = true := by
  have e := List.isEmpty_iff.1 (allB_get (allB_get dayx_len 1 (by decide)) (1, 0, false) (by decide))
  have h : allB (okDP (1, 0, false) 1) ((dayPts (1, 0, false) 1).drop 80) = true := by rw [e]; rfl
  exact (allB_stepX 0 20 dayxk_1_0_0 (allB_stepX 20 20 dayxk_1_0_1 (allB_stepX 40 20 dayxk_1_0_2 (allB_stepX 60 20 dayxk_1_0_3 h))))
theorem dayx_1_1 : okDPs 1 (1, 2, false) = true := by
  have e := List.isEmpty_iff.1 (allB_get (allB_get dayx_len 1 (by decide)) (1, 2, false) (by decide))
  have h : allB (okDP (1, 2, false) 1) ((dayPts (1, 2, false) 1).drop 80) = true := by rw [e]; rfl
  exact (allB_stepX 0 20 dayxk_1_1_0 (allB_stepX 20 20 dayxk_1_1_1 (allB_stepX 40 20 dayxk_1_1_2 (allB_stepX 60 20 dayxk_1_1_3 h))))
theorem dayx_1_2 : okDPs 1 (2, 1, false) = true := by
  have e := List.isEmpty_iff.1 (allB_get (allB_get dayx_len 1 (by decide)) (2, 1, false) (by decide))
  have h : allB (okDP (2, 1, false) 1) ((dayPts (2, 1, false) 1).drop 80) = true := by rw [e]; rfl
  exact (allB_stepX 0 20 dayxk_1_2_0 (allB_stepX 20 20 dayxk_1_2_1 (allB_stepX 40 20 dayxk_1_2_2 (allB_stepX 60 20 dayxk_1_2_3 h))))
theorem dayx_1_3 : okDPs 1 (4, 1, false) = true := by
  have e := List.isEmpty_iff.1 (allB_get (allB_get dayx_len 1 (by decide)) (4, 1, false) (by decide))
  have h : allB (okDP (4, 1, false) 1) ((dayPts (4, 1, false) 1).drop 80) = true := by rw [e]; rfl
  exact (allB_stepX 0 20 dayxk_1_3_0 (allB_stepX 20 20 dayxk_1_3_1 (allB_stepX 40 20 dayxk_1_3_2 (allB_stepX 60 20 dayxk_1_3_3 h))))
theorem dayx_1_4 : okDPs 1 (4, 2, false) = true := by
  have e := List.isEmpty_iff.1 (allB_get (allB_get dayx_len 1 (by decide)) (4, 2, false) (by decide))
  have h : allB (okDP (4, 2, false) 1) ((dayPts (4, 2, false) 1).drop 80) = true := by rw [e]; rfl
  exact (allB_stepX 0 20 dayxk_1_4_0 (allB_stepX 20 20 dayxk_1_4_1 (allB_stepX 40 20 dayxk_1_4_2 (allB_stepX 60 20 dayxk_1_4_3 h))))
theorem dayx_1_5 : okDPs 1 (6, 0, false) = true := by
  have e := List.isEmpty_iff.1 (allB_get (allB_get dayx_len 1 (by decide)) (6, 0, false) (by decide))
  have h : allB (okDP (6, 0, false) 1) ((dayPts (6, 0, false) 1).drop 80) = true := by rw [e]; rfl
  exact (allB_stepX 0 20 dayxk_1_5_0 (allB_stepX 20 20 dayxk_1_5_1 (allB_stepX 40 20 dayxk_1_5_2 (allB_stepX 60 20 dayxk_1_5_3 h))))
theorem dayx_1_6 : okDPs 1 (6, 2, false) = true := by
  have e := List.isEmpty_iff.1 (allB_get (allB_get dayx_len 1 (by decide)) (6, 2, false) (by decide))
  have h : allB (okDP (6, 2, false) 1) ((dayPts (6, 2, false) 1).drop 80) = true := by rw [e]; rfl
  exact (allB_stepX 0 20 dayxk_1_6_0 (allB_stepX 20 20 dayxk_1_6_1 (allB_stepX 40 20 dayxk_1_6_2 (allB_stepX 60 20 dayxk_1_6_3 h))))
theorem dayx_1_7 : okDPs 1 (1, 0, true) = true := by
  have e := List.isEmpty_iff.1 (allB_get (allB_get dayx_len 1 (by decide)) (1, 0, true) (by decide))
  have h : allB (okDP (1, 0, true) 1) ((dayPts (1, 0, true) 1).drop 80) = true := by rw [e]; rfl
  exact (allB_stepX 0 20 dayxk_1_7_0 (allB_stepX 20 20 dayxk_1_7_1 (allB_stepX 40 20 dayxk_1_7_2 (allB_stepX 60 20 dayxk_1_7_3 h))))
theorem dayx_1_8 : okDPs 1 (1, 2, true) = true := by
  have e := List.isEmpty_iff.1 (allB_get (allB_get dayx_len 1 (by decide)) (1, 2, true) (by decide))
  have h : allB (okDP (1, 2, true) 1) ((dayPts (1, 2, true) 1).drop 80) = true := by rw [e]; rfl
  exact (allB_stepX 0 20 dayxk_1_8_0 (allB_stepX 20 20 dayxk_1_8_1 (allB_stepX 40 20 dayxk_1_8_2 (allB_stepX 60 20 dayxk_1_8_3 h))))
theorem dayx_1_9 : okDPs 1 (2, 1, true) = true := by
  have e := List.isEmpty_iff.1 (allB_get (allB_get dayx_len 1 (by decide)) (2, 1, true) (by decide))
  have h : allB (okDP (2, 1, true) 1) ((dayPts (2, 1, true) 1).drop 80) = true := by rw [e]; rfl
  exact (allB_stepX 0 20 dayxk_1_9_0 (allB_stepX 20 20 dayxk_1_9_1 (allB_stepX 40 20 dayxk_1_9_2 (allB_stepX 60 20 dayxk_1_9_3 h))))
theorem dayx_1_10 : okDPs 1 (4, 0, true) = true := by
  have e := List.isEmpty_iff.1 (allB_get (allB_get dayx_len 1 (by decide)) (4, 0, true) (by decide))
  have h : allB (okDP (4, 0, true) 1) ((dayPts (4, 0, true) 1).drop 80) = true := by rw [e]; rfl
  exact (allB_stepX 0 20 dayxk_1_10_0 (allB_stepX 20 20 dayxk_1_10_1 (allB_stepX 40 20 dayxk_1_10_2 (allB_stepX 60 20 dayxk_1_10_3 h))))
theorem dayx_1_11 : okDPs 1 (4, 2, true) = true := by
  have e := List.isEmpty_iff.1 (allB_get (allB_get dayx_len 1 (by decide)) (4, 2, true) (by decide))
  have h : allB (okDP (4, 2, true) 1) ((dayPts (4, 2, true) 1).drop 80) = true := by rw [e]; rfl
  exact (allB_stepX 0 20 dayxk_1_11_0 (allB_stepX 20 20 dayxk_1_11_1 (allB_stepX 40 20 dayxk_1_11_2 (allB_stepX 60 20 dayxk_1_11_3 h))))
theorem dayx_1_12 : okDPs 1 (6, 0, true) = true := by
  have e := List.isEmpty_iff.1 (allB_get (allB_get dayx_len 1 (by decide)) (6, 0, true) (by decide))
  have h : allB (okDP (6, 0, true) 1) ((dayPts (6, 0, true) 1).drop 80) = true := by rw [e]; rfl
  exact (allB_stepX 0 20 dayxk_1_12_0 (allB_stepX 20 20 dayxk_1_12_1 (allB_stepX 40 20 dayxk_1_12_2 (allB_stepX 60 20 dayxk_1_12_3 h))))
theorem dayx_1_13 : okDPs 1 (6, 2, true) = true := by
  have e := List.isEmpty_iff.1 (allB_get (allB_get dayx_len 1 (by decide)) (6, 2, true) (by decide))
  have h : allB (okDP (6, 2, true) 1) ((dayPts (6, 2, true) 1).drop 80) = true := by rw [e]; rfl
  exact (allB_stepX 0 20 dayxk_1_13_0 (allB_stepX 20 20 dayxk_1_13_1 (allB_stepX 40 20 dayxk_1_13_2 (allB_stepX 60 20 dayxk_1_13_3 h))))
theorem dayx_chk_1 : allB (okDPs 1) tyList = true :=
  allB_cons dayx_1_0 (allB_cons dayx_1_1 (allB_cons dayx_1_2 (allB_cons dayx_1_3 (allB_cons dayx_1_4 (allB_cons dayx_1_5 (allB_cons dayx_1_6 (allB_cons dayx_1_7 (allB_cons dayx_1_8 (allB_cons dayx_1_9 (allB_cons dayx_1_10 (allB_cons dayx_1_11 (allB_cons dayx_1_12 (allB_cons dayx_1_13 allB_nil)))))))))))))
theorem dayg_chk_1 : allB (okDGs 1) tyList = true :=
  allB_cons dayxg_1_0 (allB_cons dayxg_1_1 (allB_cons dayxg_1_2 (allB_cons dayxg_1_3 (allB_cons dayxg_1_4 (allB_cons dayxg_1_5 (allB_cons dayxg_1_6 (allB_cons dayxg_1_7 (allB_cons dayxg_1_8 (allB_cons dayxg_1_9 (allB_cons dayxg_1_10 (allB_cons dayxg_1_11 (allB_cons dayxg_1_12 (allB_cons dayxg_1_13 allB_nil)))))))))))))
end
end Go.Proofs.YtnikgcedifdaeaaGreatDoor.Sab
end

section
/- Days out of range; the month of a day. -/
set_option linter.unusedVariables false
set_option linter.unusedSimpArgs false
namespace Go.Proofs.YtnikgcedifdaeaaGreatDoor.Sab
open Go Go.Proofs.YtnikgcedifdaeaaGreatDoor.Ab
set_option maxRecDepth 100000
set_option maxHeartbeats 0
noncomputable section
def zeroD : List AV := [iL 0, iL 0, iL 0, bL false, iL 0, iL 0, iL 0, iL 0, iL 0, iL 0]
def zeroR : List AV := [iL 0, iL 0, iL 0]
def aboutE (e : Int) : AV := .tuple [.agg (zeroD ++ .one :: zeroR), .int .i64 (.lit e)]
def mDE : Memo := [(fFromDay, [nE], .tuple [.agg [iL 0, iL 0, bL false, iL 0], iL 2])]
theorem day_out_chk : allB (fun pl => isX (aboutE 2) (base.goL vLow (memo mDE) noL 60 fDayOf [nE, iL pl]) && isX (aboutE 2) (base.goL vHigh (memo mDE) noL 60 fDayOf [nE, iL pl])) places = true := by kernel_rfl
def zeroDV : List Value := [iv 0, iv 0, iv 0, .bool false, iv 0, iv 0, iv 0, iv 0, iv 0, iv 0]
theorem day_out {n : Int} (h : Outside n) (pl : Int) (hp : pl ∈ places) : VX base fDayOf [iv n, iv pl] zeroDV [iv 0, iv 0, iv 0] 2 := by
  have hE : Memo.Ok base.P base.G (rho [n]) mDE := .cons ((from_out h).ans rfl rfl (by simp [conc1, conc0, den_n]) (by simp [conc, conc1, conc0, den_l])) .nil
  have c := allB_get day_out_chk pl hp
  rw [Bool.and_eq_true] at c
  have A : Ans base.P base.G (rho [n]) fDayOf [nE, iL pl] (aboutE 2) := by
    rcases h.2.2 with g | g
    · exact Base.ansXB (V := vLow) base_fit (env_ok (inB_cons h.1 (by omega) inB_nil) (by simp [vLow]) (by simp [vLow])) (OkO.memo hE) OkL.none c.1 rfl rfl
    · exact Base.ansXB (V := vHigh) base_fit (env_ok (inB_cons (by omega) h.2.1 inB_nil) (by simp [vHigh]) (by simp [vHigh])) (OkO.memo hE) OkL.none c.2 rfl rfl
  have X := A.vx (a1 := zeroD) (a2 := zeroR) (e := .lit 2) rfl rfl rfl
  simpa [zeroD, zeroR, zeroDV, conc1, conc0, den_n, den_l] using X
theorem mon_of {t : Ty} (ht : t ∈ tyList) (o : Int) (o0 : 0 ≤ o) (o1 : o < tyLen t) : ∃ m ∈ mons t, m.a ≤ o ∧ o ≤ m.a + m.len - 1 := by
  have c2 := allB_get mons_num t ht
  simp only [Bool.and_eq_true, ile_iff] at c2
  have c := allB_get (allB_get mon_chk t ht) o (mem_daysN 390 o o0 (by simp; omega))
  cases hm : monOf o (mons t) with
  | none =>
    rw [hm] at c
    have : ile (tyLen t) o = false := by
      cases hb : ile (tyLen t) o with
      | false => rfl
      | true => rw [ile_iff] at hb; omega
    simp [this] at c
  | some m => exact ⟨m, monOf_ok hm⟩
end
end Go.Proofs.YtnikgcedifdaeaaGreatDoor.Sab
end
