/- Texts of the proof, joined by a program (of one law): contracts of functions, plain laws. -/
import Derived.Test.YtnikgcedifdaeaaGreatDoorJQoDayK0
import Derived.Test.YtnikgcedifdaeaaGreatDoorJQoDayK1
import Derived.Test.YtnikgcedifdaeaaGreatDoorJQoDayK2
import Derived.Test.YtnikgcedifdaeaaGreatDoorJQoDayK3
import Derived.Test.YtnikgcedifdaeaaGreatDoorJQoDayK4
import Derived.Test.YtnikgcedifdaeaaGreatDoorJQoDayK5
import Derived.Test.YtnikgcedifdaeaaGreatDoorJQoDayK6
import Derived.Test.YtnikgcedifdaeaaGreatDoorJQoDayC
set_option linter.unusedVariables false
set_option linter.unusedSimpArgs false
set_option linter.unusedSectionVars false
section
/- All classes of days. -/
set_option linter.unusedVariables false
namespace Go.Proofs.YtnikgcedifdaeaaGreatDoor.Sab
open Go Go.Proofs.YtnikgcedifdaeaaGreatDoor.Ab
set_option maxRecDepth 100000
noncomputable section
theorem days_len : allB (fun pl => allB (fun t => ((classes t pl).drop 120).isEmpty) tyList) places = true := by decide +kernel
theorem allB_step {α : Type} {p : α → Bool} {l : List α} (n k : Nat) (h : allB p ((l.drop n).take k) = true) (r : allB p (l.drop (n + k)) = true) : allB p (l.drop n) = true :=
  allB_parts k h (by rw [List.drop_drop]; exact r)
theorem days_0_0 : okDays 0 (1, 0, false) = true := by
  have e := List.isEmpty_iff.1 (allB_get (allB_get days_len 0 (by decide)) (1, 0, false) (by decide))
  have h : allB (okDayC (1, 0, false) 0) ((classes (1, 0, false) 0).drop 120) = true := by rw [e]; rfl
  exact (allB_step 0 20 dayk_0_0_0 (allB_step 20 20 dayk_0_0_1 (allB_step 40 20 dayk_0_0_2 (allB_step 60 20 dayk_0_0_3 (allB_step 80 20 dayk_0_0_4 (allB_step 100 20 dayk_0_0_5 h))))))
theorem days_0_1 : okDays 0 (1, 2, false) = true := by
  have e := List.isEmpty_iff.1 (allB_get (allB_get days_len 0 (by decide)) (1, 2, false) (by decide))
  have h : allB (okDayC (1, 2, false) 0) ((classes (1, 2, false) 0).drop 120) = true := by rw [e]; rfl
  exact (allB_step 0 20 dayk_0_1_0 (allB_step 20 20 dayk_0_1_1 (allB_step 40 20 dayk_0_1_2 (allB_step 60 20 dayk_0_1_3 (allB_step 80 20 dayk_0_1_4 (allB_step 100 20 dayk_0_1_5 h))))))
theorem days_0_2 : okDays 0 (2, 1, false) = true := by
  have e := List.isEmpty_iff.1 (allB_get (allB_get days_len 0 (by decide)) (2, 1, false) (by decide))
  have h : allB (okDayC (2, 1, false) 0) ((classes (2, 1, false) 0).drop 120) = true := by rw [e]; rfl
  exact (allB_step 0 20 dayk_0_2_0 (allB_step 20 20 dayk_0_2_1 (allB_step 40 20 dayk_0_2_2 (allB_step 60 20 dayk_0_2_3 (allB_step 80 20 dayk_0_2_4 (allB_step 100 20 dayk_0_2_5 h))))))
theorem days_0_3 : okDays 0 (4, 1, false) = true := by
  have e := List.isEmpty_iff.1 (allB_get (allB_get days_len 0 (by decide)) (4, 1, false) (by decide))
  have h : allB (okDayC (4, 1, false) 0) ((classes (4, 1, false) 0).drop 120) = true := by rw [e]; rfl
  exact (allB_step 0 20 dayk_0_3_0 (allB_step 20 20 dayk_0_3_1 (allB_step 40 20 dayk_0_3_2 (allB_step 60 20 dayk_0_3_3 (allB_step 80 20 dayk_0_3_4 (allB_step 100 20 dayk_0_3_5 h))))))
theorem days_0_4 : okDays 0 (4, 2, false) = true := by
  have e := List.isEmpty_iff.1 (allB_get (allB_get days_len 0 (by decide)) (4, 2, false) (by decide))
  have h : allB (okDayC (4, 2, false) 0) ((classes (4, 2, false) 0).drop 120) = true := by rw [e]; rfl
  exact (allB_step 0 20 dayk_0_4_0 (allB_step 20 20 dayk_0_4_1 (allB_step 40 20 dayk_0_4_2 (allB_step 60 20 dayk_0_4_3 (allB_step 80 20 dayk_0_4_4 (allB_step 100 20 dayk_0_4_5 h))))))
theorem days_0_5 : okDays 0 (6, 0, false) = true := by
  have e := List.isEmpty_iff.1 (allB_get (allB_get days_len 0 (by decide)) (6, 0, false) (by decide))
  have h : allB (okDayC (6, 0, false) 0) ((classes (6, 0, false) 0).drop 120) = true := by rw [e]; rfl
  exact (allB_step 0 20 dayk_0_5_0 (allB_step 20 20 dayk_0_5_1 (allB_step 40 20 dayk_0_5_2 (allB_step 60 20 dayk_0_5_3 (allB_step 80 20 dayk_0_5_4 (allB_step 100 20 dayk_0_5_5 h))))))
theorem days_0_6 : okDays 0 (6, 2, false) = true := by
  have e := List.isEmpty_iff.1 (allB_get (allB_get days_len 0 (by decide)) (6, 2, false) (by decide))
  have h : allB (okDayC (6, 2, false) 0) ((classes (6, 2, false) 0).drop 120) = true := by rw [e]; rfl
  exact (allB_step 0 20 dayk_0_6_0 (allB_step 20 20 dayk_0_6_1 (allB_step 40 20 dayk_0_6_2 (allB_step 60 20 dayk_0_6_3 (allB_step 80 20 dayk_0_6_4 (allB_step 100 20 dayk_0_6_5 h))))))
theorem days_0_7 : okDays 0 (1, 0, true) = true := by
  have e := List.isEmpty_iff.1 (allB_get (allB_get days_len 0 (by decide)) (1, 0, true) (by decide))
  have h : allB (okDayC (1, 0, true) 0) ((classes (1, 0, true) 0).drop 120) = true := by rw [e]; rfl
  exact (allB_step 0 20 dayk_0_7_0 (allB_step 20 20 dayk_0_7_1 (allB_step 40 20 dayk_0_7_2 (allB_step 60 20 dayk_0_7_3 (allB_step 80 20 dayk_0_7_4 (allB_step 100 20 dayk_0_7_5 h))))))
theorem days_0_8 : okDays 0 (1, 2, true) = true := by
  have e := List.isEmpty_iff.1 (allB_get (allB_get days_len 0 (by decide)) (1, 2, true) (by decide))
  have h : allB (okDayC (1, 2, true) 0) ((classes (1, 2, true) 0).drop 120) = true := by rw [e]; rfl
  exact (allB_step 0 20 dayk_0_8_0 (allB_step 20 20 dayk_0_8_1 (allB_step 40 20 dayk_0_8_2 (allB_step 60 20 dayk_0_8_3 (allB_step 80 20 dayk_0_8_4 (allB_step 100 20 dayk_0_8_5 h))))))
theorem days_0_9 : okDays 0 (2, 1, true) = true := by
  have e := List.isEmpty_iff.1 (allB_get (allB_get days_len 0 (by decide)) (2, 1, true) (by decide))
  have h : allB (okDayC (2, 1, true) 0) ((classes (2, 1, true) 0).drop 120) = true := by rw [e]; rfl
  exact (allB_step 0 20 dayk_0_9_0 (allB_step 20 20 dayk_0_9_1 (allB_step 40 20 dayk_0_9_2 (allB_step 60 20 dayk_0_9_3 (allB_step 80 20 dayk_0_9_4 (allB_step 100 20 dayk_0_9_5 h))))))
theorem days_0_10 : okDays 0 (4, 0, true) = true := by
  have e := List.isEmpty_iff.1 (allB_get (allB_get days_len 0 (by decide)) (4, 0, true) (by decide))
  have h : allB (okDayC (4, 0, true) 0) ((classes (4, 0, true) 0).drop 120) = true := by rw [e]; rfl
  exact (allB_step 0 20 dayk_0_10_0 (allB_step 20 20 dayk_0_10_1 (allB_step 40 20 dayk_0_10_2 (allB_step 60 20 dayk_0_10_3 (allB_step 80 20 dayk_0_10_4 (allB_step 100 20 dayk_0_10_5 h))))))
theorem days_0_11 : okDays 0 (4, 2, true) = true := by
  have e := List.isEmpty_iff.1 (allB_get (allB_get days_len 0 (by decide)) (4, 2, true) (by decide))
  have h : allB (okDayC (4, 2, true) 0) ((classes (4, 2, true) 0).drop 120) = true := by rw [e]; rfl
  exact (allB_step 0 20 dayk_0_11_0 (allB_step 20 20 dayk_0_11_1 (allB_step 40 20 dayk_0_11_2 (allB_step 60 20 dayk_0_11_3 (allB_step 80 20 dayk_0_11_4 (allB_step 100 20 dayk_0_11_5 h))))))
theorem days_0_12 : okDays 0 (6, 0, true) = true := by
  have e := List.isEmpty_iff.1 (allB_get (allB_get days_len 0 (by decide)) (6, 0, true) (by decide))
  have h : allB (okDayC (6, 0, true) 0) ((classes (6, 0, true) 0).drop 120) = true := by rw [e]; rfl
  exact (allB_step 0 20 dayk_0_12_0 (allB_step 20 20 dayk_0_12_1 (allB_step 40 20 dayk_0_12_2 (allB_step 60 20 dayk_0_12_3 (allB_step 80 20 dayk_0_12_4 (allB_step 100 20 dayk_0_12_5 h))))))
theorem days_0_13 : okDays 0 (6, 2, true) = true := by
  have e := List.isEmpty_iff.1 (allB_get (allB_get days_len 0 (by decide)) (6, 2, true) (by decide))
  have h : allB (okDayC (6, 2, true) 0) ((classes (6, 2, true) 0).drop 120) = true := by rw [e]; rfl
  exact (allB_step 0 20 dayk_0_13_0 (allB_step 20 20 dayk_0_13_1 (allB_step 40 20 dayk_0_13_2 (allB_step 60 20 dayk_0_13_3 (allB_step 80 20 dayk_0_13_4 (allB_step 100 20 dayk_0_13_5 h))))))
theorem days_chk_0 : allB (okDays 0) tyList = true :=
  allB_cons days_0_0 (allB_cons days_0_1 (allB_cons days_0_2 (allB_cons days_0_3 (allB_cons days_0_4 (allB_cons days_0_5 (allB_cons days_0_6 (allB_cons days_0_7 (allB_cons days_0_8 (allB_cons days_0_9 (allB_cons days_0_10 (allB_cons days_0_11 (allB_cons days_0_12 (allB_cons days_0_13 allB_nil)))))))))))))
theorem days_1_0 : okDays 1 (1, 0, false) = true := by
  have e := List.isEmpty_iff.1 (allB_get (allB_get days_len 1 (by decide)) (1, 0, false) (by decide))
  have h : allB (okDayC (1, 0, false) 1) ((classes (1, 0, false) 1).drop 120) = true := by rw [e]; rfl
  exact (allB_step 0 20 dayk_1_0_0 (allB_step 20 20 dayk_1_0_1 (allB_step 40 20 dayk_1_0_2 (allB_step 60 20 dayk_1_0_3 (allB_step 80 20 dayk_1_0_4 (allB_step 100 20 dayk_1_0_5 h))))))
theorem days_1_1 : okDays 1 (1, 2, false) = true := by
  have e := List.isEmpty_iff.1 (allB_get (allB_get days_len 1 (by decide)) (1, 2, false) (by decide))
  have h : allB (okDayC (1, 2, false) 1) ((classes (1, 2, false) 1).drop 120) = true := by rw [e]; rfl
  exact (allB_step 0 20 dayk_1_1_0 (allB_step 20 20 dayk_1_1_1 (allB_step 40 20 dayk_1_1_2 (allB_step 60 20 dayk_1_1_3 (allB_step 80 20 dayk_1_1_4 (allB_step 100 20 dayk_1_1_5 h))))))
theorem days_1_2 : okDays 1 (2, 1, false) = true := by
  have e := List.isEmpty_iff.1 (allB_get (allB_get days_len 1 (by decide)) (2, 1, false) (by decide))
  have h : allB (okDayC (2, 1, false) 1) ((classes (2, 1, false) 1).drop 120) = true := by rw [e]; rfl
  exact (allB_step 0 20 dayk_1_2_0 (allB_step 20 20 dayk_1_2_1 (allB_step 40 20 dayk_1_2_2 (allB_step 60 20 dayk_1_2_3 (allB_step 80 20 dayk_1_2_4 (allB_step 100 20 dayk_1_2_5 h))))))
theorem days_1_3 : okDays 1 (4, 1, false) = true := by
  have e := List.isEmpty_iff.1 (allB_get (allB_get days_len 1 (by decide)) (4, 1, false) (by decide))
  have h : allB (okDayC (4, 1, false) 1) ((classes (4, 1, false) 1).drop 120) = true := by rw [e]; rfl
  exact (allB_step 0 20 dayk_1_3_0 (allB_step 20 20 dayk_1_3_1 (allB_step 40 20 dayk_1_3_2 (allB_step 60 20 dayk_1_3_3 (allB_step 80 20 dayk_1_3_4 (allB_step 100 20 dayk_1_3_5 h))))))
theorem days_1_4 : okDays 1 (4, 2, false) = true := by
  have e := List.isEmpty_iff.1 (allB_get (allB_get days_len 1 (by decide)) (4, 2, false) (by decide))
  have h : allB (okDayC (4, 2, false) 1) ((classes (4, 2, false) 1).drop 120) = true := by rw [e]; rfl
  exact (allB_step 0 20 dayk_1_4_0 (allB_step 20 20 dayk_1_4_1 (allB_step 40 20 dayk_1_4_2 (allB_step 60 20 dayk_1_4_3 (allB_step 80 20 dayk_1_4_4 (allB_step 100 20 dayk_1_4_5 h))))))
theorem days_1_5 : okDays 1 (6, 0, false) = true := by
  have e := List.isEmpty_iff.1 (allB_get (allB_get days_len 1 (by decide)) (6, 0, false) (by decide))
  have h : allB (okDayC (6, 0, false) 1) ((classes (6, 0, false) 1).drop 120) = true := by rw [e]; rfl
  exact (allB_step 0 20 dayk_1_5_0 (allB_step 20 20 dayk_1_5_1 (allB_step 40 20 dayk_1_5_2 (allB_step 60 20 dayk_1_5_3 (allB_step 80 20 dayk_1_5_4 (allB_step 100 20 dayk_1_5_5 h))))))
theorem days_1_6 : okDays 1 (6, 2, false) = true := by
  have e := List.isEmpty_iff.1 (allB_get (allB_get days_len 1 (by decide)) (6, 2, false) (by decide))
  have h : allB (okDayC (6, 2, false) 1) ((classes (6, 2, false) 1).drop 120) = true := by rw [e]; rfl
  exact (allB_step 0 20 dayk_1_6_0 (allB_step 20 20 dayk_1_6_1 (allB_step 40 20 dayk_1_6_2 (allB_step 60 20 dayk_1_6_3 (allB_step 80 20 dayk_1_6_4 (allB_step 100 20 dayk_1_6_5 h))))))
theorem days_1_7 : okDays 1 (1, 0, true) = true := by
  have e := List.isEmpty_iff.1 (allB_get (allB_get days_len 1 (by decide)) (1, 0, true) (by decide))
  have h : allB (okDayC (1, 0, true) 1) ((classes (1, 0, true) 1).drop 120) = true := by rw [e]; rfl
  exact (allB_step 0 20 dayk_1_7_0 (allB_step 20 20 dayk_1_7_1 (allB_step 40 20 dayk_1_7_2 (allB_step 60 20 dayk_1_7_3 (allB_step 80 20 dayk_1_7_4 (allB_step 100 20 dayk_1_7_5 h))))))
theorem days_1_8 : okDays 1 (1, 2, true) = true := by
  have e := List.isEmpty_iff.1 (allB_get (allB_get days_len 1 (by decide)) (1, 2, true) (by decide))
  have h : allB (okDayC (1, 2, true) 1) ((classes (1, 2, true) 1).drop 120) = true := by rw [e]; rfl
  exact (allB_step 0 20 dayk_1_8_0 (allB_step 20 20 dayk_1_8_1 (allB_step 40 20 dayk_1_8_2 (allB_step 60 20 dayk_1_8_3 (allB_step 80 20 dayk_1_8_4 (allB_step 100 20 dayk_1_8_5 h))))))
theorem days_1_9 : okDays 1 (2, 1, true) = true := by
  have e := List.isEmpty_iff.1 (allB_get (allB_get days_len 1 (by decide)) (2, 1, true) (by decide))
  have h : allB (okDayC (2, 1, true) 1) ((classes (2, 1, true) 1).drop 120) = true := by rw [e]; rfl
  exact (allB_step 0 20 dayk_1_9_0 (allB_step 20 20 dayk_1_9_1 (allB_step 40 20 dayk_1_9_2 (allB_step 60 20 dayk_1_9_3 (allB_step 80 20 dayk_1_9_4 (allB_step 100 20 dayk_1_9_5 h))))))
theorem days_1_10 : okDays 1 (4, 0, true) = true := by
  have e := List.isEmpty_iff.1 (allB_get (allB_get days_len 1 (by decide)) (4, 0, true) (by decide))
  have h : allB (okDayC (4, 0, true) 1) ((classes (4, 0, true) 1).drop 120) = true := by rw [e]; rfl
  exact (allB_step 0 20 dayk_1_10_0 (allB_step 20 20 dayk_1_10_1 (allB_step 40 20 dayk_1_10_2 (allB_step 60 20 dayk_1_10_3 (allB_step 80 20 dayk_1_10_4 (allB_step 100 20 dayk_1_10_5 h))))))
theorem days_1_11 : okDays 1 (4, 2, true) = true := by
  have e := List.isEmpty_iff.1 (allB_get (allB_get days_len 1 (by decide)) (4, 2, true) (by decide))
  have h : allB (okDayC (4, 2, true) 1) ((classes (4, 2, true) 1).drop 120) = true := by rw [e]; rfl
  exact (allB_step 0 20 dayk_1_11_0 (allB_step 20 20 dayk_1_11_1 (allB_step 40 20 dayk_1_11_2 (allB_step 60 20 dayk_1_11_3 (allB_step 80 20 dayk_1_11_4 (allB_step 100 20 dayk_1_11_5 h))))))
theorem days_1_12 : okDays 1 (6, 0, true) = true := by
  have e := List.isEmpty_iff.1 (allB_get (allB_get days_len 1 (by decide)) (6, 0, true) (by decide))
  have h : allB (okDayC (6, 0, true) 1) ((classes (6, 0, true) 1).drop 120) = true := by rw [e]; rfl
  exact (allB_step 0 20 dayk_1_12_0 (allB_step 20 20 dayk_1_12_1 (allB_step 40 20 dayk_1_12_2 (allB_step 60 20 dayk_1_12_3 (allB_step 80 20 dayk_1_12_4 (allB_step 100 20 dayk_1_12_5 h))))))
theorem days_1_13 : okDays 1 (6, 2, true) = true := by
  have e := List.isEmpty_iff.1 (allB_get (allB_get days_len 1 (by decide)) (6, 2, true) (by decide))
  have h : allB (okDayC (6, 2, true) 1) ((classes (6, 2, true) 1).drop 120) = true := by rw [e]; rfl
  exact (allB_step 0 20 dayk_1_13_0 (allB_step 20 20 dayk_1_13_1 (allB_step 40 20 dayk_1_13_2 (allB_step 60 20 dayk_1_13_3 (allB_step 80 20 dayk_1_13_4 (allB_step 100 20 dayk_1_13_5 h))))))
theorem days_chk_1 : allB (okDays 1) tyList = true :=
  allB_cons days_1_0 (allB_cons days_1_1 (allB_cons days_1_2 (allB_cons days_1_3 (allB_cons days_1_4 (allB_cons days_1_5 (allB_cons days_1_6 (allB_cons days_1_7 (allB_cons days_1_8 (allB_cons days_1_9 (allB_cons days_1_10 (allB_cons days_1_11 (allB_cons days_1_12 (allB_cons days_1_13 allB_nil)))))))))))))
end
end Go.Proofs.YtnikgcedifdaeaaGreatDoor.Sab
end
