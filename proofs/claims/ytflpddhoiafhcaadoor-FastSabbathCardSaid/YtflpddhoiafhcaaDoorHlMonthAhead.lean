/- The contract of the program's function behind the hole 'month_Ahead', by a walk over its text. -/
import Derived.Test.YtflpddhoiafhcaaDoorProg
import Derived.Below
import Derived.Deep.Draws
import Derived.OwnWalk
import Derived.Tactics
import Derived.WalkKit
import Derived.KernelRfl
import Derived.RowKit3
import Derived.Deep.LoopGhost
import Derived.Deep.QuietTactic
import Derived.BigQuiet
import Derived.WideLaws
import Derived.Deep.DeepCutAuto
import Derived.Deep.CutBlock
import Derived.Deep.RegionHeld3
import Derived.Laws.Rows
import Derived.OrdersHeld
import Derived.Outline
import Derived.Test.YtflpddhoiafhcaaDoorWWords
import Derived.Test.YtflpddhoiafhcaaDoorWLast
import Derived.Test.YtflpddhoiafhcaaDoorWTab
import Derived.Test.YtflpddhoiafhcaaDoorWFour
import Derived.Test.YtflpddhoiafhcaaDoorWQPut
import Derived.Test.YtflpddhoiafhcaaDoorWApart
import Derived.Test.YtflpddhoiafhcaaDoorWArr
import Derived.Test.YtflpddhoiafhcaaDoorWZeros
import Derived.Test.YtflpddhoiafhcaaDoorWFoot
import Derived.Test.YtflpddhoiafhcaaDoorWKept
import Derived.Test.YtflpddhoiafhcaaDoorWShare
import Derived.Test.YtflpddhoiafhcaaDoorWN
import Derived.Test.YtflpddhoiafhcaaDoorWFootNe
import Derived.Test.YtflpddhoiafhcaaDoorWAt
import Derived.Test.YtflpddhoiafhcaaDoorWEqStruct
import Derived.Test.YtflpddhoiafhcaaDoorWRepsOne
import Derived.Test.YtflpddhoiafhcaaDoorWInv
import Derived.Test.YtflpddhoiafhcaaDoorWInvWords
import Derived.Test.YtflpddhoiafhcaaDoorWGuard
import Derived.Test.YtflpddhoiafhcaaDoorWNEv
import Derived.Test.YtflpddhoiafhcaaDoorWMore
import Derived.Test.YtflpddhoiafhcaaDoorHlMonthDays
namespace Go.Proofs.YtflpddhoiafhcaaDoor.H
open Go.RowKit Go.Proofs.YtflpddhoiafhcaaDoorW.PrintWords Go.Proofs.YtflpddhoiafhcaaDoorW.PrintLast Go.Proofs.YtflpddhoiafhcaaDoorW.PrintMore
attribute [local go_sem] max2_int min2_int max_two min_two max_three min_three max_four min_four
set_option linter.unusedVariables false
set_option linter.unusedSimpArgs false
theorem months_mem (b k : Int) (l : Bool) : ∀ n ∈ Cal.months b k l, 29 ≤ n ∧ n ≤ 30 := by
  unfold Cal.months Cal.lens
  split
  · intro n h; cases h
  · intro n h
    cases l <;> by_cases h2 : k = 2 <;> by_cases h0 : k = 0 <;> simp [h2, h0] at h <;> omega
theorem take_sum_bd : ∀ (ms : List Int), (∀ n ∈ ms, 29 ≤ n ∧ n ≤ 30) → ∀ j, 0 ≤ (ms.take j).sum ∧ (ms.take j).sum ≤ 30 * (j : Int)
  | [], _, j => by simp; omega
  | n :: r, h, 0 => by simp
  | n :: r, h, j + 1 => by
    have h1 := h n (by simp)
    have h2 := take_sum_bd r (fun x hx => h x (by simp [hx])) j
    simp only [List.take_succ_cons, List.sum_cons]
    omega
theorem take_sum_succ (ms : List Int) (j : Nat) : (ms.take (j + 1)).sum = (ms.take j).sum + ms.getD j 0 := by
  by_cases h : j < ms.length
  · rw [List.take_succ_eq_append_getElem h, List.sum_append]
    simp [h]
  · rw [List.take_of_length_le (by omega), List.take_of_length_le (by omega)]
    simp [List.getElem?_eq_none (Nat.le_of_not_lt h)]
theorem getD_bd (ms : List Int) (h : ∀ n ∈ ms, 29 ≤ n ∧ n ≤ 30) (j : Nat) : 0 ≤ ms.getD j 0 ∧ ms.getD j 0 ≤ 30 := by
  by_cases hj : j < ms.length
  · have := h ms[j] (List.getElem_mem hj)
    simp [hj]; omega
  · simp [List.getElem?_eq_none (Nat.le_of_not_lt hj)]
theorem table_slice (g : Nat) (i : Nat) (hi : i ≤ 13) (W : World) : (Instr.sliceAt 147 (.pointer (some ⟨g, 0, none⟩)) none (some (.int .i64 i)) none).run Tryd.prog W = .ok (.slice (some ⟨g, 0, none⟩) i 13) W := by
  have hl : Tryd.prog.arrayLen 147 = 13 := by kernel_rfl
  have he : Tryd.prog.elem 147 = 3 := by kernel_rfl
  rw [run_sliceAt_array_h W 147 _ (by kernel_rfl) .i64 i (by omega) (by rw [hl]; omega), he, Tryd.sizeOf3]
  simp [slicedAt, hl, Result.andThen]
  rfl
def month_Ahead.f (a0_0 : Int) (a0_1 : Int) (a0_2 : Bool) (a1 : Int) : Option (Int) := if -9223372036854775808 ≤ a1 ∧ a1 ≤ 9223372036854775807 then some (Cal.mahead a0_0 a0_1 a0_2 a1) else none
set_option maxHeartbeats 4000000 in
set_option maxRecDepth 100000 in
theorem ahead_of (b k m r : Int) (l : Bool) (hm1 : -9223372036854775808 ≤ m) (hm2 : m ≤ 9223372036854775807) (hr : Cal.mahead b k l m = r) (w : World) (HG : GlobT w) :
    Calls Tryd.prog 86 #[.agg #[.int .i64 b, .int .i64 k, .bool l], .int .i64 m] w fun e w' => e = .returned (.int .i64 r) ∧ Below w.heap.size w w' := by
  have HK := Aside0.mk (KBox.begin HG b k l)
  have hml := months_len b k l
  have hmb := months_mem b k l
  have hof := fun W h => month_of b k l W h
  unfold Cal.mahead at hr
  generalize Cal.months b k l = ms at hml hof hr hmb
  have hT := Tab.of ms hml
  generalize tcells ms = cs at hT hof
  have HT := Aside0.mk hT
  have HOF := Aside0.mk hof
  have HR := Aside0.mk hr
  have HL := Aside0.mk hml
  have HM := Aside0.mk hmb
  clear hml hof hT hr HG hmb
  by_cases hc : 0 < m ∧ m ≤ (ms.length : Int)
  · obtain ⟨i, rfl⟩ : ∃ i : Nat, m = i + 1 := ⟨(m - 1).toNat, by omega⟩
    have HC := Aside0.mk hc
    have hi13 : (i : Int) < 13 := by have := HL.out; omega
    have hi0 : (0 : Int) ≤ i := by omega
    have HRR := Aside0.mk (show (ms.take i).sum = r by rw [← HR.out, if_pos hc, show ((i : Int) + 1 - 1).toNat = i by omega])
    clear hc
    go_enter Tryd.func86, Tryd.ntmps86
    go_wp2_with fail
    refine (HOF.out _ HK.out.glob).mono ?_
    rintro e W1 ⟨rfl, hb⟩
    have HA := Aside0.mk (TabAt.begin cs (HK.out.step hb).below)
    clear hb
    go_wp2_with (first | (refine wpList_store_row rfl 149 (.tmp 5) (.tmp 10) rfl W1.heap.size cs rfl rfl 149 _ (heap_alloc_new W1 _) HT.out.info (by rw [HT.out.size]; rfl) HT.out.one ?_; generalize e2 : (W1.alloc (.cells #[.int .i64 0, .int .i64 0, .int .i64 0, .int .i64 0, .int .i64 0, .int .i64 0, .int .i64 0, .int .i64 0, .int .i64 0, .int .i64 0, .int .i64 0, .int .i64 0, .int .i64 0, .int .i64 0] 149)).setRow W1.heap.size cs = W2 at HA ⊢; clear e2) | (refine wpList_load_row rfl 149 (.tmp 5) rfl W1.heap.size rfl 149 cs (0, 0) _ HA.out.tab Tryd.underlying149 rfl HT.out.info ?_))
    refine (table_has cs ms.length (i + 1) true (by simpa using HC.out) HT.out.last _).mono ?_
    rintro e W3 ⟨rfl, hb⟩
    have HA3 := Aside0.mk (HA.out.step hb)
    clear hb
    have hsl : ∀ W, (Instr.sliceAt 147 (.pointer (some ⟨W1.heap.size, 0, none⟩)) none (some (.int .i64 i)) none).run Tryd.prog W = .ok (.slice (some ⟨W1.heap.size, 0, none⟩) i 13) W := table_slice _ i (by omega)
    go_wp2_with fail
    go_loop [6, 20] (fun s6 s20 => ∃ j : Nat, j ≤ i ∧ s20 = .int .i64 j ∧ s6 = .int .i64 (ms.take j).sum) (fun _ s20 => i - (intOf s20).toNat)
    case atStart => exact ⟨0, by omega, rfl, by simp⟩
    case round =>
      obtain ⟨j, hj, rfl, rfl⟩ := hrel
      have hb1 := take_sum_bd ms HM.out j
      have hb2 := getD_bd ms HM.out j
      have hsu := take_sum_succ ms j
      obtain ⟨S, hS⟩ : ∃ S, (ms.take j).sum = S := ⟨_, rfl⟩
      obtain ⟨d, hd⟩ : ∃ d, ms.getD j 0 = d := ⟨_, rfl⟩
      rw [hS] at hb1
      rw [hd] at hb2
      rw [hS, hd] at hsu
      have HSU := Aside0.mk hsu
      have HSS := Aside0.mk hS
      rw [hS]
      obtain ⟨hb1a, hb1b⟩ := hb1
      obtain ⟨hb2a, hb2b⟩ := hb2
      have hj13 : (j : Int) ≤ 12 := by omega
      by_cases hlt : j < i
      · have c : W3.cell? ⟨W1.heap.size, j, none⟩ = some (.int .i64 d) := by
          rw [blk_cell HA3.out.tab, HT.out.at_ j (by omega), hd]
        clear hsu hS hd
        go_wp2
        go_round
        case measure => simp [intOf]; omega
        case rel => exact ⟨j + 1, by omega, by go_num, by rw [HSU.out]⟩
      · obtain rfl : j = i := by omega
        have HE := Aside0.mk (hS.symm.trans HRR.out)
        clear hsu hS hd
        go_wp2
        go_ret
        exact ⟨ret_i64 HE.out, HA3.out.below⟩
  · have HC := Aside0.mk hc
    obtain rfl : r = 0 := by rw [← HR.out, if_neg HC.out]
    clear hc
    go_enter Tryd.func86, Tryd.ntmps86
    go_wp2_with fail
    refine (HOF.out _ HK.out.glob).mono ?_
    rintro e W1 ⟨rfl, hb⟩
    have HA := Aside0.mk (TabAt.begin cs (HK.out.step hb).below)
    clear hb
    go_wp2_with (first | (refine wpList_store_row rfl 149 (.tmp 5) (.tmp 10) rfl W1.heap.size cs rfl rfl 149 _ (heap_alloc_new W1 _) HT.out.info (by rw [HT.out.size]; rfl) HT.out.one ?_; generalize e2 : (W1.alloc (.cells #[.int .i64 0, .int .i64 0, .int .i64 0, .int .i64 0, .int .i64 0, .int .i64 0, .int .i64 0, .int .i64 0, .int .i64 0, .int .i64 0, .int .i64 0, .int .i64 0, .int .i64 0, .int .i64 0] 149)).setRow W1.heap.size cs = W2 at HA ⊢; clear e2) | (refine wpList_load_row rfl 149 (.tmp 5) rfl W1.heap.size rfl 149 cs (0, 0) _ HA.out.tab Tryd.underlying149 rfl HT.out.info ?_))
    refine (table_has cs ms.length m false (by simpa using HC.out) HT.out.last _).mono ?_
    rintro e W3 ⟨rfl, hb⟩
    have HA3 := Aside0.mk (HA.out.step hb)
    clear hb
    go_wp2
    go_ret
    exact ⟨rfl, HA3.out.below⟩
theorem month_Ahead.calls (a0_0 : Int) (a0_1 : Int) (a0_2 : Bool) (a1 : Int) (r : Int) (w : World) (HG : GlobT w) (h : month_Ahead.f a0_0 a0_1 a0_2 a1 = some r) :
    Calls Tryd.prog 86 #[.agg #[.int .i64 a0_0, .int .i64 a0_1, .bool a0_2], .int .i64 a1] w fun e w' => e = .returned (.int .i64 r) ∧ Below w.heap.size w w' := by
  unfold month_Ahead.f at h
  split at h
  · rename_i hc
    exact ahead_of a0_0 a0_1 a1 r a0_2 hc.1 hc.2 (Option.some.inj h) w HG
  · cases h
end Go.Proofs.YtflpddhoiafhcaaDoor.H
