/- The contract of the program's function behind the hole 'month_Find', by a walk over its text. -/
import Derived.Test.YtflpddhoiafhcaaDoorProg
import Derived.Below
import Derived.Deep.Draws
import Derived.OwnWalk
import Derived.Tactics
import Derived.WalkKit
import Derived.KernelRfl
import Derived.RowKit3
import Derived.Deep.LoopGhost
import Derived.Deep.QuietTactic
import Derived.BigQuiet
import Derived.WideLaws
import Derived.Deep.DeepCutAuto
import Derived.Deep.CutBlock
import Derived.Deep.RegionHeld3
import Derived.Laws.Rows
import Derived.OrdersHeld
import Derived.Outline
import Derived.Test.YtflpddhoiafhcaaDoorWWords
import Derived.Test.YtflpddhoiafhcaaDoorWLast
import Derived.Test.YtflpddhoiafhcaaDoorWTab
import Derived.Test.YtflpddhoiafhcaaDoorWFour
import Derived.Test.YtflpddhoiafhcaaDoorWQPut
import Derived.Test.YtflpddhoiafhcaaDoorWApart
import Derived.Test.YtflpddhoiafhcaaDoorWArr
import Derived.Test.YtflpddhoiafhcaaDoorWZeros
import Derived.Test.YtflpddhoiafhcaaDoorWFoot
import Derived.Test.YtflpddhoiafhcaaDoorWKept
import Derived.Test.YtflpddhoiafhcaaDoorWShare
import Derived.Test.YtflpddhoiafhcaaDoorWN
import Derived.Test.YtflpddhoiafhcaaDoorWFootNe
import Derived.Test.YtflpddhoiafhcaaDoorWAt
import Derived.Test.YtflpddhoiafhcaaDoorWEqStruct
import Derived.Test.YtflpddhoiafhcaaDoorWRepsOne
import Derived.Test.YtflpddhoiafhcaaDoorWInv
import Derived.Test.YtflpddhoiafhcaaDoorWInvWords
import Derived.Test.YtflpddhoiafhcaaDoorWGuard
import Derived.Test.YtflpddhoiafhcaaDoorWNEv
import Derived.Test.YtflpddhoiafhcaaDoorWMore
import Derived.Test.YtflpddhoiafhcaaDoorHlMonthAhead
namespace Go.Proofs.YtflpddhoiafhcaaDoor.H
open Go.RowKit Go.Proofs.YtflpddhoiafhcaaDoorW.PrintWords Go.Proofs.YtflpddhoiafhcaaDoorW.PrintLast Go.Proofs.YtflpddhoiafhcaaDoorW.PrintMore
attribute [local go_sem] max2_int min2_int max_two min_two max_three min_three max_four min_four
set_option linter.unusedVariables false
set_option linter.unusedSimpArgs false
def month_Find.f (a0_0 : Int) (a0_1 : Int) (a0_2 : Bool) (a1 : Int) : Option (Int × Int × Bool) := if -9223372036854775808 ≤ a1 ∧ a1 ≤ 9223372036854775807 then some (Cal.mfind a0_0 a0_1 a0_2 a1) else none
theorem drop_getD (ms : List Int) (j : Nat) (h : j < ms.length) : ms.drop j = ms.getD j 0 :: ms.drop (j + 1) := by
  rw [List.drop_eq_getElem_cons h]
  simp [h]
theorem ret_find {a b a' b' : Int} {c c' : Bool} (h : (a, b, c) = (a', b', c')) : Ending.returned (.tuple #[.int .i64 a, .int .i64 b, .bool c]) = .returned (.tuple #[.int .i64 a', .int .i64 b', .bool c']) := by
  simp only [Prod.mk.injEq] at h
  rw [h.1, h.2.1, h.2.2]
set_option maxHeartbeats 4000000 in
set_option maxRecDepth 100000 in
theorem find_of (b k m r1 r2 : Int) (r3 l : Bool) (hm1 : -9223372036854775808 ≤ m) (hm2 : m ≤ 9223372036854775807) (hr : Cal.mfind b k l m = (r1, r2, r3)) (w : World) (HG : GlobT w) :
    Calls Tryd.prog 100 #[.agg #[.int .i64 b, .int .i64 k, .bool l], .int .i64 m] w fun e w' => e = .returned (.tuple #[.int .i64 r1, .int .i64 r2, .bool r3]) ∧ Below w.heap.size w w' := by
  have HK := Aside0.mk (KBox.begin HG b k l)
  have hml := months_len b k l
  have hmb := months_mem b k l
  have hof := fun W h => month_of b k l W h
  unfold Cal.mfind at hr
  generalize Cal.months b k l = ms at hml hof hr hmb
  have hT := Tab.of ms hml
  generalize tcells ms = cs at hT hof
  obtain ⟨L, hL⟩ : ∃ L, ms.length = L := ⟨_, rfl⟩
  rw [hL] at hml
  have HT := Aside0.mk hT
  have HOF := Aside0.mk hof
  have HR := Aside0.mk hr
  have HL := Aside0.mk hL
  have HM := Aside0.mk hmb
  have HLAST := Aside0.mk (show cs[13]? = some (.int .i64 L) by rw [← hL]; exact hT.last)
  have hL13 : (L : Int) ≤ 13 := by omega
  clear hof hT hr HG hmb hL
  go_enter Tryd.func100, Tryd.ntmps100
  go_wp2_with fail
  refine (HOF.out _ HK.out.glob).mono ?_
  rintro e W1 ⟨rfl, hb⟩
  have HA := Aside0.mk (TabAt.begin cs (HK.out.step hb).below)
  have hsl : ∀ W, (Instr.sliceAt 147 (.pointer (some ⟨W1.heap.size, 0, none⟩)) none (some (.int .i64 L)) none).run Tryd.prog W = .ok (.slice (some ⟨W1.heap.size, 0, none⟩) L 13) W := table_slice _ L hml
  clear hb
  go_wp2_with (first | (refine wpList_store_row rfl 149 (.tmp 7) (.tmp 11) rfl W1.heap.size cs rfl rfl 149 _ (heap_alloc_new W1 _) HT.out.info (by rw [HT.out.size]; rfl) HT.out.one ?_; have c13 := (blk_cell HA.out.tab 13).trans HLAST.out; generalize e2 : (W1.alloc (.cells #[.int .i64 0, .int .i64 0, .int .i64 0, .int .i64 0, .int .i64 0, .int .i64 0, .int .i64 0, .int .i64 0, .int .i64 0, .int .i64 0, .int .i64 0, .int .i64 0, .int .i64 0, .int .i64 0] 149)).setRow W1.heap.size cs = W2 at HA c13 ⊢; clear e2))
  go_loop [1, 17] (fun s1 s17 => ∃ (j : Nat) (n : Int), j ≤ L ∧ s17 = .int .i64 j ∧ s1 = .int .i64 n ∧ -9223372036854775808 ≤ n ∧ n ≤ 9223372036854775807 ∧ Aside0 (Cal.findIn (ms.drop j) j n = (r1, r2, r3))) (fun _ s17 => L - (intOf s17).toNat)
  case atStart => exact ⟨0, m, by omega, rfl, rfl, hm1, hm2, ⟨HR.out⟩⟩
  case round =>
    obtain ⟨j, n, hj, rfl, rfl, hn1, hn2, HF⟩ := hrel
    have hb2 := getD_bd ms HM.out j
    obtain ⟨d, hd⟩ : ∃ d, ms.getD j 0 = d := ⟨_, rfl⟩
    rw [hd] at hb2
    obtain ⟨hb2a, hb2b⟩ := hb2
    by_cases hlt : j < L
    · have HFD := Aside0.mk (show Cal.findIn (d :: ms.drop (j + 1)) j n = (r1, r2, r3) by rw [← hd, ← drop_getD ms j (by have := HL.out; omega)]; exact HF.out)
      have c : W2.cell? ⟨W1.heap.size, j, none⟩ = some (.int .i64 d) := by
        rw [blk_cell HA.out.tab, HT.out.at_ j (by omega), hd]
      clear hd HF
      by_cases h1 : n < 1
      · have HE := Aside0.mk (show ((0 : Int), (0 : Int), false) = (r1, r2, r3) by rw [← HFD.out, Cal.findIn, if_pos h1])
        have hb1 : decide (n < 1) = true := by simp; omega
        go_wp2
        go_ret3
        exact ⟨ret_find HE.out, HA.out.below⟩
      · have hb1 : decide (n < 1) = false := by simp; omega
        by_cases h2 : n ≤ d
        · have HE := Aside0.mk (show ((j : Int) + 1, n, true) = (r1, r2, r3) by rw [← HFD.out, Cal.findIn, if_neg h1, if_pos h2])
          have hb3 : decide (n ≤ d) = true := by simp; omega
          go_wp2
          go_ret3
          exact ⟨ret_find HE.out, HA.out.below⟩
        · have HE := Aside0.mk (show Cal.findIn (ms.drop (j + 1)) ((j + 1 : Nat) : Int) (n - d) = (r1, r2, r3) by rw [← HFD.out, Cal.findIn, if_neg h1, if_neg h2]; rfl)
          have hb3 : decide (n ≤ d) = false := by simp; omega
          go_wp2
          go_round
          case measure => simp [intOf]; omega
          case rel => exact ⟨j + 1, n - d, by omega, by go_num, rfl, by omega, by omega, HE⟩
    · obtain rfl : j = L := by omega
      have HE := Aside0.mk (show ((0 : Int), (0 : Int), false) = (r1, r2, r3) by rw [← HF.out, List.drop_of_length_le (by have := HL.out; omega)]; rfl)
      clear hd
      go_wp2
      go_ret3
      exact ⟨ret_find HE.out, HA.out.below⟩
theorem month_Find.calls (a0_0 : Int) (a0_1 : Int) (a0_2 : Bool) (a1 : Int) (r1 : Int) (r2 : Int) (r3 : Bool) (w : World) (HG : GlobT w) (h : month_Find.f a0_0 a0_1 a0_2 a1 = some (r1, r2, r3)) :
    Calls Tryd.prog 100 #[.agg #[.int .i64 a0_0, .int .i64 a0_1, .bool a0_2], .int .i64 a1] w fun e w' => e = .returned (.tuple #[.int .i64 r1, .int .i64 r2, .bool r3]) ∧ Below w.heap.size w w' := by
  unfold month_Find.f at h
  split at h
  · rename_i hc
    exact find_of a0_0 a0_1 a1 r1 r2 r3 a0_2 hc.1 hc.2 (Option.some.inj h) w HG
  · cases h
end Go.Proofs.YtflpddhoiafhcaaDoor.H
