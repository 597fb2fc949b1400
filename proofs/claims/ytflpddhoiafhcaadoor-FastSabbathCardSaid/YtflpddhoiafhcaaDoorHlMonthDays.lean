/- The contract of the program's function behind the hole 'month_Days', by a walk over its text. -/
import Derived.Test.YtflpddhoiafhcaaDoorProg
import Derived.Below
import Derived.Deep.Draws
import Derived.OwnWalk
import Derived.Tactics
import Derived.WalkKit
import Derived.KernelRfl
import Derived.RowKit3
import Derived.Deep.LoopGhost
import Derived.Deep.QuietTactic
import Derived.BigQuiet
import Derived.WideLaws
import Derived.Deep.DeepCutAuto
import Derived.Deep.CutBlock
import Derived.Deep.RegionHeld3
import Derived.Laws.Rows
import Derived.OrdersHeld
import Derived.Outline
import Derived.Test.YtflpddhoiafhcaaDoorWWords
import Derived.Test.YtflpddhoiafhcaaDoorWLast
import Derived.Test.YtflpddhoiafhcaaDoorWTab
import Derived.Test.YtflpddhoiafhcaaDoorWFour
import Derived.Test.YtflpddhoiafhcaaDoorWQPut
import Derived.Test.YtflpddhoiafhcaaDoorWApart
import Derived.Test.YtflpddhoiafhcaaDoorWArr
import Derived.Test.YtflpddhoiafhcaaDoorWZeros
import Derived.Test.YtflpddhoiafhcaaDoorWFoot
import Derived.Test.YtflpddhoiafhcaaDoorWKept
import Derived.Test.YtflpddhoiafhcaaDoorWShare
import Derived.Test.YtflpddhoiafhcaaDoorWN
import Derived.Test.YtflpddhoiafhcaaDoorWFootNe
import Derived.Test.YtflpddhoiafhcaaDoorWAt
import Derived.Test.YtflpddhoiafhcaaDoorWEqStruct
import Derived.Test.YtflpddhoiafhcaaDoorWRepsOne
import Derived.Test.YtflpddhoiafhcaaDoorWInv
import Derived.Test.YtflpddhoiafhcaaDoorWInvWords
import Derived.Test.YtflpddhoiafhcaaDoorWGuard
import Derived.Test.YtflpddhoiafhcaaDoorWNEv
import Derived.Test.YtflpddhoiafhcaaDoorWMore
import Derived.Test.YtflpddhoiafhcaaDoorHlMonthOf
namespace Go.Proofs.YtflpddhoiafhcaaDoor.H
open Go.RowKit Go.Proofs.YtflpddhoiafhcaaDoorW.PrintWords Go.Proofs.YtflpddhoiafhcaaDoorW.PrintLast Go.Proofs.YtflpddhoiafhcaaDoorW.PrintMore
attribute [local go_sem] max2_int min2_int max_two min_two max_three min_three max_four min_four
set_option linter.unusedVariables false
set_option linter.unusedSimpArgs false
theorem table_has (cs : Array Value) (n m : Int) (r : Bool) (hr : decide (0 < m ∧ m ≤ n) = r) (hc : cs[13]? = some (.int .i64 n)) (w : World) :
    Calls Tryd.prog 121 #[.agg cs, .int .i64 m] w fun e w' => e = .returned (.bool r) ∧ Below w.heap.size w w' := by
  have hg := heap_alloc_new w (.cells cs 149)
  have c1 : (w.alloc (.cells cs 149)).cell? ⟨w.heap.size, 13, none⟩ = some (.int .i64 n) := (blk_cell hg 13).trans hc
  clear hg hc
  by_cases h0 : 0 < m
  · have e0 : decide (0 < m) = true := by simp; omega
    by_cases h1 : m ≤ n
    · have e1 : decide (m ≤ n) = true := by simp; omega
      obtain rfl : r = true := by rw [← hr]; simp; omega
      clear hr
      go_enter Tryd.func121, Tryd.ntmps121
      go_wp2
      go_ret
      exact ⟨rfl, (Below.refl _ _).alloc (Nat.le_refl _) _⟩
    · have e1 : decide (m ≤ n) = false := by simp; omega
      obtain rfl : r = false := by rw [← hr]; simp; omega
      clear hr
      go_enter Tryd.func121, Tryd.ntmps121
      go_wp2
      go_ret
      exact ⟨rfl, (Below.refl _ _).alloc (Nat.le_refl _) _⟩
  · have e0 : decide (0 < m) = false := by simp; omega
    obtain rfl : r = false := by rw [← hr]; simp; omega
    clear hr
    go_enter Tryd.func121, Tryd.ntmps121
    go_wp2
    go_ret
    exact ⟨rfl, (Below.refl _ _).alloc (Nat.le_refl _) _⟩
theorem months_len (b k : Int) (l : Bool) : (Cal.months b k l).length ≤ 13 := by
  unfold Cal.months Cal.lens
  split <;> simp
  split <;> simp
theorem tcells_at (ms : List Int) (h : ms.length ≤ 13) (i : Nat) (hi : i < 13) : (tcells ms)[i]? = some (.int .i64 (ms.getD i 0)) := by
  simp only [tcells, List.getElem?_toArray]
  rw [List.getElem?_append_left (by simp; omega), List.getElem?_map]
  by_cases hm : i < ms.length
  · rw [List.getElem?_append_left hm, List.getElem?_eq_getElem hm]; simp [hm]
  · rw [List.getElem?_append_right (by omega), List.getElem?_replicate, if_pos (by omega)]
    simp [List.getElem?_eq_none (Nat.le_of_not_lt hm)]
def month_Days.f (a0_0 : Int) (a0_1 : Int) (a0_2 : Bool) (a1 : Int) : Option (Int) := if -9223372036854775808 ≤ a1 ∧ a1 ≤ 9223372036854775807 then some (Cal.mdays a0_0 a0_1 a0_2 a1) else none
/-- A table's cells, as the walks take them. -/
structure Tab (ms : List Int) (cs : Array Value) : Prop where
  size : cs.size = 14
  one : cs.all (·.oneCell') = true
  last : cs[13]? = some (.int .i64 ms.length)
  info : (Tryd.prog.info? 149).map (·.size) = some cs.size
  at_ : ∀ i, i < 13 → cs[i]? = some (.int .i64 (ms.getD i 0))
theorem Tab.of (ms : List Int) (h : ms.length ≤ 13) : Tab ms (tcells ms) :=
  ⟨tcells_size ms h, tcells_one ms, tcells_last ms h, by rw [tcells_size ms h]; kernel_rfl, tcells_at ms h⟩
/-- The world behind the call of 'of': its table laid in a block. -/
structure TabAt (w : World) (g : Nat) (cs : Array Value) (W : World) : Prop where
  below : Below w.heap.size w W
  ge : w.heap.size ≤ g
  tab : W.heap[g]? = some (.cells cs 149 (0, 0))
theorem TabAt.step {w : World} {g : Nat} {cs : Array Value} {W W' : World} (h : TabAt w g cs W) (hb : Below W.heap.size W W') : TabAt w g cs W' :=
  ⟨h.below.trans (hb.mono h.below.size), h.ge, (hb.block g (blk_lt h.tab)).trans h.tab⟩
theorem TabAt.begin {w W1 : World} (cs : Array Value) (hb : Below w.heap.size w W1) :
    TabAt w W1.heap.size cs ((W1.alloc (.cells #[.int .i64 0, .int .i64 0, .int .i64 0, .int .i64 0, .int .i64 0, .int .i64 0, .int .i64 0, .int .i64 0, .int .i64 0, .int .i64 0, .int .i64 0, .int .i64 0, .int .i64 0, .int .i64 0] 149)).setRow W1.heap.size cs) :=
  ⟨below_setRow (hb.alloc hb.size _) hb.size _, hb.size, setRow_heap _ _ _ _ _ _ (heap_alloc_new W1 _)⟩
theorem days_of (b k m r : Int) (l : Bool) (hm1 : -9223372036854775808 ≤ m) (hm2 : m ≤ 9223372036854775807) (hr : Cal.mdays b k l m = r) (w : World) (HG : GlobT w) :
    Calls Tryd.prog 102 #[.agg #[.int .i64 b, .int .i64 k, .bool l], .int .i64 m] w fun e w' => e = .returned (.int .i64 r) ∧ Below w.heap.size w w' := by
  have HK := Aside0.mk (KBox.begin HG b k l)
  have hml := months_len b k l
  have hof := fun W h => month_of b k l W h
  unfold Cal.mdays at hr
  generalize Cal.months b k l = ms at hml hof hr
  have hT := Tab.of ms hml
  generalize tcells ms = cs at hT hof
  have HT := Aside0.mk hT
  have HOF := Aside0.mk hof
  have HR := Aside0.mk hr
  have HL := Aside0.mk hml
  clear hml hof hT hr HG
  by_cases hc : 0 < m ∧ m ≤ (ms.length : Int)
  · obtain ⟨i, rfl⟩ : ∃ i : Nat, m = i + 1 := ⟨(m - 1).toNat, by omega⟩
    have HC := Aside0.mk hc
    have hi13 : (i : Int) < 13 := by have := HL.out; omega
    have hi0 : (0 : Int) ≤ i := by omega
    clear hc
    go_enter Tryd.func102, Tryd.ntmps102
    go_wp2_with fail
    refine (HOF.out _ HK.out.glob).mono ?_
    rintro e W1 ⟨rfl, hb⟩
    have HA := Aside0.mk (TabAt.begin cs (HK.out.step hb).below)
    clear hb
    go_wp2_with (first | (refine wpList_store_row rfl 149 (.tmp 5) (.tmp 7) rfl W1.heap.size cs rfl rfl 149 _ (heap_alloc_new W1 _) HT.out.info (by rw [HT.out.size]; rfl) HT.out.one ?_; generalize e2 : (W1.alloc (.cells #[.int .i64 0, .int .i64 0, .int .i64 0, .int .i64 0, .int .i64 0, .int .i64 0, .int .i64 0, .int .i64 0, .int .i64 0, .int .i64 0, .int .i64 0, .int .i64 0, .int .i64 0, .int .i64 0] 149)).setRow W1.heap.size cs = W2 at HA ⊢; clear e2) | (refine wpList_load_row rfl 149 (.tmp 5) rfl W1.heap.size rfl 149 cs (0, 0) _ HA.out.tab Tryd.underlying149 rfl HT.out.info ?_))
    refine (table_has cs ms.length (i + 1) true (by simpa using HC.out) HT.out.last _).mono ?_
    rintro e W3 ⟨rfl, hb⟩
    have HA3 := Aside0.mk (HA.out.step hb)
    have c : W3.cell? ⟨W1.heap.size, i, none⟩ = some (.int .i64 r) := by
      rw [blk_cell HA3.out.tab, HT.out.at_ i (by omega), ← HR.out, if_pos HC.out, show ((i : Int) + 1 - 1).toNat = i by omega]
    clear hb
    go_wp2
    go_ret
    exact ⟨rfl, HA3.out.below⟩
  · have HC := Aside0.mk hc
    obtain rfl : r = 0 := by rw [← HR.out, if_neg HC.out]
    clear hc
    go_enter Tryd.func102, Tryd.ntmps102
    go_wp2_with fail
    refine (HOF.out _ HK.out.glob).mono ?_
    rintro e W1 ⟨rfl, hb⟩
    have HA := Aside0.mk (TabAt.begin cs (HK.out.step hb).below)
    clear hb
    go_wp2_with (first | (refine wpList_store_row rfl 149 (.tmp 5) (.tmp 7) rfl W1.heap.size cs rfl rfl 149 _ (heap_alloc_new W1 _) HT.out.info (by rw [HT.out.size]; rfl) HT.out.one ?_; generalize e2 : (W1.alloc (.cells #[.int .i64 0, .int .i64 0, .int .i64 0, .int .i64 0, .int .i64 0, .int .i64 0, .int .i64 0, .int .i64 0, .int .i64 0, .int .i64 0, .int .i64 0, .int .i64 0, .int .i64 0, .int .i64 0] 149)).setRow W1.heap.size cs = W2 at HA ⊢; clear e2) | (refine wpList_load_row rfl 149 (.tmp 5) rfl W1.heap.size rfl 149 cs (0, 0) _ HA.out.tab Tryd.underlying149 rfl HT.out.info ?_))
    refine (table_has cs ms.length m false (by simpa using HC.out) HT.out.last _).mono ?_
    rintro e W3 ⟨rfl, hb⟩
    have HA3 := Aside0.mk (HA.out.step hb)
    clear hb
    go_wp2
    go_ret
    exact ⟨rfl, HA3.out.below⟩
theorem month_Days.calls (a0_0 : Int) (a0_1 : Int) (a0_2 : Bool) (a1 : Int) (r : Int) (w : World) (HG : GlobT w) (h : month_Days.f a0_0 a0_1 a0_2 a1 = some r) :
    Calls Tryd.prog 102 #[.agg #[.int .i64 a0_0, .int .i64 a0_1, .bool a0_2], .int .i64 a1] w fun e w' => e = .returned (.int .i64 r) ∧ Below w.heap.size w w' := by
  unfold month_Days.f at h
  split at h
  · rename_i hc
    exact days_of a0_0 a0_1 a1 r a0_2 hc.1 hc.2 (Option.some.inj h) w HG
  · cases h
end Go.Proofs.YtflpddhoiafhcaaDoor.H
