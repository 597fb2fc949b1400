/- The contract of the program's function behind the hole 'ev_sort', by a walk over its text. -/
import Derived.Test.YtflpddhoiafhcaaDoorProg
import Derived.Below
import Derived.Deep.Draws
import Derived.OwnWalk
import Derived.Tactics
import Derived.WalkKit
import Derived.KernelRfl
import Derived.RowKit3
import Derived.Deep.LoopGhost
import Derived.Deep.QuietTactic
import Derived.BigQuiet
import Derived.WideLaws
import Derived.Deep.DeepCutAuto
import Derived.Deep.CutBlock
import Derived.Deep.RegionHeld3
import Derived.Laws.Rows
import Derived.OrdersHeld
import Derived.Outline
import Derived.Test.YtflpddhoiafhcaaDoorWWords
import Derived.Test.YtflpddhoiafhcaaDoorWLast
import Derived.Test.YtflpddhoiafhcaaDoorWTab
import Derived.Test.YtflpddhoiafhcaaDoorWFour
import Derived.Test.YtflpddhoiafhcaaDoorWQPut
import Derived.Test.YtflpddhoiafhcaaDoorWApart
import Derived.Test.YtflpddhoiafhcaaDoorWArr
import Derived.Test.YtflpddhoiafhcaaDoorWZeros
import Derived.Test.YtflpddhoiafhcaaDoorWFoot
import Derived.Test.YtflpddhoiafhcaaDoorWKept
import Derived.Test.YtflpddhoiafhcaaDoorWShare
import Derived.Test.YtflpddhoiafhcaaDoorWN
import Derived.Test.YtflpddhoiafhcaaDoorWFootNe
import Derived.Test.YtflpddhoiafhcaaDoorWAt
import Derived.Test.YtflpddhoiafhcaaDoorWEqStruct
import Derived.Test.YtflpddhoiafhcaaDoorWRepsOne
import Derived.Test.YtflpddhoiafhcaaDoorWInv
import Derived.Test.YtflpddhoiafhcaaDoorWInvWords
import Derived.Test.YtflpddhoiafhcaaDoorWGuard
import Derived.Test.YtflpddhoiafhcaaDoorWNEv
import Derived.Test.YtflpddhoiafhcaaDoorWMore
import Derived.Test.YtflpddhoiafhcaaDoorShlSort
import Derived.Shelf.SlSortCmp.WholeK
import Derived.Shelf.SlicesE.Clone
import Derived.Shelf.SlicesG.Cmp
import Derived.Deep.RegionHeld3
namespace Go.Proofs.YtflpddhoiafhcaaDoor.H
open Go.RowKit Go.Proofs.YtflpddhoiafhcaaDoorW.PrintWords Go.Proofs.YtflpddhoiafhcaaDoorW.PrintLast Go.Proofs.YtflpddhoiafhcaaDoorW.PrintMore
attribute [local go_sem] max2_int min2_int max_two min_two max_three min_three max_four min_four
set_option linter.unusedVariables false
set_option linter.unusedSimpArgs false
/-- An event's two cells: kind, day. -/
def encE (x : Int × Int) : List Value := [.int .i64 x.1, .int .i64 x.2]
/-- The first that isn't 0. -/
def or2 (x y : Int) : Int := if x = 0 then y else x
theorem cmp_or (g : Nat) (x y : Int) (w : World) (h0 : w.cell? ⟨g, 0, none⟩ = some (.int .i64 x)) (h1 : w.cell? ⟨g, 1, none⟩ = some (.int .i64 y)) :
    Calls Tryd.prog 67 #[.slice (some ⟨g, 0, none⟩) 2 2] w fun e w' => e = .returned (.int .i64 (or2 x y)) ∧ w = w' := by
  by_cases hx : x = 0
  · have ex : (x != 0) = false := by simpa using hx
    obtain ⟨r, hr⟩ : ∃ r, or2 x y = r := ⟨_, rfl⟩
    obtain rfl : y = r := by rw [← hr, or2, if_pos hx]
    rw [hr]
    clear hr hx
    by_cases hy : y = 0
    · have ey : (y != 0) = false := by simpa using hy
      have HY := Aside0.mk hy
      clear hy
      go_enter Tryd.func67, Tryd.ntmps67
      go_wp2
      go_loop [8] (fun s8 => ∃ k : Int, (k = 0 ∨ k = 1 ∨ k = 2) ∧ s8 = .int .i64 k) (fun s8 => 2 - (intOf s8).toNat)
      case atStart => exact ⟨0, by simp, rfl⟩
      case round =>
        obtain ⟨k, hk, rfl⟩ := hrel
        rcases hk with rfl | rfl | rfl
        · go_wp2
          go_round
          case measure => simp [intOf]
          case rel => exact ⟨1, by simp, rfl⟩
        · go_wp2
          go_round
          case measure => simp [intOf]
          case rel => exact ⟨2, by simp, rfl⟩
        · go_wp2
          go_ret
          exact ⟨by rw [HY.out]; rfl, rfl⟩
    · have ey : (y != 0) = true := by simpa using hy
      clear hy
      go_enter Tryd.func67, Tryd.ntmps67
      go_wp2
      go_loop [8] (fun s8 => ∃ k : Int, (k = 0 ∨ k = 1) ∧ s8 = .int .i64 k) (fun s8 => 2 - (intOf s8).toNat)
      case atStart => exact ⟨0, by simp, rfl⟩
      case round =>
        obtain ⟨k, hk, rfl⟩ := hrel
        rcases hk with rfl | rfl
        · go_wp2
          go_round
          case measure => simp [intOf]
          case rel => exact ⟨1, by simp, rfl⟩
        · go_wp2
          go_ret
          exact ⟨rfl, rfl⟩
  · have ex : (x != 0) = true := by simpa using hx
    obtain ⟨r, hr⟩ : ∃ r, or2 x y = r := ⟨_, rfl⟩
    obtain rfl : x = r := by rw [← hr, or2, if_neg hx]
    rw [hr]
    clear hr hx
    go_enter Tryd.func67, Tryd.ntmps67
    go_wp2
    go_loop [8] (fun s8 => s8 = .int .i64 0) (fun s8 => 2 - (intOf s8).toNat)
    case atStart => rfl
    case round =>
      obtain rfl := hrel
      go_wp2
      go_ret
      exact ⟨rfl, rfl⟩
/-- -1, 0 or 1. -/
def cmpI (x y : Int) : Int := Go.Lib.compareInt x y
/-- By days, then by kinds. -/
def cmpEv (x y : Int × Int) : Int := or2 (cmpI x.2 y.2) (cmpI x.1 y.1)
set_option maxHeartbeats 4000000 in
set_option maxRecDepth 100000 in
theorem ev_closure (x y : Int × Int) (W : World) : Calls Tryd.prog 66 #[.agg (encE x).toArray, .agg (encE y).toArray] W
    fun e w' => e = .returned (.int .i64 (cmpEv x y)) ∧ ∃ q os', w' = Go.Sort.grow (W.drewN q) os' := by
  obtain ⟨x1, x2⟩ := x
  obtain ⟨y1, y2⟩ := y
  have hcon : ∀ (a b : Int) (V : World), Calls Tryd.prog 68 #[.int .i64 a, .int .i64 b] V fun e w' => e = .returned (.int .i64 (cmpI a b)) ∧ V = w' := fun a b V =>
    (AnyG.cmp_Compare_int Tryd.cmpInt a b V).mono fun e w' ⟨he, hw⟩ => ⟨he, hw.symm⟩
  unfold cmpEv
  have HC := Aside0.mk hcon
  clear hcon
  simp only [encE]
  go_enter Tryd.func66, Tryd.ntmps66
  go_wp2_with fail
  go_region_held3 (fun V => V.cell? ⟨W.heap.size, 0, none⟩ = some (.int .i64 x1) ∧ V.cell? ⟨W.heap.size, 1, none⟩ = some (.int .i64 x2) ∧ V.cell? ⟨W.heap.size + 1, 0, none⟩ = some (.int .i64 y1) ∧ V.cell? ⟨W.heap.size + 1, 1, none⟩ = some (.int .i64 y2))
    (first | go_keep | (simp [go_sem, World.cell?_alloc_past]))
    (first | (go_at_call 68; refine (HC.out _ _ _).mono ?_; rintro e w' ⟨rfl, rfl⟩) | (go_at_call 67; refine (cmp_or (W.heap.size + 2) (cmpI x2 y2) (cmpI x1 y1) _ ?qa ?qb).mono ?_; (case qa => (change (World.alloc _ _).cell? _ = _; rw [World.cell?_alloc_at _ _ _ _ (by simp)]; rfl)); (case qb => (change (World.alloc _ _).cell? _ = _; rw [World.cell?_alloc_at _ _ _ _ (by simp)]; rfl)); rintro e w' ⟨rfl, rfl⟩))
  go_wp2
  go_ret
  refine ⟨rfl, 1, #[.cells #[.int .i64 x1, .int .i64 x2] 48, .cells #[.int .i64 y1, .int .i64 y2] 48, .cells #[.int .i64 (cmpI x2 y2), .int .i64 (cmpI x1 y1)] 3], ?_⟩
  rw [Go.Sort.alloc_eq_grow, Go.Sort.alloc_eq_grow, Go.Sort.alloc_eq_grow, Go.Sort.grow_grow, Go.Sort.grow_grow]
  rfl
end Go.Proofs.YtflpddhoiafhcaaDoor.H
