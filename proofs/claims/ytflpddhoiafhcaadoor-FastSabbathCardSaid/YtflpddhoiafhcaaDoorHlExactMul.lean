/- The contract of the program's function behind the hole 'exact_Mul', by a walk over its text. -/
import Derived.Test.YtflpddhoiafhcaaDoorProg
import Derived.Below
import Derived.Deep.Draws
import Derived.OwnWalk
import Derived.Tactics
import Derived.WalkKit
import Derived.KernelRfl
import Derived.RowKit3
import Derived.Deep.LoopGhost
import Derived.Deep.QuietTactic
import Derived.BigQuiet
import Derived.WideLaws
import Derived.Deep.DeepCutAuto
import Derived.Deep.CutBlock
import Derived.Deep.RegionHeld3
import Derived.Laws.Rows
import Derived.OrdersHeld
import Derived.Outline
import Derived.Test.YtflpddhoiafhcaaDoorWWords
import Derived.Test.YtflpddhoiafhcaaDoorWLast
import Derived.Test.YtflpddhoiafhcaaDoorWTab
import Derived.Test.YtflpddhoiafhcaaDoorWFour
import Derived.Test.YtflpddhoiafhcaaDoorWQPut
import Derived.Test.YtflpddhoiafhcaaDoorWApart
import Derived.Test.YtflpddhoiafhcaaDoorWArr
import Derived.Test.YtflpddhoiafhcaaDoorWZeros
import Derived.Test.YtflpddhoiafhcaaDoorWFoot
import Derived.Test.YtflpddhoiafhcaaDoorWKept
import Derived.Test.YtflpddhoiafhcaaDoorWShare
import Derived.Test.YtflpddhoiafhcaaDoorWN
import Derived.Test.YtflpddhoiafhcaaDoorWFootNe
import Derived.Test.YtflpddhoiafhcaaDoorWAt
import Derived.Test.YtflpddhoiafhcaaDoorWEqStruct
import Derived.Test.YtflpddhoiafhcaaDoorWRepsOne
import Derived.Test.YtflpddhoiafhcaaDoorWInv
import Derived.Test.YtflpddhoiafhcaaDoorWInvWords
import Derived.Test.YtflpddhoiafhcaaDoorWGuard
import Derived.Test.YtflpddhoiafhcaaDoorWNEv
import Derived.Test.YtflpddhoiafhcaaDoorWMore
import Derived.Test.YtflpddhoiafhcaaDoorShlMul
namespace Go.Proofs.YtflpddhoiafhcaaDoor.H
open Go.RowKit Go.Proofs.YtflpddhoiafhcaaDoorW.PrintWords Go.Proofs.YtflpddhoiafhcaaDoorW.PrintLast Go.Proofs.YtflpddhoiafhcaaDoorW.PrintMore
attribute [local go_sem] max2_int min2_int max_two min_two max_three min_three max_four min_four
set_option linter.unusedVariables false
set_option linter.unusedSimpArgs false
theorem exact_size_pos (n : Int) (h0 : ¬ n < 0) (h1 : n ≤ 1073741824) (w : World) :
    Calls Tryd.prog 201 #[.int .i64 n] w fun e w' => e = .returned (.int .u64 n) ∧ w = w' := by
  have hd : decide (n < 0) = false := by simp; omega
  go_enter Tryd.func201, Tryd.ntmps201
  go_wp2
  go_ret
  exact ⟨rfl, rfl⟩
theorem exact_size_neg (n : Int) (h0 : n < 0) (h1 : -1073741824 ≤ n) (w : World) :
    Calls Tryd.prog 201 #[.int .i64 n] w fun e w' => e = .returned (.int .u64 (-n)) ∧ w = w' := by
  have hd : decide (n < 0) = true := by simp; omega
  have hb : -n ≤ 1073741824 := by omega
  have hc : 0 < -n := by omega
  go_enter Tryd.func201, Tryd.ntmps201
  go_wp2
  go_ret
  refine ⟨?_, rfl⟩
  simp [IntKind.wrap, IntKind.bits, IntKind.signed]
  omega
/-- Of two numbers below 2 ^ 31: nothing high, and the product. -/
theorem exact_mul64 (x y p : Int) (hx0 : 0 ≤ x) (hx1 : x ≤ 1073741824) (hy0 : 0 ≤ y) (hy1 : y ≤ 1073741824) (hp : x * y = p) (w : World) :
    Calls Tryd.prog 200 #[.int .u64 x, .int .u64 y] w fun e w' => e = .returned (.tuple #[.int .u64 0, .int .u64 p]) ∧ w = w' := by
  have h := Tryd.bits_Mul64 x.toNat y.toNat (by omega) (by omega) w
  have hq : ((x.toNat * y.toNat : Nat) : Int) = p := by rw [← hp, Int.natCast_mul, Int.toNat_of_nonneg hx0, Int.toNat_of_nonneg hy0]
  have hb : x.toNat * y.toNat ≤ 1073741824 * 1073741824 := Nat.mul_le_mul (by omega) (by omega)
  rw [Int.toNat_of_nonneg hx0, Int.toNat_of_nonneg hy0] at h
  refine h.mono ?_
  rintro e w' ⟨rfl, rfl⟩
  refine ⟨?_, rfl⟩
  rw [Nat.div_eq_of_lt (by omega), Nat.mod_eq_of_lt (by omega), hq]
  rfl
theorem exact_prod_bd (x y : Int) (hx0 : 0 ≤ x) (hx1 : x ≤ 1073741824) (hy0 : 0 ≤ y) (hy1 : y ≤ 1073741824) : 0 ≤ x * y ∧ x * y ≤ 1152921504606846976 :=
  ⟨Int.mul_nonneg hx0 hy0, Int.le_trans (Int.mul_le_mul hx1 hy1 hy0 (by omega)) (by decide)⟩
def exact_Mul.f (a0 : Int) (a1 : Int) : Option (Int × Int) := if -1073741824 ≤ a0 ∧ a0 ≤ 1073741824 ∧ -1073741824 ≤ a1 ∧ a1 ≤ 1073741824 then some (a0 * a1, 0) else none
theorem exact_mul_all (a b p : Int) (ha0 : -1073741824 ≤ a) (ha1 : a ≤ 1073741824) (hb0 : -1073741824 ≤ b) (hb1 : b ≤ 1073741824) (hp : a * b = p) (w : World) :
    Calls Tryd.prog 196 #[.int .i64 a, .int .i64 b] w fun e w' => e = .returned (.tuple #[.int .i64 p, .int .i64 0]) ∧ w = w' := by
  by_cases ca : a < 0 <;> by_cases cb : b < 0
  · have bd := exact_prod_bd (-a) (-b) (by omega) (by omega) (by omega) (by omega)
    have hq : -a * -b = p := by rw [Int.neg_mul_neg]; exact hp
    rw [hq] at bd
    obtain ⟨bd0, bd1⟩ := bd
    have HQ := Aside0.mk hq
    have hda : decide (a < 0) = true := by simp; omega
    have hdb : decide (b < 0) = true := by simp; omega
    have hm : decide (9223372036854775807 < p) = false := by simp; omega
    clear hp hq
    go_enter Tryd.func196, Tryd.ntmps196
    go_wp2_with fail
    refine (exact_size_neg a (by omega) ha0 _).mono ?_; rintro e w' ⟨rfl, rfl⟩
    go_wp2_with fail
    refine (exact_size_neg b (by omega) hb0 _).mono ?_; rintro e w' ⟨rfl, rfl⟩
    go_wp2_with fail
    refine (exact_mul64 (-a) (-b) p (by omega) (by omega) (by omega) (by omega) HQ.out _).mono ?_; rintro e w' ⟨rfl, rfl⟩
    go_wp2
    go_ret2
    exact ⟨rfl, rfl⟩
  · have bd := exact_prod_bd (-a) b (by omega) (by omega) (by omega) (by omega)
    obtain ⟨q, hq⟩ : ∃ q, -a * b = q := ⟨_, rfl⟩
    obtain rfl : p = -q := by rw [← hp, ← hq, Int.neg_mul, Int.neg_neg]
    rw [hq] at bd
    obtain ⟨bd0, bd1⟩ := bd
    have HQ := Aside0.mk hq
    have hda : decide (a < 0) = true := by simp; omega
    have hdb : decide (b < 0) = false := by simp; omega
    have hm : decide (9223372036854775808 < q) = false := by simp; omega
    clear hp hq
    go_enter Tryd.func196, Tryd.ntmps196
    go_wp2_with fail
    refine (exact_size_neg a (by omega) ha0 _).mono ?_; rintro e w' ⟨rfl, rfl⟩
    go_wp2_with fail
    refine (exact_size_pos b (by omega) hb1 _).mono ?_; rintro e w' ⟨rfl, rfl⟩
    go_wp2_with fail
    refine (exact_mul64 (-a) b q (by omega) (by omega) (by omega) (by omega) HQ.out _).mono ?_; rintro e w' ⟨rfl, rfl⟩
    go_wp2
    go_ret2
    refine ⟨?_, rfl⟩
    simp [IntKind.wrap, IntKind.bits, IntKind.signed]
    unfold wrap64
    omega
  · have bd := exact_prod_bd a (-b) (by omega) (by omega) (by omega) (by omega)
    obtain ⟨q, hq⟩ : ∃ q, a * -b = q := ⟨_, rfl⟩
    obtain rfl : p = -q := by rw [← hp, ← hq, Int.mul_neg, Int.neg_neg]
    rw [hq] at bd
    obtain ⟨bd0, bd1⟩ := bd
    have HQ := Aside0.mk hq
    have hda : decide (a < 0) = false := by simp; omega
    have hdb : decide (b < 0) = true := by simp; omega
    have hm : decide (9223372036854775808 < q) = false := by simp; omega
    clear hp hq
    go_enter Tryd.func196, Tryd.ntmps196
    go_wp2_with fail
    refine (exact_size_pos a (by omega) ha1 _).mono ?_; rintro e w' ⟨rfl, rfl⟩
    go_wp2_with fail
    refine (exact_size_neg b (by omega) hb0 _).mono ?_; rintro e w' ⟨rfl, rfl⟩
    go_wp2_with fail
    refine (exact_mul64 a (-b) q (by omega) (by omega) (by omega) (by omega) HQ.out _).mono ?_; rintro e w' ⟨rfl, rfl⟩
    go_wp2
    go_ret2
    refine ⟨?_, rfl⟩
    simp [IntKind.wrap, IntKind.bits, IntKind.signed]
    unfold wrap64
    omega
  · have bd := exact_prod_bd a b (by omega) (by omega) (by omega) (by omega)
    have HQ := Aside0.mk hp
    rw [hp] at bd
    obtain ⟨bd0, bd1⟩ := bd
    have hda : decide (a < 0) = false := by simp; omega
    have hdb : decide (b < 0) = false := by simp; omega
    have hm : decide (9223372036854775807 < p) = false := by simp; omega
    clear hp
    go_enter Tryd.func196, Tryd.ntmps196
    go_wp2_with fail
    refine (exact_size_pos a (by omega) ha1 _).mono ?_; rintro e w' ⟨rfl, rfl⟩
    go_wp2_with fail
    refine (exact_size_pos b (by omega) hb1 _).mono ?_; rintro e w' ⟨rfl, rfl⟩
    go_wp2_with fail
    refine (exact_mul64 a b p (by omega) (by omega) (by omega) (by omega) HQ.out _).mono ?_; rintro e w' ⟨rfl, rfl⟩
    go_wp2
    go_ret2
    exact ⟨rfl, rfl⟩
theorem exact_Mul.calls (a0 : Int) (a1 : Int) (r1 : Int) (r2 : Int) (w : World) (h : exact_Mul.f a0 a1 = some (r1, r2)) :
    Calls Tryd.prog 196 #[.int .i64 a0, .int .i64 a1] w fun e w' => e = .returned (.tuple #[.int .i64 r1, .int .i64 r2]) ∧ Drawn0 w w' := by
  unfold exact_Mul.f at h
  split at h
  · rename_i hc
    simp only [Option.some.injEq, Prod.mk.injEq] at h
    obtain ⟨h1, h2⟩ := h
    subst h2
    exact (exact_mul_all a0 a1 r1 hc.1 hc.2.1 hc.2.2.1 hc.2.2.2 h1 w).mono fun e w' ⟨he, hw⟩ => ⟨he, hw ▸ Drawn0.refl _⟩
  · cases h
end Go.Proofs.YtflpddhoiafhcaaDoor.H
