/- Texts of the proof of 'NameTells', joined by a program (part 7): contracts of functions, plain laws. -/
import Derived.Test.YtflpddhoiafhcaaGreatDoorJNameTells0
import Derived.Test.YtflpddhoiafhcaaGreatDoorJNameTells2
import Derived.Test.YtflpddhoiafhcaaGreatDoorJNameTells6
import Derived.Test.YtflpddhoiafhcaaGreatDoorJNameTells4
set_option linter.unusedVariables false
set_option linter.unusedSimpArgs false
set_option linter.unusedSectionVars false
section
-- Written by wip/hprint.py of this repo (holes typed by hand, all else by a program) over the seat YtflpddhoiafhcaaGreatDoor.
namespace Go.Proofs.YtflpddhoiafhcaaGreatDoor.R
open Go.Proofs.YtflpddhoiafhcaaGreatDoor.H
open Go.RowKit Go.Proofs.YtflpddhoiafhcaaGreatDoorW.PrintWords Go.Proofs.YtflpddhoiafhcaaGreatDoorW.PrintLast Go.Proofs.YtflpddhoiafhcaaGreatDoorW.PrintMore
attribute [local go_sem] max2_int min2_int max_two min_two max_three min_three max_four min_four   -- for this text's walks alone
set_option linter.unusedVariables false
set_option linter.unusedSimpArgs false

def almanackerref14_digits.l0 : Nat → Int → ByteArray → Option (ByteArray)
  | 0, _, _ => none
  | k + 1, x0, x3 => (some (([(wrap64 (48 + (Int.tmod x0 10))) % 256] : List Int) : List Int)).bind fun y354 => (if (strOfNums y354).size + x3.size ≤ 9223372036854775807 then (if (wrap64 (Int.tdiv x0 10)) = 0 then (some ((strOfNums y354) ++ x3)) else (almanackerref14_digits.l0 k (wrap64 (Int.tdiv x0 10)) ((strOfNums y354) ++ x3))) else (none))
def almanackerref14_digits.f (k : Nat) (a0 : Int) : Option (ByteArray) := almanackerref14_digits.l0 k a0 (⟨#[]⟩ : ByteArray)
set_option maxHeartbeats 8000000 in
set_option maxRecDepth 100000 in
theorem almanackerref14_digits.calls (k : Nat) (a0 : Int) (r : ByteArray) (w : World) (h : almanackerref14_digits.f k a0 = some r) :
  Calls Tryz.prog 53 #[.int .i64 a0] w fun e w' => e = .returned (.string r) ∧ Below w.heap.size w w' := by
 have HB := zz00 (Below.refl w.heap.size w)
 have H : (almanackerref14_digits.l0 k a0 (⟨#[]⟩ : ByteArray)) = some r := h
 clear h
 have H' := zz00 H
 clear H
 go_enter Tryz.func53, Tryz.ntmps53
 go_wp2
 go_loopg [0,3] k (fun kq v0 v3 w'=>∃ (x0_1 : Int) (x3_1 : ByteArray),v0 = .int .i64 x0_1 ∧ v3 = .string x3_1 ∧ Aside0 (almanackerref14_digits.l0 kq x0_1 x3_1 = some r) ∧ Aside0 (kq ≤ k) ∧ Aside0 (Below w.heap.size w w'))
 case atStart=>exact ⟨(a0),((⟨#[]⟩ : ByteArray)),(by first|rfl|(simp;done)|(simp [*];done)),(by first|rfl|(simp;done)|(simp [*];done)),H',⟨Nat.le_refl _⟩,⟨by repeat (first|(with_reducible first|exact HB.out|apply zz03|apply zz01|apply zz02)|exact HB.out)⟩⟩
 case round =>
  clear H'
  obtain ⟨x0_1, x3_1, rfl, rfl, HA, HK1, HB⟩ := hrel
  cases gk with
  | zero => exact absurd HA.out (by simp [almanackerref14_digits.l0])
  | succ k1 =>
   have H := HA.out
   clear HA
   simp only [almanackerref14_digits.l0] at H
   obtain ⟨y354, hy354⟩ : ∃ y_ : List Int, y_ = (([(wrap64 (48 + (Int.tmod x0_1 10))) % 256] : List Int)) := ⟨_, rfl⟩
   replace H : (if (strOfNums y354).size + x3_1.size ≤ 9223372036854775807 then (if (wrap64 (Int.tdiv x0_1 10)) = 0 then (some ((strOfNums y354) ++ x3_1)) else (almanackerref14_digits.l0 k1 (wrap64 (Int.tdiv x0_1 10)) ((strOfNums y354) ++ x3_1))) else (none)) = some r:=by first|(rw [hy354];with_reducible exact H)|(have H2_:=(Option.bind_some _ _).symm.trans H;rw [hy354];with_reducible exact H2_)|(have H2_:=(Option.bind_some _ _).symm.trans H;with_reducible exact H2_)|with_reducible exact H|(rw [hy354];exact H)|exact H
   have Ny354 := zz00 hy354
   clear hy354
   by_cases c2 : (strOfNums y354).size + x3_1.size ≤ 9223372036854775807
   ·
    rw [if_pos c2] at H
    have c2b0 := eq_true c2
    have c2b1 : decide ((strOfNums y354).size + x3_1.size ≤ 9223372036854775807) = true := decide_eq_true c2
    try have c2b2 : (9223372036854775807 < (strOfNums y354).size + x3_1.size) = False := eq_false (Nat.not_lt.2 c2)
    by_cases c3 : (wrap64 (Int.tdiv x0_1 10)) = 0
    ·
     rw [if_pos c3] at H
     have c3b0 : ((wrap64 (Int.tdiv x0_1 10)) == 0) = true := zz29.mpr c3
     have c3b1 : ((wrap64 (Int.tdiv x0_1 10)) != 0) = false := zz26.mpr c3
     clear c3
     obtain rfl := Option.some.inj H
     go_wp2_with (first|((with_reducible refine zz24 (N:=8) rfl ?_);refine Kd.R_lit (Kd.int .u8) _ 5 ?hg (N:=8) ?hd (xs:=([(wrap64 (48 + (Int.tmod x0_1 10))) % 256] : List Int)) (inner:=[.int .u8 ((wrap64 (48 + (Int.tmod x0_1 10))) % 256)]) (ok:=fun _=>True) (okp:=fun _=>True) ?hr ?hp (fun _ hk=>hk) trivial (Below.refl _ _) (Nat.le_refl _) (by simp) ?_;(case hd=>rfl);(case hg=>rfl);(case hr=>first|(go_simp;done)|(go_simp;rfl));(case hp=>exact (Reps.one (show Kd.M (Kd.int .u8) _ _ _ ((wrap64 (48 + (Int.tmod x0_1 10))) % 256) [.int .u8 ((wrap64 (48 + (Int.tmod x0_1 10))) % 256)] from rfl) (Reps.none _ _)));intro v355 w4 ho5 hb hg_ hnew_;clear hg_ hnew_;(first|rw [← Ny354.out] at ho5|(simp only [Int.reduceToNat] at ho5;rw [← Ny354.out] at ho5));have n0_:=zz00 (Kd.R_lower ho5 (zz22 (by repeat (first|(with_reducible first|exact HB.out|apply zz03|apply zz01|apply zz02)|exact HB.out))));have n1_:=zz00 (zz21 (by repeat (first|(with_reducible first|exact HB.out|apply zz03|apply zz01|apply zz02)|exact HB.out)) hb);clear HB;have HO356:=n0_;have HB:=n1_;clear n0_ n1_;clear hb ho5;have hcv6:=own_string (P:=Tryz.prog) Tryz.underlying114 Tryz.underlying5 Tryz.underlying9 (Kd.own_of_R HO356.out)))
     go_ret
     exact ⟨by first|rfl|(simp [errW_none,errW_some] <;> rfl)|(simp [*,errW_none,errW_some] <;> rfl),by repeat (first|(with_reducible first|exact HB.out|apply zz03|apply zz01|apply zz02)|exact HB.out)⟩
    ·
     rw [if_neg c3] at H
     have c3b0 : ((wrap64 (Int.tdiv x0_1 10)) == 0) = false := zz27.mpr c3
     have c3b1 : ((wrap64 (Int.tdiv x0_1 10)) != 0) = true := zz28.mpr c3
     have H' := zz00 H
     clear H
     go_wp2_with (first|((with_reducible refine zz24 (N:=8) rfl ?_);refine Kd.R_lit (Kd.int .u8) _ 5 ?hg (N:=8) ?hd (xs:=([(wrap64 (48 + (Int.tmod x0_1 10))) % 256] : List Int)) (inner:=[.int .u8 ((wrap64 (48 + (Int.tmod x0_1 10))) % 256)]) (ok:=fun _=>True) (okp:=fun _=>True) ?hr ?hp (fun _ hk=>hk) trivial (Below.refl _ _) (Nat.le_refl _) (by simp) ?_;(case hd=>rfl);(case hg=>rfl);(case hr=>first|(go_simp;done)|(go_simp;rfl));(case hp=>exact (Reps.one (show Kd.M (Kd.int .u8) _ _ _ ((wrap64 (48 + (Int.tmod x0_1 10))) % 256) [.int .u8 ((wrap64 (48 + (Int.tmod x0_1 10))) % 256)] from rfl) (Reps.none _ _)));intro v355 w7 ho8 hb hg_ hnew_;clear hg_ hnew_;(first|rw [← Ny354.out] at ho8|(simp only [Int.reduceToNat] at ho8;rw [← Ny354.out] at ho8));have n0_:=zz00 (Kd.R_lower ho8 (zz22 (by repeat (first|(with_reducible first|exact HB.out|apply zz03|apply zz01|apply zz02)|exact HB.out))));have n1_:=zz00 (zz21 (by repeat (first|(with_reducible first|exact HB.out|apply zz03|apply zz01|apply zz02)|exact HB.out)) hb);clear HB;have HO356:=n0_;have HB:=n1_;clear n0_ n1_;clear hb ho8;have hcv9:=own_string (P:=Tryz.prog) Tryz.underlying114 Tryz.underlying5 Tryz.underlying9 (Kd.own_of_R HO356.out)))
     go_roundg k1
     case measure => have := HK1.out; omega
     case rel=>exact ⟨(wrap64 (Int.tdiv x0_1 10)),((strOfNums y354) ++ x3_1),(by first|rfl|(simp;done)|(simp [*];done)),(by first|rfl|(simp;done)|(simp [*];done)),H',⟨by have:=HK1.out;omega⟩,⟨by repeat (first|(with_reducible first|exact HB.out|apply zz03|apply zz01|apply zz02)|exact HB.out)⟩⟩
   ·
    rw [if_neg c2] at H
    exact absurd H (by simp)

def almanackerref14_Print.f (k : Nat) (a0_0 : Int) (a0_1 : Int) (a0_2 : Bool) (a0_3 : Int) : Option (ByteArray × Int) := (almanackerref10_Check.f k a0_0 a0_1 a0_2 a0_3).bind fun t358 => (if t358 = 0 then ((almanackerref14_Month.f k a0_0 a0_1 a0_2).bind fun bt359 => ((almanackerref14_digits.f k a0_3).bind fun t361 => (if t361.size + 1 ≤ 9223372036854775807 then (if (t361 ++ (⟨#[32]⟩ : ByteArray)).size + bt359.1.size ≤ 9223372036854775807 then (if ((t361 ++ (⟨#[32]⟩ : ByteArray)) ++ bt359.1).size + 1 ≤ 9223372036854775807 then ((almanackerref14_digits.f k a0_0).bind fun t362 => (if (((t361 ++ (⟨#[32]⟩ : ByteArray)) ++ bt359.1) ++ (⟨#[32]⟩ : ByteArray)).size + t362.size ≤ 9223372036854775807 then (some ((((t361 ++ (⟨#[32]⟩ : ByteArray)) ++ bt359.1) ++ (⟨#[32]⟩ : ByteArray)) ++ t362, 0)) else (none))) else (none)) else (none)) else (none)))) else (some ((⟨#[]⟩ : ByteArray), t358)))
def almanackerref14_Print.T5 : Bool × List (List Nat × List Nat) := (true, [([], []), ([0], [0]), ([1], [1]), ([2], [2]), ([], []), ([3, 4], [3, 4]), ([5], [5]), ([], []), ([7], [7]), ([8, 2], [8]), ([6, 9], [6, 9]), ([10, 9, 0, 1, 2, 3, 4, 5, 6, 7, 8, 9, 10], [10]), ([11, 0, 1, 2, 3, 4, 5, 6, 7, 8, 9, 10, 11], [])])
def almanackerref14_Print.B5 : List Nat := [0, 1, 3, 7, 0, 31, 63, 0, 128, 391, 1023, 2047, 4095]
theorem almanackerref14_Print.tab5 : rtab .any (opsOf Tryz.f19 5) = almanackerref14_Print.T5 := by kernel_rfl
theorem almanackerref14_Print.bits5 : waitsOk almanackerref14_Print.T5.2 almanackerref14_Print.B5 = true := by kernel_rfl
set_option maxHeartbeats 8000000 in
set_option maxRecDepth 100000 in
theorem almanackerref14_Print.calls (k : Nat) (a0_0 : Int) (a0_1 : Int) (a0_2 : Bool) (a0_3 : Int) (r1 : ByteArray) (r2 : Int) (w : World) (h : almanackerref14_Print.f k a0_0 a0_1 a0_2 a0_3 = some (r1, r2)) :
  Calls Tryz.prog 19 #[.agg #[.int .i64 a0_0, .int .i64 a0_1, .bool a0_2, .int .i64 a0_3]] w fun e w' => e = .returned (.tuple #[.string r1, .int .i64 r2]) ∧ Below w.heap.size w w' := by
 have hu34 := Tryz.underlying34
 have hu32 := Tryz.underlying32
 have HB := zz00 (Below.refl w.heap.size w)
 have H : ((almanackerref10_Check.f k a0_0 a0_1 a0_2 a0_3).bind fun t358=>(if t358 = 0 then ((almanackerref14_Month.f k a0_0 a0_1 a0_2).bind fun bt359=>((almanackerref14_digits.f k a0_3).bind fun t361=>(if t361.size + 1 ≤ 9223372036854775807 then (if (t361 ++ (⟨#[32]⟩ : ByteArray)).size + bt359.1.size ≤ 9223372036854775807 then (if ((t361 ++ (⟨#[32]⟩ : ByteArray)) ++ bt359.1).size + 1 ≤ 9223372036854775807 then ((almanackerref14_digits.f k a0_0).bind fun t362=>(if (((t361 ++ (⟨#[32]⟩ : ByteArray)) ++ bt359.1) ++ (⟨#[32]⟩ : ByteArray)).size + t362.size ≤ 9223372036854775807 then (some ((((t361 ++ (⟨#[32]⟩ : ByteArray)) ++ bt359.1) ++ (⟨#[32]⟩ : ByteArray)) ++ t362,0)) else (none))) else (none)) else (none)) else (none)))) else (some ((⟨#[]⟩ : ByteArray),t358)))) = some (r1,r2):=h
 clear h
 replace H := zz14.mp H
 obtain ⟨t358, A20, H⟩ := H
 replace H : (if t358 = 0 then ((almanackerref14_Month.f k a0_0 a0_1 a0_2).bind fun bt359=>((almanackerref14_digits.f k a0_3).bind fun t361=>(if t361.size + 1 ≤ 9223372036854775807 then (if (t361 ++ (⟨#[32]⟩ : ByteArray)).size + bt359.1.size ≤ 9223372036854775807 then (if ((t361 ++ (⟨#[32]⟩ : ByteArray)) ++ bt359.1).size + 1 ≤ 9223372036854775807 then ((almanackerref14_digits.f k a0_0).bind fun t362=>(if (((t361 ++ (⟨#[32]⟩ : ByteArray)) ++ bt359.1) ++ (⟨#[32]⟩ : ByteArray)).size + t362.size ≤ 9223372036854775807 then (some ((((t361 ++ (⟨#[32]⟩ : ByteArray)) ++ bt359.1) ++ (⟨#[32]⟩ : ByteArray)) ++ t362,0)) else (none))) else (none)) else (none)) else (none)))) else (some ((⟨#[]⟩ : ByteArray),t358))) = some (r1,r2):=H
 have A2 := zz00 A20
 clear A20
 by_cases c3 : t358 = 0
 ·
  rw [if_pos c3] at H
  have c3b0 : (t358 == 0) = true := zz29.mpr c3
  have c3b1 : (t358 != 0) = false := zz26.mpr c3
  clear c3
  replace H := zz14.mp H
  obtain ⟨⟨t359, t360⟩, A40, H⟩ := H
  replace H : ((almanackerref14_digits.f k a0_3).bind fun t361=>(if t361.size + 1 ≤ 9223372036854775807 then (if (t361 ++ (⟨#[32]⟩ : ByteArray)).size + t359.size ≤ 9223372036854775807 then (if ((t361 ++ (⟨#[32]⟩ : ByteArray)) ++ t359).size + 1 ≤ 9223372036854775807 then ((almanackerref14_digits.f k a0_0).bind fun t362=>(if (((t361 ++ (⟨#[32]⟩ : ByteArray)) ++ t359) ++ (⟨#[32]⟩ : ByteArray)).size + t362.size ≤ 9223372036854775807 then (some ((((t361 ++ (⟨#[32]⟩ : ByteArray)) ++ t359) ++ (⟨#[32]⟩ : ByteArray)) ++ t362,0)) else (none))) else (none)) else (none)) else (none))) = some (r1,r2):=H
  have A4 := zz00 A40
  clear A40
  replace H := zz14.mp H
  obtain ⟨t361, A50, H⟩ := H
  replace H : (if t361.size + 1 ≤ 9223372036854775807 then (if (t361 ++ (⟨#[32]⟩ : ByteArray)).size + t359.size ≤ 9223372036854775807 then (if ((t361 ++ (⟨#[32]⟩ : ByteArray)) ++ t359).size + 1 ≤ 9223372036854775807 then ((almanackerref14_digits.f k a0_0).bind fun t362=>(if (((t361 ++ (⟨#[32]⟩ : ByteArray)) ++ t359) ++ (⟨#[32]⟩ : ByteArray)).size + t362.size ≤ 9223372036854775807 then (some ((((t361 ++ (⟨#[32]⟩ : ByteArray)) ++ t359) ++ (⟨#[32]⟩ : ByteArray)) ++ t362,0)) else (none))) else (none)) else (none)) else (none)) = some (r1,r2):=H
  have A5 := zz00 A50
  clear A50
  by_cases c6 : t361.size + 1 ≤ 9223372036854775807
  ·
   rw [if_pos c6] at H
   have c6b0 := eq_true c6
   have c6b1 : decide (t361.size + 1 ≤ 9223372036854775807) = true := decide_eq_true c6
   try have c6b2 : (9223372036854775807 < t361.size + 1) = False := eq_false (Nat.not_lt.2 c6)
   try (have c6b3 := c6b2; simp only [ByteArray.size_append, show (⟨#[32]⟩ : ByteArray).size = 1 from rfl] at c6b3)
   by_cases c7 : (t361 ++ (⟨#[32]⟩ : ByteArray)).size + t359.size ≤ 9223372036854775807
   ·
    rw [if_pos c7] at H
    have c7b0 := eq_true c7
    have c7b1 : decide ((t361 ++ (⟨#[32]⟩ : ByteArray)).size + t359.size ≤ 9223372036854775807) = true := decide_eq_true c7
    try have c7b2 : (9223372036854775807 < (t361 ++ (⟨#[32]⟩ : ByteArray)).size + t359.size) = False := eq_false (Nat.not_lt.2 c7)
    try (have c7b3 := c7b2; simp only [ByteArray.size_append, show (⟨#[32]⟩ : ByteArray).size = 1 from rfl] at c7b3)
    by_cases c8 : ((t361 ++ (⟨#[32]⟩ : ByteArray)) ++ t359).size + 1 ≤ 9223372036854775807
    ·
     rw [if_pos c8] at H
     have c8b0 := eq_true c8
     have c8b1 : decide (((t361 ++ (⟨#[32]⟩ : ByteArray)) ++ t359).size + 1 ≤ 9223372036854775807) = true := decide_eq_true c8
     try have c8b2 : (9223372036854775807 < ((t361 ++ (⟨#[32]⟩ : ByteArray)) ++ t359).size + 1) = False := eq_false (Nat.not_lt.2 c8)
     try (have c8b3 := c8b2; simp only [ByteArray.size_append, show (⟨#[32]⟩ : ByteArray).size = 1 from rfl] at c8b3)
     replace H := zz14.mp H
     obtain ⟨t362, A90, H⟩ := H
     replace H : (if (((t361 ++ (⟨#[32]⟩ : ByteArray)) ++ t359) ++ (⟨#[32]⟩ : ByteArray)).size + t362.size ≤ 9223372036854775807 then (some ((((t361 ++ (⟨#[32]⟩ : ByteArray)) ++ t359) ++ (⟨#[32]⟩ : ByteArray)) ++ t362,0)) else (none)) = some (r1,r2):=H
     have A9 := zz00 A90
     clear A90
     by_cases c10 : (((t361 ++ (⟨#[32]⟩ : ByteArray)) ++ t359) ++ (⟨#[32]⟩ : ByteArray)).size + t362.size ≤ 9223372036854775807
     ·
      rw [if_pos c10] at H
      have c10b0 := eq_true c10
      have c10b1 : decide ((((t361 ++ (⟨#[32]⟩ : ByteArray)) ++ t359) ++ (⟨#[32]⟩ : ByteArray)).size + t362.size ≤ 9223372036854775807) = true := decide_eq_true c10
      try have c10b2 : (9223372036854775807 < (((t361 ++ (⟨#[32]⟩ : ByteArray)) ++ t359) ++ (⟨#[32]⟩ : ByteArray)).size + t362.size) = False := eq_false (Nat.not_lt.2 c10)
      try (have c10b3 := c10b2; simp only [ByteArray.size_append, show (⟨#[32]⟩ : ByteArray).size = 1 from rfl] at c10b3)
      simp only [zz15, zz16] at H
      obtain ⟨rfl, rfl⟩ := H
      go_enter Tryz.func19, Tryz.ntmps19
      try go_wp2_with (first|((with_reducible refine zz24 (N:=1) rfl ?_);refine zz30 ?hg (N:=1) ?hd (cs:=#[.int .i64 a0_0,.int .i64 a0_1,.bool a0_2,.int .i64 a0_3]) (t:=34) ?hr ?_;(case hd=>rfl);(case hg=>rfl);(case hr=>first|(go_simp;done)|(go_simp;rfl));intro gb357 hg w11 hbox hb;have n0_:=zz00 (zz21 (by repeat (first|(with_reducible first|exact HB.out|apply zz03|apply zz01|apply zz02)|exact HB.out)) hb);have n1_:=zz00 (hbox);have n2_:=zz00 ((by rw [hg];exact (zz22 (by repeat (first|(with_reducible first|exact HB.out|apply zz03|apply zz01|apply zz02)|exact HB.out))) : w.heap.size ≤ gb357));have n3_:=zz00 ((by rw [hg];exact (zz22 (by repeat (first|(with_reducible first|exact HB.out|apply zz03|apply zz01|apply zz02)|exact HB.out))) : w.heap.size ≤ gb357));clear HB;have HB:=n0_;have BK357:=n1_;have GW357:=n2_;have GE357:=n3_;clear n0_ n1_ n2_ n3_;clear hb hbox hg;have hcz12_0 : w11.cell? ⟨gb357,0,none⟩ = some (.int .i64 a0_0):=(zz18 BK357.out 0).trans rfl;have hcz12_1 : w11.cell? ⟨gb357,1,none⟩ = some (.int .i64 a0_1):=(zz18 BK357.out 1).trans rfl;have hcz12_2 : w11.cell? ⟨gb357,2,none⟩ = some (.bool a0_2):=(zz18 BK357.out 2).trans rfl;have hcz12_3 : w11.cell? ⟨gb357,3,none⟩ = some (.int .i64 a0_3):=(zz18 BK357.out 3).trans rfl;have hfz12_0:=zz17 BK357.out 0;have hfz12_1:=zz17 BK357.out 1;have hfz12_2:=zz17 BK357.out 2;have hfz12_3:=zz17 BK357.out 3)|((with_reducible refine zz23 (f:=22) rfl ?_);refine zz25 (some 8) rfl rfl Tryz.func22 (by kernel_rfl) rfl #[.agg #[.int .i64 a0_0,.int .i64 a0_1,.bool a0_2,.int .i64 a0_3]] rfl (by (try simp only [List.map_toArray,List.map_cons,List.map_nil]);first|done|rfl|(simp only [List.length_drop,List.length_take];rfl)) ?_;(with_reducible refine (almanackerref10_Check.calls k a0_0 a0_1 a0_2 a0_3 t358 _ A2.out).mono ?_);rintro e w13 ⟨rfl,hb⟩;refine ⟨_,rfl,?_⟩;have n0_:=zz00 (zz34 (g:=gb357) (o:=.cells #[.int .i64 a0_0,.int .i64 a0_1,.bool a0_2,.int .i64 a0_3] 34 (0,0)) (by (with_reducible repeat (first|refine zz07 ?_ _|refine zz09 ?_|refine zz08 ?_ _));exact BK357.out) hb);have n1_:=zz00 (zz21 (by repeat (first|(with_reducible first|exact HB.out|apply zz03|apply zz01|apply zz02|refine zz10 ?_ GE357.out)|exact HB.out)) hb);clear BK357;clear HB;have BK357:=n0_;have HB:=n1_;clear n0_ n1_;(try clear hb);(try clear hb2);(try clear hk);(try clear hi);have hcz14_0 : w13.cell? ⟨gb357,0,none⟩ = some (.int .i64 a0_0):=(zz18 BK357.out 0).trans rfl;have hcz14_1 : w13.cell? ⟨gb357,1,none⟩ = some (.int .i64 a0_1):=(zz18 BK357.out 1).trans rfl;have hcz14_2 : w13.cell? ⟨gb357,2,none⟩ = some (.bool a0_2):=(zz18 BK357.out 2).trans rfl;have hcz14_3 : w13.cell? ⟨gb357,3,none⟩ = some (.int .i64 a0_3):=(zz18 BK357.out 3).trans rfl;have hfz14_0:=zz17 BK357.out 0;have hfz14_1:=zz17 BK357.out 1;have hfz14_2:=zz17 BK357.out 2;have hfz14_3:=zz17 BK357.out 3)|((with_reducible refine zz23 (f:=17) rfl ?_);refine zz25 (some 17) rfl rfl Tryz.func17 (by kernel_rfl) rfl #[.int .i64 a0_0,.agg #[.int .i64 a0_1,.bool a0_2]] rfl (by (try simp only [List.map_toArray,List.map_cons,List.map_nil]);first|done|rfl|(simp only [List.length_drop,List.length_take];rfl)) ?_;(with_reducible refine (almanackerref14_Month.calls k a0_0 a0_1 a0_2 t359 t360 _ A4.out).mono ?_);rintro e w15 ⟨rfl,hb⟩;refine ⟨_,rfl,?_⟩;have n0_:=zz00 (zz34 (g:=gb357) (o:=.cells #[.int .i64 a0_0,.int .i64 a0_1,.bool a0_2,.int .i64 a0_3] 34 (0,0)) (by (with_reducible repeat (first|refine zz07 ?_ _|refine zz09 ?_|refine zz08 ?_ _));exact BK357.out) hb);have n1_:=zz00 (zz21 (by repeat (first|(with_reducible first|exact HB.out|apply zz03|apply zz01|apply zz02|refine zz10 ?_ GE357.out)|exact HB.out)) hb);clear BK357;clear HB;have BK357:=n0_;have HB:=n1_;clear n0_ n1_;(try clear hb);(try clear hb2);(try clear hk);(try clear hi)))
      have n0_ := zz00 (zz09 BK357.out)
      have n1_ := zz00 (zz02 HB.out)
      clear BK357
      clear HB
      have BK357 := n0_
      have HB := n1_
      clear n0_ n1_
      refine start_ (n:=13) (S:=fun w'=>w'.cell? ⟨gb357,0,none⟩ = some (.int .i64 a0_0) ∧ w'.cell? ⟨gb357,1,none⟩ = some (.int .i64 a0_1) ∧ w'.cell? ⟨gb357,2,none⟩ = some (.bool a0_2) ∧ w'.cell? ⟨gb357,3,none⟩ = some (.int .i64 a0_3)) (ds:=[]) #[false,false,false,false,false,false,false,false,false,false,false,false,false] (by kernel_rfl) rfl rfl ⟨(zz18 BK357.out 0).trans rfl,(zz18 BK357.out 1).trans rfl,(zz18 BK357.out 2).trans rfl,(zz18 BK357.out 3).trans rfl⟩ (fun hHeld=>?_);refine with_tabW almanackerref14_Print.tab5 almanackerref14_Print.bits5 (fun HT_ HW_=>?_)
      generalize w15.drew = w16 at BK357 HB hHeld ⊢
      refine pure_ (i:=0) (N:=some 20) (v:=?_) (a':=?_) #[true,false,false,false,false,false,false,false,false,false,false,false,false] rfl rfl (any_of HT_.out (by kernel_rfl)) (fun _ _ _ h=>h) (Or.inl ⟨by rfl,?_⟩) ?_ ?_
      rotate_left
      ·
       intro w'
       go_simp
       with_reducible rfl
      rotate_left
      ·
       simp only [Act.put, zz11, zz12, zz13, i64_w, i32_w]
       rfl
      refine pure_ (i:=4) (N:=some 24) (v:=?_) (a':=?_) #[true,false,false,false,true,false,false,false,false,false,false,false,false] rfl rfl (any_of HT_.out (by kernel_rfl)) (fun _ _ _ h=>h) (Or.inl ⟨by rfl,?_⟩) ?_ ?_
      rotate_left
      ·
       intro w'
       go_simp
       with_reducible rfl
      rotate_left
      ·
       simp only [Act.put, zz11, zz12, zz13, i64_w, i32_w]
       rfl
      refine pure_ (i:=7) (N:=some 27) (v:=?_) (a':=?_) #[true,false,false,false,true,false,false,true,false,false,false,false,false] rfl rfl (any_of HT_.out (by kernel_rfl)) (fun _ _ _ h=>h) (Or.inl ⟨by rfl,?_⟩) ?_ ?_
      rotate_left
      ·
       intro w'
       go_simp
       with_reducible rfl
      rotate_left
      ·
       simp only [Act.put, zz11, zz12, zz13, i64_w, i32_w]
       rfl
      refine take_ (i:=1) (N:=some 21) (v:=?_) (a':=?_) #[true,true,false,false,true,false,false,true,false,false,false,false,false] rfl rfl (take_ofW HT_.out HW_.out (by kernel_rfl)) (fun _ _ _ h=>h) (Or.inl ⟨by rfl,?_⟩) hHeld ?_ ?_
      rotate_left
      ·
       rintro w' ⟨s0, s1, s2, s3⟩
       go_simp
       with_reducible rfl
      rotate_left
      ·
       simp only [Act.put, zz11, zz12, zz13, i64_w, i32_w]
       rfl
      refine take_ (i:=8) (N:=some 28) (v:=?_) (a':=?_) #[true,true,false,false,true,false,false,true,true,false,false,false,false] rfl rfl (take_ofW HT_.out HW_.out (by kernel_rfl)) (fun _ _ _ h=>h) (Or.inl ⟨by rfl,?_⟩) hHeld ?_ ?_
      rotate_left
      ·
       rintro w' ⟨s0, s1, s2, s3⟩
       go_simp
       with_reducible rfl
      rotate_left
      ·
       simp only [Act.put, zz11, zz12, zz13, i64_w, i32_w]
       rfl
      refine one_ (i := 2) (N := some 22) #[true, true, true, false, true, false, false, true, true, false, false, false, false] rfl rfl (one_of HT_.out (by kernel_rfl)) (by decide) (fun K hK => ?_)
      refine goes_ Tryz.func53 (by kernel_rfl) rfl #[.int .i64 a0_3] (by rfl) rfl rfl (by (try simp only [List.map_toArray,List.map_cons,List.map_nil]);first|done|rfl|(simp only [List.length_drop,List.length_take];rfl)) ?_
      with_reducible refine (almanackerref14_digits.calls k a0_3 t361 _ A5.out).mono ?_
      rintro e w17 ⟨rfl, hb⟩
      refine ⟨_, rfl, ?_⟩
      have n0_:=zz00 (zz34 (g:=gb357) (o:=.cells #[.int .i64 a0_0,.int .i64 a0_1,.bool a0_2,.int .i64 a0_3] 34 (0,0)) (by (with_reducible repeat (first|refine zz07 ?_ _|refine zz09 ?_|refine zz08 ?_ _));exact BK357.out) hb)
      have n1_:=zz00 (zz21 (by repeat (first|(with_reducible first|exact HB.out|apply zz03|apply zz01|apply zz02|refine zz10 ?_ GE357.out)|exact HB.out)) hb)
      clear BK357
      clear HB
      have BK357 := n0_
      have HB := n1_
      clear n0_ n1_
      (try clear hb)
      (try clear hb2)
      (try clear hk)
      (try clear hi)
      refine hK.out _ _ ⟨(zz18 BK357.out 0).trans rfl, (zz18 BK357.out 1).trans rfl, (zz18 BK357.out 2).trans rfl, (zz18 BK357.out 3).trans rfl⟩ (fun hHeld => ?_)
      clear hK K
      refine norm_ (a' := ?_) ?_ ?_
      rotate_left
      ·
       show Act.put _ (some 22) _ = _
       simp only [Act.put, zz11, zz12, zz13, i64_w, i32_w]
       rfl
      refine pure_ (i:=3) (N:=some 23) (v:=?_) (a':=?_) #[true,true,true,true,true,false,false,true,true,false,false,false,false] rfl rfl (any_of HT_.out (by kernel_rfl)) (fun _ _ _ h=>h) (Or.inl ⟨by rfl,?_⟩) ?_ ?_
      rotate_left
      ·
       intro w'
       go_simp
       with_reducible rfl
      rotate_left
      ·
       simp only [Act.put, zz11, zz12, zz13, i64_w, i32_w]
       rfl
      refine pure_ (i:=5) (N:=some 25) (v:=?_) (a':=?_) #[true,true,true,true,true,true,false,true,true,false,false,false,false] rfl rfl (any_of HT_.out (by kernel_rfl)) (fun _ _ _ h=>h) (Or.inl ⟨by rfl,?_⟩) ?_ ?_
      rotate_left
      ·
       intro w'
       go_simp
       with_reducible rfl
      rotate_left
      ·
       simp only [Act.put, zz11, zz12, zz13, i64_w, i32_w]
       rfl
      refine pure_ (i:=6) (N:=some 26) (v:=?_) (a':=?_) #[true,true,true,true,true,true,true,true,true,false,false,false,false] rfl rfl (any_of HT_.out (by kernel_rfl)) (fun _ _ _ h=>h) (Or.inl ⟨by rfl,?_⟩) ?_ ?_
      rotate_left
      ·
       intro w'
       go_simp
       with_reducible rfl
      rotate_left
      ·
       simp only [Act.put, zz11, zz12, zz13, i64_w, i32_w]
       rfl
      refine one_ (i := 9) (N := some 29) #[true, true, true, true, true, true, true, true, true, true, false, false, false] rfl rfl (one_of HT_.out (by kernel_rfl)) (by decide) (fun K hK => ?_)
      refine goes_ Tryz.func53 (by kernel_rfl) rfl #[.int .i64 a0_0] (by rfl) rfl rfl (by (try simp only [List.map_toArray,List.map_cons,List.map_nil]);first|done|rfl|(simp only [List.length_drop,List.length_take];rfl)) ?_
      with_reducible refine (almanackerref14_digits.calls k a0_0 t362 _ A9.out).mono ?_
      rintro e w18 ⟨rfl, hb⟩
      refine ⟨_, rfl, ?_⟩
      have n0_:=zz00 (zz34 (g:=gb357) (o:=.cells #[.int .i64 a0_0,.int .i64 a0_1,.bool a0_2,.int .i64 a0_3] 34 (0,0)) (by (with_reducible repeat (first|refine zz07 ?_ _|refine zz09 ?_|refine zz08 ?_ _));exact BK357.out) hb)
      have n1_:=zz00 (zz21 (by repeat (first|(with_reducible first|exact HB.out|apply zz03|apply zz01|apply zz02|refine zz10 ?_ GE357.out)|exact HB.out)) hb)
      clear BK357
      clear HB
      have BK357 := n0_
      have HB := n1_
      clear n0_ n1_
      (try clear hb)
      (try clear hb2)
      (try clear hk)
      (try clear hi)
      refine hK.out _ _ ⟨(zz18 BK357.out 0).trans rfl, (zz18 BK357.out 1).trans rfl, (zz18 BK357.out 2).trans rfl, (zz18 BK357.out 3).trans rfl⟩ (fun hHeld => ?_)
      clear hK K
      refine norm_ (a' := ?_) ?_ ?_
      rotate_left
      ·
       show Act.put _ (some 29) _ = _
       simp only [Act.put, zz11, zz12, zz13, i64_w, i32_w]
       rfl
      refine pure_ (i:=10) (N:=some 30) (v:=?_) (a':=?_) #[true,true,true,true,true,true,true,true,true,true,true,false,false] rfl rfl (any_of HT_.out (by kernel_rfl)) (fun _ _ _ h=>h) (Or.inl ⟨by rfl,?_⟩) ?_ ?_
      rotate_left
      ·
       intro w'
       go_simp
       with_reducible rfl
      rotate_left
      ·
       simp only [Act.put, zz11, zz12, zz13, i64_w, i32_w]
       rfl
      refine pure_ (i:=11) (N:=some 2) (v:=?_) (a':=?_) #[true,true,true,true,true,true,true,true,true,true,true,true,false] rfl rfl (any_of HT_.out (by kernel_rfl)) (fun _ _ _ h=>h) (Or.inl ⟨by rfl,?_⟩) ?_ ?_
      rotate_left
      ·
       intro w'
       go_simp
       with_reducible rfl
      rotate_left
      ·
       simp only [Act.put, zz11, zz12, zz13, i64_w, i32_w]
       rfl
      refine pure_ (i:=12) (N:=some 3) (v:=?_) (a':=?_) #[true,true,true,true,true,true,true,true,true,true,true,true,true] rfl rfl (any_of HT_.out (by kernel_rfl)) (fun _ _ _ h=>h) (Or.inl ⟨by rfl,?_⟩) ?_ ?_
      rotate_left
      ·
       intro w'
       go_simp
       with_reducible rfl
      rotate_left
      ·
       simp only [Act.put, zz11, zz12, zz13, i64_w, i32_w]
       rfl
      refine done_ (done_of HT_.out (by kernel_rfl)) ?_
      try go_wp2
      go_ret2
      exact ⟨by first|rfl|(simp [errW_none,errW_some] <;> rfl)|(simp [*,errW_none,errW_some] <;> rfl),by repeat (first|(with_reducible first|exact HB.out|apply zz03|apply zz01|apply zz02|refine zz10 ?_ GE357.out)|exact HB.out)⟩
     ·
      rw [if_neg c10] at H
      exact absurd H (by simp)
    ·
     rw [if_neg c8] at H
     exact absurd H (by simp)
   ·
    rw [if_neg c7] at H
    exact absurd H (by simp)
  ·
   rw [if_neg c6] at H
   exact absurd H (by simp)
 ·
  rw [if_neg c3] at H
  have c3b0 : (t358 == 0) = false := zz27.mpr c3
  have c3b1 : (t358 != 0) = true := zz28.mpr c3
  simp only [zz15, zz16] at H
  obtain ⟨rfl, rfl⟩ := H
  go_enter Tryz.func19, Tryz.ntmps19
  go_wp2_with (first|((with_reducible refine zz24 (N:=1) rfl ?_);refine zz30 ?hg (N:=1) ?hd (cs:=#[.int .i64 a0_0,.int .i64 a0_1,.bool a0_2,.int .i64 a0_3]) (t:=34) ?hr ?_;(case hd=>rfl);(case hg=>rfl);(case hr=>first|(go_simp;done)|(go_simp;rfl));intro gb357 hg w19 hbox hb;have n0_:=zz00 (zz21 (by repeat (first|(with_reducible first|exact HB.out|apply zz03|apply zz01|apply zz02)|exact HB.out)) hb);have n1_:=zz00 (hbox);have n2_:=zz00 ((by rw [hg];exact (zz22 (by repeat (first|(with_reducible first|exact HB.out|apply zz03|apply zz01|apply zz02)|exact HB.out))) : w.heap.size ≤ gb357));have n3_:=zz00 ((by rw [hg];exact (zz22 (by repeat (first|(with_reducible first|exact HB.out|apply zz03|apply zz01|apply zz02)|exact HB.out))) : w.heap.size ≤ gb357));clear HB;have HB:=n0_;have BK357:=n1_;have GW357:=n2_;have GE357:=n3_;clear n0_ n1_ n2_ n3_;clear hb hbox hg;have hcz20_0 : w19.cell? ⟨gb357,0,none⟩ = some (.int .i64 a0_0):=(zz18 BK357.out 0).trans rfl;have hcz20_1 : w19.cell? ⟨gb357,1,none⟩ = some (.int .i64 a0_1):=(zz18 BK357.out 1).trans rfl;have hcz20_2 : w19.cell? ⟨gb357,2,none⟩ = some (.bool a0_2):=(zz18 BK357.out 2).trans rfl;have hcz20_3 : w19.cell? ⟨gb357,3,none⟩ = some (.int .i64 a0_3):=(zz18 BK357.out 3).trans rfl;have hfz20_0:=zz17 BK357.out 0;have hfz20_1:=zz17 BK357.out 1;have hfz20_2:=zz17 BK357.out 2;have hfz20_3:=zz17 BK357.out 3)|((with_reducible refine zz23 (f:=22) rfl ?_);refine zz25 (some 8) rfl rfl Tryz.func22 (by kernel_rfl) rfl #[.agg #[.int .i64 a0_0,.int .i64 a0_1,.bool a0_2,.int .i64 a0_3]] rfl (by (try simp only [List.map_toArray,List.map_cons,List.map_nil]);first|done|rfl|(simp only [List.length_drop,List.length_take];rfl)) ?_;(with_reducible refine (almanackerref10_Check.calls k a0_0 a0_1 a0_2 a0_3 t358 _ A2.out).mono ?_);rintro e w21 ⟨rfl,hb⟩;refine ⟨_,rfl,?_⟩;have n0_:=zz00 (zz34 (g:=gb357) (o:=.cells #[.int .i64 a0_0,.int .i64 a0_1,.bool a0_2,.int .i64 a0_3] 34 (0,0)) (by (with_reducible repeat (first|refine zz07 ?_ _|refine zz09 ?_|refine zz08 ?_ _));exact BK357.out) hb);have n1_:=zz00 (zz21 (by repeat (first|(with_reducible first|exact HB.out|apply zz03|apply zz01|apply zz02|refine zz10 ?_ GE357.out)|exact HB.out)) hb);clear BK357;clear HB;have BK357:=n0_;have HB:=n1_;clear n0_ n1_;(try clear hb);(try clear hb2);(try clear hk);(try clear hi)))
  go_ret2
  exact ⟨by first|rfl|(simp [errW_none,errW_some] <;> rfl)|(simp [*,errW_none,errW_some] <;> rfl),by repeat (first|(with_reducible first|exact HB.out|apply zz03|apply zz01|apply zz02|refine zz10 ?_ GE357.out)|exact HB.out)⟩

mutual
def almanackerref14_number.j0 : Nat → ByteArray → Int → Bool → Option (Int × Bool)
  | 0, _, _, _ => none
  | k + 1, x0, x6, x21 => if x21 = true then (some (0, false)) else (almanackerref14_number.l0 k x0 x6 0)
def almanackerref14_number.l0 : Nat → ByteArray → Int → Int → Option (Int × Bool)
  | 0, _, _, _ => none
  | k + 1, x0, x6, x7 => if x7 < (x0.size : Int) then (if 0 ≤ x7 then (if (bt x0 x7) < 48 then (some (0, false)) else (if (bt x0 x7) > 57 then (some (0, false)) else (almanackerref14_number.l0 k x0 (wrap64 ((wrap64 ((wrap64 (10 * x6)) + (wrap64 (bt x0 x7)))) - 48)) (wrap64 (x7 + 1))))) else (none)) else (some (x6, true))
end
def almanackerref14_number.f (k : Nat) (a0 : ByteArray) (a1 : Int) : Option (Int × Bool) := if (a0.size : Int) = 0 then (almanackerref14_number.j0 k a0 0 true) else (if (a0.size : Int) > a1 then (almanackerref14_number.j0 k a0 0 true) else (if 0 < (a0.size : Int) then (almanackerref14_number.j0 k a0 0 ((bt a0 0) == 48)) else (none)))
set_option maxHeartbeats 8000000 in
set_option maxRecDepth 100000 in
theorem almanackerref14_number.calls (k : Nat) (a0 : ByteArray) (a1 : Int) (r1 : Int) (r2 : Bool) (w : World) (h : almanackerref14_number.f k a0 a1 = some (r1, r2)) :
    Calls Tryz.prog 58 #[.string a0, .int .i64 a1] w fun e w' => e = .returned (.tuple #[.int .i64 r1, .bool r2]) ∧ Drawn0 w w' := by
  have H : (if (a0.size : Int) = 0 then (almanackerref14_number.j0 k a0 0 true) else (if (a0.size : Int) > a1 then (almanackerref14_number.j0 k a0 0 true) else (if 0 < (a0.size : Int) then (almanackerref14_number.j0 k a0 0 ((bt a0 0) == 48)) else (none)))) = some (r1,r2):=h
  clear h
  have HC3 := zz00 H
  clear H
  go_enter Tryz.func58, Tryz.ntmps58
  go_upto_region 2 with (fail)
  go_cut [21] (fun v21 wc => ∃ (kq : Nat) (x21_2 : Bool), v21 = .bool x21_2 ∧ Aside0 (almanackerref14_number.j0 kq a0 0 x21_2 = some (r1, r2)) ∧ Aside0 (kq ≤ k) ∧ Drawn0 w wc)
  case first =>
    have H := HC3.out
    clear HC3
    by_cases c4 : (a0.size : Int) = 0
    · rw [if_pos c4] at H
      have c4b0 : ((a0.size : Int) == 0) = true := zz29.mpr c4
      have c4b1 : ((a0.size : Int) != 0) = false := zz26.mpr c4
      clear c4
      (first | rw [c4b0] | (simp only [i64_w, i32_w]; rw [c4b0]) | skip)
      have H' := zz00 H
      clear H
      go_wp2
      go_meet
      case rel => exact ⟨_, (true), (by first | rfl | (simp; done) | (simp [*]; done)), H', ⟨by first | omega | exact Nat.le_refl _⟩, by repeat (first | exact Drawn0.refl _ | apply Drawn0.step)⟩
    · rw [if_neg c4] at H
      have c4b0 : ((a0.size : Int) == 0) = false := zz27.mpr c4
      have c4b1 : ((a0.size : Int) != 0) = true := zz28.mpr c4
      (first | rw [c4b0] | (simp only [i64_w, i32_w]; rw [c4b0]) | skip)
      by_cases c5 : (a0.size : Int) > a1
      · rw [if_pos c5] at H
        have c5b0 : decide (a1 < (a0.size : Int)) = true := decide_eq_true c5
        clear c5
        have H' := zz00 H
        clear H
        go_wp2
        go_meet
        case rel => exact ⟨_, (true), (by first | rfl | (simp; done) | (simp [*]; done)), H', ⟨by first | omega | exact Nat.le_refl _⟩, by repeat (first | exact Drawn0.refl _ | apply Drawn0.step)⟩
      · rw [if_neg c5] at H
        have c5b0 : decide (a1 < (a0.size : Int)) = false := decide_eq_false c5
        clear c5
        by_cases c6 : 0 < (a0.size : Int)
        · rw [if_pos c6] at H
          have c6b0 : decide (0 < (a0.size : Int)) = true := decide_eq_true c6
          have c6b1 : decide (0 < a0.size) = true := decide_eq_true (by omega)
          clear c6
          have H' := zz00 H
          clear H
          have p7 : 0 ≤ (0 : Int) := (by omega)
          have q7 : 0 < a0.size := (by have : (0 : Int) < (a0.size : Int) := zz31 (by first | (with_reducible assumption) | assumption); omega)
          have hx7 : ∀ h : 0 < a0.size, ((a0[0]'h).toNat : Int) = bt a0 0 := bt_at a0 0
          clear p7
          have qi7 : (0 < (a0.size : Int)) = True := eq_true (zz31 (by first | (with_reducible assumption) | assumption))
          replace q7 := eq_true q7
          go_wp2
          go_meet
          case rel=>exact ⟨_,(((bt a0 0) == 48)),(by first|rfl|(simp;done)|(simp [*];done)),H',⟨by first|omega|exact Nat.le_refl _⟩,by repeat (first|exact Drawn0.refl _|apply Drawn0.step)⟩
        · rw [if_neg c6] at H
          exact absurd H (by simp)
  case rest =>
    clear HC3
    try clear p2
    try clear c4
    try clear c4b0
    try clear c4b1
    try clear c5
    try clear c5b0
    try clear c6
    try clear c6b0
    try clear c6b1
    try clear p7
    try clear q7
    try clear hx7
    try clear qi7
    try clear p7
    try clear q7
    obtain ⟨kq, x21_2, rfl, HA, HJ2, ⟨mc2, rfl⟩⟩ := hcut
    cases kq with
    | zero => exact absurd HA.out (by simp [almanackerref14_number.j0])
    | succ kj2 =>
      have H := HA.out
      clear HA
      simp only [almanackerref14_number.j0] at H
      by_cases c8 : x21_2 = true
      · subst c8
        have H1 : (some (0, false)) = some (r1, r2) := by rw [if_pos rfl] at H; exact H
        clear H
        have H := H1
        clear H1
        simp only [zz15, zz16] at H
        obtain ⟨rfl, rfl⟩ := H
        go_wp2
        go_ret2
        exact ⟨by first | rfl | (simp; done) | (simp [*]; done), by repeat (first | exact Drawn0.refl _ | apply Drawn0.step)⟩
      · replace c8 := zz32.mpr c8
        subst c8
        have H1 : (almanackerref14_number.l0 kj2 a0 0 0) = some (r1, r2) := by rw [if_neg (show ¬ (false = true) by decide)] at H; exact H
        clear H
        have H := H1
        clear H1
        have H' := zz00 H
        clear H
        go_wp2
        go_loopg [6,7] kj2 (fun kq v6 v7 w'=>∃ (x6_2 : Int) (x7_2 : Int),v6 = .int .i64 x6_2 ∧ v7 = .int .i64 x7_2 ∧ Aside0 (almanackerref14_number.l0 kq a0 x6_2 x7_2 = some (r1,r2)) ∧ Aside0 (kq ≤ kj2) ∧ Drawn0 w w')
        case atStart=>exact ⟨(0),(0),(by first|rfl|(simp;done)|(simp [*];done)),(by first|rfl|(simp;done)|(simp [*];done)),H',⟨Nat.le_refl _⟩,by repeat (first|exact Drawn0.refl _|apply Drawn0.step)⟩
        case round =>
          clear H'
          try clear c2
          try clear p2
          try clear c4
          try clear c4b0
          try clear c4b1
          try clear c5
          try clear c5b0
          try clear c6
          try clear c6b0
          try clear c6b1
          try clear p7
          try clear q7
          try clear hx7
          try clear qi7
          try clear c8
          try clear p2
          try clear p7
          try clear q7
          obtain ⟨x6_2, x7_2, rfl, rfl, HA, HK2, ⟨m2, rfl⟩⟩ := hrel
          cases gk with
          | zero => exact absurd HA.out (by simp [almanackerref14_number.l0])
          | succ k2 =>
            have H := HA.out
            clear HA
            simp only [almanackerref14_number.l0] at H
            by_cases c9 : x7_2 < (a0.size : Int)
            · rw [if_pos c9] at H
              have c9b0 : decide (x7_2 < (a0.size : Int)) = true := decide_eq_true c9
              clear c9
              by_cases c10 : 0 ≤ x7_2
              · rw [if_pos c10] at H
                have c10b0 : decide (0 ≤ x7_2) = true := decide_eq_true c10
                clear c10
                by_cases c12 : (bt a0 x7_2) < 48
                · rw [if_pos c12] at H
                  have c12b0 : decide ((bt a0 x7_2) < 48) = true := decide_eq_true c12
                  clear c12
                  simp only [zz15, zz16] at H
                  obtain ⟨rfl, rfl⟩ := H
                  have p11 : 0 ≤ (x7_2 : Int) := zz31 (by first | (with_reducible assumption) | assumption)
                  have q11 : x7_2 < (a0.size : Int) := zz31 (by first | (with_reducible assumption) | assumption)
                  have hx11 := bt_at a0 x7_2
                  replace p11 := eq_true p11
                  replace q11 := eq_true q11
                  go_wp2
                  go_ret2
                  exact ⟨by first | rfl | (simp; done) | (simp [*]; done), by repeat (first | exact Drawn0.refl _ | apply Drawn0.step)⟩
                · rw [if_neg c12] at H
                  have c12b0 : decide ((bt a0 x7_2) < 48) = false := decide_eq_false c12
                  clear c12
                  by_cases c14 : (bt a0 x7_2) > 57
                  · rw [if_pos c14] at H
                    have c14b0 : decide (57 < (bt a0 x7_2)) = true := decide_eq_true c14
                    clear c14
                    simp only [zz15, zz16] at H
                    obtain ⟨rfl, rfl⟩ := H
                    have p11 : 0 ≤ (x7_2 : Int) := zz31 (by first | (with_reducible assumption) | assumption)
                    have q11 : x7_2 < (a0.size : Int) := zz31 (by first | (with_reducible assumption) | assumption)
                    have hx11 := bt_at a0 x7_2
                    replace p11 := eq_true p11
                    replace q11 := eq_true q11
                    have p13 : 0 ≤ (x7_2 : Int) := zz31 (by first | (with_reducible assumption) | assumption)
                    have q13 : x7_2 < (a0.size : Int) := zz31 (by first | (with_reducible assumption) | assumption)
                    have hx13 := bt_at a0 x7_2
                    replace p13 := eq_true p13
                    replace q13 := eq_true q13
                    go_wp2
                    go_ret2
                    exact ⟨by first | rfl | (simp; done) | (simp [*]; done), by repeat (first | exact Drawn0.refl _ | apply Drawn0.step)⟩
                  · rw [if_neg c14] at H
                    have c14b0 : decide (57 < (bt a0 x7_2)) = false := decide_eq_false c14
                    clear c14
                    have H' := zz00 H
                    clear H
                    have p11 : 0 ≤ (x7_2 : Int) := zz31 (by first | (with_reducible assumption) | assumption)
                    have q11 : x7_2 < (a0.size : Int) := zz31 (by first | (with_reducible assumption) | assumption)
                    have hx11 := bt_at a0 x7_2
                    replace p11 := eq_true p11
                    replace q11 := eq_true q11
                    have p13 : 0 ≤ (x7_2 : Int) := zz31 (by first | (with_reducible assumption) | assumption)
                    have q13 : x7_2 < (a0.size : Int) := zz31 (by first | (with_reducible assumption) | assumption)
                    have hx13 := bt_at a0 x7_2
                    replace p13 := eq_true p13
                    replace q13 := eq_true q13
                    have p15 : 0 ≤ (x7_2 : Int) := zz31 (by first | (with_reducible assumption) | assumption)
                    have q15 : x7_2 < (a0.size : Int) := zz31 (by first | (with_reducible assumption) | assumption)
                    have hx15 := bt_at a0 x7_2
                    replace p15 := eq_true p15
                    replace q15 := eq_true q15
                    go_wp2
                    go_roundg k2
                    case measure => have := HJ2.out; have := HK2.out; omega
                    case rel=>exact ⟨(wrap64 ((wrap64 ((wrap64 (10 * x6_2)) + (wrap64 (bt a0 x7_2)))) - 48)),(wrap64 (x7_2 + 1)),(by first|rfl|(simp;done)|(simp [*];done)),(by first|rfl|(simp;done)|(simp [*];done)),H',⟨by have:=HJ2.out;have:=HK2.out;omega⟩,by repeat (first|exact Drawn0.refl _|apply Drawn0.step)⟩
              · rw [if_neg c10] at H
                exact absurd H (by simp)
            · rw [if_neg c9] at H
              have c9b0 : decide (x7_2 < (a0.size : Int)) = false := decide_eq_false c9
              clear c9
              simp only [zz15, zz16] at H
              obtain ⟨rfl, rfl⟩ := H
              go_wp2
              go_ret2
              exact ⟨by first | rfl | (simp; done) | (simp [*]; done), by repeat (first | exact Drawn0.refl _ | apply Drawn0.step)⟩

end Go.Proofs.YtflpddhoiafhcaaGreatDoor.R
end

section
-- Written by wip/hprint.py of this repo (holes typed by hand, all else by a program) over the seat YtflpddhoiafhcaaGreatDoor.
namespace Go.Proofs.YtflpddhoiafhcaaGreatDoor.R
open Go.Proofs.YtflpddhoiafhcaaGreatDoor.H
open Go.RowKit Go.Proofs.YtflpddhoiafhcaaGreatDoorW.PrintWords Go.Proofs.YtflpddhoiafhcaaGreatDoorW.PrintLast Go.Proofs.YtflpddhoiafhcaaGreatDoorW.PrintMore
attribute [local go_sem] max2_int min2_int max_two min_two max_three min_three max_four min_four   -- for this text's walks alone
set_option linter.unusedVariables false
set_option linter.unusedSimpArgs false

def almanackerref14_code.l0 : Nat → ByteArray → Int → Option (Int × Bool × Int)
  | 0, _, _ => none
  | k + 1, x0, x6 => if x6 < 12 then ((almanackerref14_names.f).bind fun t365 => (if 0 ≤ x6 then (if x6 < (t365.length : Int) then (if (rdOf ByteArray.empty t365 x6).toList = x0.toList then (some (wrap64 (x6 + 1), false, 0)) else (almanackerref14_code.l0 k x0 (wrap64 (x6 + 1)))) else (none)) else (none))) else (some (0, false, 5))
def almanackerref14_code.f (k : Nat) (a0 : ByteArray) (a1 : Int) : Option (Int × Bool × Int) := if a0.toList = ([65, 100, 97, 114, 32, 73] : List UInt8) then (some (5, true, 0)) else (if a0.toList = ([65, 100, 97, 114, 32, 73, 73] : List UInt8) then ((almanackerref03_Is.f a1).bind fun t364 => (if t364 = true then (some (6, false, 0)) else (some (0, false, 2)))) else (almanackerref14_code.l0 k a0 0))
set_option maxHeartbeats 8000000 in
set_option maxRecDepth 100000 in
theorem almanackerref14_code.calls (k : Nat) (a0 : ByteArray) (a1 : Int) (r1 : Int) (r2 : Bool) (r3 : Int) (w : World) (h : almanackerref14_code.f k a0 a1 = some (r1, r2, r3)) :
  Calls Tryz.prog 59 #[.string a0, .int .i64 a1] w fun e w' => e = .returned (.tuple #[.agg #[.int .i64 r1, .bool r2], .int .i64 r3]) ∧ Below w.heap.size w w' := by
 have hu32 := Tryz.underlying32
 have HB := zz00 (Below.refl w.heap.size w)
 have H : (if a0.toList = ([65,100,97,114,32,73] : List UInt8) then (some (5,true,0)) else (if a0.toList = ([65,100,97,114,32,73,73] : List UInt8) then ((almanackerref03_Is.f a1).bind fun t364=>(if t364 = true then (some (6,false,0)) else (some (0,false,2)))) else (almanackerref14_code.l0 k a0 0))) = some (r1,r2,r3):=h
 clear h
 by_cases c3 : a0.toList = ([65, 100, 97, 114, 32, 73] : List UInt8)
 ·
  rw [if_pos c3] at H
  have c3b0 : (a0.toList == ([65, 100, 97, 114, 32, 73] : List UInt8)) = true := zz29.mpr c3
  have c3b1 : (a0.toList != ([65, 100, 97, 114, 32, 73] : List UInt8)) = false := zz26.mpr c3
  clear c3
  simp only [zz15, zz16] at H
  obtain ⟨rfl, rfl, rfl⟩ := H
  go_enter Tryz.func59, Tryz.ntmps59
  go_wp2_with (first|((with_reducible refine zz24 (N:=4) rfl ?_);refine zz30 ?hg (N:=4) ?hd (cs:=#[.int .i64 0,.bool false]) (t:=32) ?hr ?_;(case hd=>rfl);(case hg=>rfl);(case hr=>first|(go_simp;done)|(go_simp;rfl));intro gb363 hg w4 hbox hb;have n0_:=zz00 (zz21 (by repeat (first|(with_reducible first|exact HB.out|apply zz03|apply zz01|apply zz02)|exact HB.out)) hb);have n1_:=zz00 (hbox);have n2_:=zz00 ((by rw [hg];exact (zz22 (by repeat (first|(with_reducible first|exact HB.out|apply zz03|apply zz01|apply zz02)|exact HB.out))) : w.heap.size ≤ gb363));have n3_:=zz00 ((by rw [hg];exact (zz22 (by repeat (first|(with_reducible first|exact HB.out|apply zz03|apply zz01|apply zz02)|exact HB.out))) : w.heap.size ≤ gb363));clear HB;have HB:=n0_;have BK363:=n1_;have GW363:=n2_;have GE363:=n3_;clear n0_ n1_ n2_ n3_;clear hb hbox hg;have hcz5_0 : w4.cell? ⟨gb363,0,none⟩ = some (.int .i64 0):=(zz18 BK363.out 0).trans rfl;have hcz5_1 : w4.cell? ⟨gb363,1,none⟩ = some (.bool false):=(zz18 BK363.out 1).trans rfl;have hfz5_0:=zz17 BK363.out 0;have hfz5_1:=zz17 BK363.out 1))
  refine bodyPost_ret (results_ct rfl _ _ gb363 32 #[.int .i64 5,.bool true] (0,0) _ rfl (by (with_reducible repeat (first|refine zz07 ?_ _|refine zz09 ?_|refine zz08 ?_ _));refine zz35 (cs:=#[.int .i64 5,.bool false]) ?_ 1 _ rfl;(with_reducible repeat (first|refine zz07 ?_ _|refine zz09 ?_|refine zz08 ?_ _));refine zz35 (cs:=#[.int .i64 0,.bool false]) ?_ 0 _ rfl;(with_reducible repeat (first|refine zz07 ?_ _|refine zz09 ?_|refine zz08 ?_ _));exact BK363.out) Tryz.underlying32 rfl (by kernel_rfl)) rfl ?_
  exact ⟨by first|rfl|(simp [errW_none,errW_some] <;> rfl)|(simp [*,errW_none,errW_some] <;> rfl),by repeat (first|(with_reducible first|exact HB.out|apply zz03|apply zz01|apply zz02|refine zz10 ?_ GE363.out)|exact HB.out)⟩
 ·
  rw [if_neg c3] at H
  have c3b0 : (a0.toList == ([65, 100, 97, 114, 32, 73] : List UInt8)) = false := zz27.mpr c3
  have c3b1 : (a0.toList != ([65, 100, 97, 114, 32, 73] : List UInt8)) = true := zz28.mpr c3
  by_cases c6 : a0.toList = ([65, 100, 97, 114, 32, 73, 73] : List UInt8)
  ·
   rw [if_pos c6] at H
   have c6b0 : (a0.toList == ([65, 100, 97, 114, 32, 73, 73] : List UInt8)) = true := zz29.mpr c6
   have c6b1 : (a0.toList != ([65, 100, 97, 114, 32, 73, 73] : List UInt8)) = false := zz26.mpr c6
   clear c6
   replace H := zz14.mp H
   obtain ⟨t364, A70, H⟩ := H
   replace H : (if t364 = true then (some (6, false, 0)) else (some (0, false, 2))) = some (r1, r2, r3) := H
   have A7 := zz00 A70
   clear A70
   by_cases c8 : t364 = true
   ·
    subst c8
    have H1 : (some (6, false, 0)) = some (r1, r2, r3) := by rw [if_pos rfl] at H; exact H
    clear H
    have H := H1
    clear H1
    simp only [zz15, zz16] at H
    obtain ⟨rfl, rfl, rfl⟩ := H
    go_enter Tryz.func59, Tryz.ntmps59
    go_wp2_with (first|((with_reducible refine zz24 (N:=4) rfl ?_);refine zz30 ?hg (N:=4) ?hd (cs:=#[.int .i64 0,.bool false]) (t:=32) ?hr ?_;(case hd=>rfl);(case hg=>rfl);(case hr=>first|(go_simp;done)|(go_simp;rfl));intro gb363 hg w9 hbox hb;have n0_:=zz00 (zz21 (by repeat (first|(with_reducible first|exact HB.out|apply zz03|apply zz01|apply zz02)|exact HB.out)) hb);have n1_:=zz00 (hbox);have n2_:=zz00 ((by rw [hg];exact (zz22 (by repeat (first|(with_reducible first|exact HB.out|apply zz03|apply zz01|apply zz02)|exact HB.out))) : w.heap.size ≤ gb363));have n3_:=zz00 ((by rw [hg];exact (zz22 (by repeat (first|(with_reducible first|exact HB.out|apply zz03|apply zz01|apply zz02)|exact HB.out))) : w.heap.size ≤ gb363));clear HB;have HB:=n0_;have BK363:=n1_;have GW363:=n2_;have GE363:=n3_;clear n0_ n1_ n2_ n3_;clear hb hbox hg)|((with_reducible refine zz23 (f:=23) rfl ?_);refine zz25 (some 13) rfl rfl Tryz.func23 (by kernel_rfl) rfl #[.int .i64 a1] rfl (by (try simp only [List.map_toArray,List.map_cons,List.map_nil]);first|done|rfl|(simp only [List.length_drop,List.length_take];rfl)) ?_;(with_reducible refine (almanackerref03_Is.calls a1 true _ A7.out).mono ?_);rintro e w' ⟨rfl,⟨nd,rfl⟩⟩;refine ⟨_,rfl,?_⟩;(try (rw [drewN_self w9];generalize hq_ : World.drewN w9 _ = w9;have n0_ : Aside0 (w9.heap[gb363]? = some (.cells #[.int .i64 0,.bool false] 32 (0,0))):=⟨by rw [← hq_];exact (by (with_reducible repeat (first|refine zz07 ?_ _|refine zz09 ?_|refine zz08 ?_ _));exact BK363.out)⟩;have n1_ : Aside0 (Below w.heap.size w w9):=⟨by rw [← hq_];exact (by repeat (first|(with_reducible first|exact HB.out|apply zz03|apply zz01|apply zz02|refine zz10 ?_ GE363.out)|exact HB.out))⟩;clear BK363 HB hq_;have BK363:=n0_;have HB:=n1_;clear n0_ n1_));have hcz10_0 : w9.cell? ⟨gb363,0,none⟩ = some (.int .i64 0):=(zz18 BK363.out 0).trans rfl;have hcz10_1 : w9.cell? ⟨gb363,1,none⟩ = some (.bool false):=(zz18 BK363.out 1).trans rfl;have hfz10_0:=zz17 BK363.out 0;have hfz10_1:=zz17 BK363.out 1))
    refine bodyPost_ret (results_ct rfl _ _ gb363 32 #[.int .i64 6,.bool false] (0,0) _ rfl (by (with_reducible repeat (first|refine zz07 ?_ _|refine zz09 ?_|refine zz08 ?_ _));refine zz35 (cs:=#[.int .i64 6,.bool false]) ?_ 1 _ rfl;(with_reducible repeat (first|refine zz07 ?_ _|refine zz09 ?_|refine zz08 ?_ _));refine zz35 (cs:=#[.int .i64 0,.bool false]) ?_ 0 _ rfl;(with_reducible repeat (first|refine zz07 ?_ _|refine zz09 ?_|refine zz08 ?_ _));exact BK363.out) Tryz.underlying32 rfl (by kernel_rfl)) rfl ?_
    exact ⟨by first|rfl|(simp [errW_none,errW_some] <;> rfl)|(simp [*,errW_none,errW_some] <;> rfl),by repeat (first|(with_reducible first|exact HB.out|apply zz03|apply zz01|apply zz02|refine zz10 ?_ GE363.out)|exact HB.out)⟩
   ·
    replace c8 := zz32.mpr c8
    subst c8
    have H1 : (some (0, false, 2)) = some (r1, r2, r3) := by rw [if_neg (show ¬ (false = true) by decide)] at H; exact H
    clear H
    have H := H1
    clear H1
    simp only [zz15, zz16] at H
    obtain ⟨rfl, rfl, rfl⟩ := H
    go_enter Tryz.func59, Tryz.ntmps59
    go_wp2_with (first|((with_reducible refine zz24 (N:=4) rfl ?_);refine zz30 ?hg (N:=4) ?hd (cs:=#[.int .i64 0,.bool false]) (t:=32) ?hr ?_;(case hd=>rfl);(case hg=>rfl);(case hr=>first|(go_simp;done)|(go_simp;rfl));intro gb363 hg w11 hbox hb;have n0_:=zz00 (zz21 (by repeat (first|(with_reducible first|exact HB.out|apply zz03|apply zz01|apply zz02)|exact HB.out)) hb);have n1_:=zz00 (hbox);have n2_:=zz00 ((by rw [hg];exact (zz22 (by repeat (first|(with_reducible first|exact HB.out|apply zz03|apply zz01|apply zz02)|exact HB.out))) : w.heap.size ≤ gb363));have n3_:=zz00 ((by rw [hg];exact (zz22 (by repeat (first|(with_reducible first|exact HB.out|apply zz03|apply zz01|apply zz02)|exact HB.out))) : w.heap.size ≤ gb363));clear HB;have HB:=n0_;have BK363:=n1_;have GW363:=n2_;have GE363:=n3_;clear n0_ n1_ n2_ n3_;clear hb hbox hg)|((with_reducible refine zz23 (f:=23) rfl ?_);refine zz25 (some 13) rfl rfl Tryz.func23 (by kernel_rfl) rfl #[.int .i64 a1] rfl (by (try simp only [List.map_toArray,List.map_cons,List.map_nil]);first|done|rfl|(simp only [List.length_drop,List.length_take];rfl)) ?_;(with_reducible refine (almanackerref03_Is.calls a1 false _ A7.out).mono ?_);rintro e w' ⟨rfl,⟨nd,rfl⟩⟩;refine ⟨_,rfl,?_⟩;(try (rw [drewN_self w11];generalize hq_ : World.drewN w11 _ = w11;have n0_ : Aside0 (w11.heap[gb363]? = some (.cells #[.int .i64 0,.bool false] 32 (0,0))):=⟨by rw [← hq_];exact (by (with_reducible repeat (first|refine zz07 ?_ _|refine zz09 ?_|refine zz08 ?_ _));exact BK363.out)⟩;have n1_ : Aside0 (Below w.heap.size w w11):=⟨by rw [← hq_];exact (by repeat (first|(with_reducible first|exact HB.out|apply zz03|apply zz01|apply zz02|refine zz10 ?_ GE363.out)|exact HB.out))⟩;clear BK363 HB hq_;have BK363:=n0_;have HB:=n1_;clear n0_ n1_));have hcz12_0 : w11.cell? ⟨gb363,0,none⟩ = some (.int .i64 0):=(zz18 BK363.out 0).trans rfl;have hcz12_1 : w11.cell? ⟨gb363,1,none⟩ = some (.bool false):=(zz18 BK363.out 1).trans rfl;have hfz12_0:=zz17 BK363.out 0;have hfz12_1:=zz17 BK363.out 1))
    refine bodyPost_ret (results_ct rfl _ _ gb363 32 #[.int .i64 0,.bool false] (0,0) _ rfl (by (with_reducible repeat (first|refine zz07 ?_ _|refine zz09 ?_|refine zz08 ?_ _));refine zz35 (cs:=#[.int .i64 0,.bool false]) ?_ 1 _ rfl;(with_reducible repeat (first|refine zz07 ?_ _|refine zz09 ?_|refine zz08 ?_ _));refine zz35 (cs:=#[.int .i64 0,.bool false]) ?_ 0 _ rfl;(with_reducible repeat (first|refine zz07 ?_ _|refine zz09 ?_|refine zz08 ?_ _));exact BK363.out) Tryz.underlying32 rfl (by kernel_rfl)) rfl ?_
    exact ⟨by first|rfl|(simp [errW_none,errW_some] <;> rfl)|(simp [*,errW_none,errW_some] <;> rfl),by repeat (first|(with_reducible first|exact HB.out|apply zz03|apply zz01|apply zz02|refine zz10 ?_ GE363.out)|exact HB.out)⟩
  ·
   rw [if_neg c6] at H
   have c6b0 : (a0.toList == ([65, 100, 97, 114, 32, 73, 73] : List UInt8)) = false := zz27.mpr c6
   have c6b1 : (a0.toList != ([65, 100, 97, 114, 32, 73, 73] : List UInt8)) = true := zz28.mpr c6
   have H' := zz00 H
   clear H
   go_enter Tryz.func59, Tryz.ntmps59
   go_wp2_with (first|((with_reducible refine zz24 (N:=4) rfl ?_);refine zz30 ?hg (N:=4) ?hd (cs:=#[.int .i64 0,.bool false]) (t:=32) ?hr ?_;(case hd=>rfl);(case hg=>rfl);(case hr=>first|(go_simp;done)|(go_simp;rfl));intro gb363 hg w13 hbox hb;have n0_:=zz00 (zz21 (by repeat (first|(with_reducible first|exact HB.out|apply zz03|apply zz01|apply zz02)|exact HB.out)) hb);have n1_:=zz00 (hbox);have n2_:=zz00 ((by rw [hg];exact (zz22 (by repeat (first|(with_reducible first|exact HB.out|apply zz03|apply zz01|apply zz02)|exact HB.out))) : w.heap.size ≤ gb363));have n3_:=zz00 ((by rw [hg];exact (zz22 (by repeat (first|(with_reducible first|exact HB.out|apply zz03|apply zz01|apply zz02)|exact HB.out))) : w.heap.size ≤ gb363));clear HB;have HB:=n0_;have BK363:=n1_;have GW363:=n2_;have GE363:=n3_;clear n0_ n1_ n2_ n3_;clear hb hbox hg))
   go_loopg [6] k (fun kq v6 w'=>∃ (x6_1 : Int) (x364000_1 : Int) (x364001_1 : Bool),v6 = .int .i64 x6_1 ∧ Aside0 (almanackerref14_code.l0 kq a0 x6_1 = some (r1,r2,r3)) ∧ Aside0 (kq ≤ k) ∧ Aside0 (w'.heap[gb363]? = some (.cells #[.int .i64 x364000_1,.bool x364001_1] 32 (0,0))) ∧ Aside0 (Below w.heap.size w w'))
   case atStart=>exact ⟨(0),(0),(false),(by first|rfl|(simp;done)|(simp [*];done)),H',⟨Nat.le_refl _⟩,⟨by (with_reducible repeat (first|refine zz07 ?_ _|refine zz09 ?_|refine zz08 ?_ _));exact BK363.out⟩,⟨by repeat (first|(with_reducible first|exact HB.out|apply zz03|apply zz01|apply zz02|refine zz10 ?_ GE363.out)|exact HB.out)⟩⟩
   case round =>
    clear H'
    try clear c2
    try clear p2
    try clear c3
    try clear c3b0
    try clear c3b1
    try clear c5
    try clear c6
    try clear c6b0
    try clear c6b1
    try clear c8
    try clear hcz10_0
    try clear hcz10_1
    try clear hcz12_0
    try clear hcz12_1
    try clear hcz5_0
    try clear hcz5_1
    try clear hfz10_0
    try clear hfz10_1
    try clear hfz12_0
    try clear hfz12_1
    try clear hfz5_0
    try clear hfz5_1
    obtain ⟨x6_1, x364000_1, x364001_1, rfl, HA, HK1, BK363, HB⟩ := hrel
    cases gk with
    | zero => exact absurd HA.out (by simp [almanackerref14_code.l0])
    | succ k1 =>
     have H := HA.out
     clear HA
     simp only [almanackerref14_code.l0] at H
     by_cases c14 : x6_1 < 12
     ·
      rw [if_pos c14] at H
      have c14b0 : decide (x6_1 < 12) = true := decide_eq_true c14
      clear c14
      replace H := zz14.mp H
      obtain ⟨t365, A150, H⟩ := H
      replace H : (if 0 ≤ x6_1 then (if x6_1 < (t365.length : Int) then (if (rdOf ByteArray.empty t365 x6_1).toList = a0.toList then (some (wrap64 (x6_1 + 1),false,0)) else (almanackerref14_code.l0 k1 a0 (wrap64 (x6_1 + 1)))) else (none)) else (none)) = some (r1,r2,r3):=H
      have A15 := zz00 A150
      clear A150
      by_cases c16 : 0 ≤ x6_1
      ·
       rw [if_pos c16] at H
       have c16b0 : decide (0 ≤ x6_1) = true := decide_eq_true c16
       clear c16
       by_cases c17 : x6_1 < (t365.length : Int)
       ·
        rw [if_pos c17] at H
        have c17b0 : decide (x6_1 < (t365.length : Int)) = true := decide_eq_true c17
        clear c17
        by_cases c18 : (rdOf ByteArray.empty t365 x6_1).toList = a0.toList
        ·
         rw [if_pos c18] at H
         have c18b0 : ((rdOf ByteArray.empty t365 x6_1).toList == a0.toList) = true := zz29.mpr c18
         have c18b1 : ((rdOf ByteArray.empty t365 x6_1).toList != a0.toList) = false := zz26.mpr c18
         clear c18
         simp only [zz15, zz16] at H
         obtain ⟨rfl, rfl, rfl⟩ := H
         go_wp2_with (first|((with_reducible refine zz23 (f:=49) rfl ?_);refine zz25 (some 21) rfl rfl Tryz.func49 (by kernel_rfl) rfl #[] rfl (by (try simp only [List.map_toArray,List.map_cons,List.map_nil]);first|done|rfl|(simp only [List.length_drop,List.length_take];rfl)) ?_;(with_reducible refine (almanackerref14_names.calls  t365 _ A15.out).mono ?_);rintro e w19 ⟨v366,rfl,ho0,hb⟩;refine ⟨_,rfl,?_⟩;have n0_:=zz00 (Kd.R_lower ho0 (zz22 (by repeat (first|(with_reducible first|exact HB.out|apply zz03|apply zz01|apply zz02|refine zz10 ?_ GE363.out)|exact HB.out))));have n1_:=zz00 (zz34 (g:=gb363) (o:=.cells #[.int .i64 x364000_1,.bool x364001_1] 32 (0,0)) (by (with_reducible repeat (first|refine zz07 ?_ _|refine zz09 ?_|refine zz08 ?_ _));exact BK363.out) hb);have n2_:=zz00 (zz21 (by repeat (first|(with_reducible first|exact HB.out|apply zz03|apply zz01|apply zz02|refine zz10 ?_ GE363.out)|exact HB.out)) hb);clear BK363;clear HB;have HO367:=n0_;have BK363:=n1_;have HB:=n2_;clear n0_ n1_ n2_;(try clear hb);(try clear hb2);(try clear hk);(try clear hi);(try clear ho0);obtain ⟨Ao20,co20,eo20⟩:=Kd.R_slice HO367.out;subst eo20;have p368 : 0 ≤ (x6_1 : Int):=zz31 (by first|(with_reducible assumption)|assumption);have q368 : x6_1 < (t365.length : Int):=zz31 (by first|(with_reducible assumption)|assumption);obtain ⟨ad368,e368,hx368_0⟩:=Kd.at_string (Kd.R_reads' HO367.out).2.2 x6_1 p368 q368;cases e368;replace p368:=eq_true p368;replace q368:=eq_true q368;have hcz21_0 : w19.cell? ⟨gb363,0,none⟩ = some (.int .i64 x364000_1):=(zz18 BK363.out 0).trans rfl;have hcz21_1 : w19.cell? ⟨gb363,1,none⟩ = some (.bool x364001_1):=(zz18 BK363.out 1).trans rfl;have hfz21_0:=zz17 BK363.out 0;have hfz21_1:=zz17 BK363.out 1))
         refine bodyPost_ret (results_ct rfl _ _ gb363 32 #[.int .i64 (wrap64 (x6_1 + 1)),.bool false] (0,0) _ rfl (by (with_reducible repeat (first|refine zz07 ?_ _|refine zz09 ?_|refine zz08 ?_ _));refine zz35 (cs:=#[.int .i64 (wrap64 (x6_1 + 1)),.bool x364001_1]) ?_ 1 _ rfl;(with_reducible repeat (first|refine zz07 ?_ _|refine zz09 ?_|refine zz08 ?_ _));refine zz35 (cs:=#[.int .i64 x364000_1,.bool x364001_1]) ?_ 0 _ rfl;(with_reducible repeat (first|refine zz07 ?_ _|refine zz09 ?_|refine zz08 ?_ _));exact BK363.out) Tryz.underlying32 rfl (by kernel_rfl)) rfl ?_
         exact ⟨by first|rfl|(simp [errW_none,errW_some] <;> rfl)|(simp [*,errW_none,errW_some] <;> rfl),by repeat (first|(with_reducible first|exact HB.out|apply zz03|apply zz01|apply zz02|refine zz10 ?_ GE363.out)|exact HB.out)⟩
        ·
         rw [if_neg c18] at H
         have c18b0 : ((rdOf ByteArray.empty t365 x6_1).toList == a0.toList) = false := zz27.mpr c18
         have c18b1 : ((rdOf ByteArray.empty t365 x6_1).toList != a0.toList) = true := zz28.mpr c18
         have H' := zz00 H
         clear H
         go_wp2_with (first|((with_reducible refine zz23 (f:=49) rfl ?_);refine zz25 (some 21) rfl rfl Tryz.func49 (by kernel_rfl) rfl #[] rfl (by (try simp only [List.map_toArray,List.map_cons,List.map_nil]);first|done|rfl|(simp only [List.length_drop,List.length_take];rfl)) ?_;(with_reducible refine (almanackerref14_names.calls  t365 _ A15.out).mono ?_);rintro e w22 ⟨v366,rfl,ho0,hb⟩;refine ⟨_,rfl,?_⟩;have n0_:=zz00 (Kd.R_lower ho0 (zz22 (by repeat (first|(with_reducible first|exact HB.out|apply zz03|apply zz01|apply zz02|refine zz10 ?_ GE363.out)|exact HB.out))));have n1_:=zz00 (zz34 (g:=gb363) (o:=.cells #[.int .i64 x364000_1,.bool x364001_1] 32 (0,0)) (by (with_reducible repeat (first|refine zz07 ?_ _|refine zz09 ?_|refine zz08 ?_ _));exact BK363.out) hb);have n2_:=zz00 (zz21 (by repeat (first|(with_reducible first|exact HB.out|apply zz03|apply zz01|apply zz02|refine zz10 ?_ GE363.out)|exact HB.out)) hb);clear BK363;clear HB;have HO367:=n0_;have BK363:=n1_;have HB:=n2_;clear n0_ n1_ n2_;(try clear hb);(try clear hb2);(try clear hk);(try clear hi);(try clear ho0);obtain ⟨Ao23,co23,eo23⟩:=Kd.R_slice HO367.out;subst eo23;have p368 : 0 ≤ (x6_1 : Int):=zz31 (by first|(with_reducible assumption)|assumption);have q368 : x6_1 < (t365.length : Int):=zz31 (by first|(with_reducible assumption)|assumption);obtain ⟨ad368,e368,hx368_0⟩:=Kd.at_string (Kd.R_reads' HO367.out).2.2 x6_1 p368 q368;cases e368;replace p368:=eq_true p368;replace q368:=eq_true q368))
         go_roundg k1
         case measure => have := HK1.out; omega
         case rel=>exact ⟨(wrap64 (x6_1 + 1)),(x364000_1),(x364001_1),(by first|rfl|(simp;done)|(simp [*];done)),H',⟨by have:=HK1.out;omega⟩,⟨by (with_reducible repeat (first|refine zz07 ?_ _|refine zz09 ?_|refine zz08 ?_ _));exact BK363.out⟩,⟨by repeat (first|(with_reducible first|exact HB.out|apply zz03|apply zz01|apply zz02|refine zz10 ?_ GE363.out)|exact HB.out)⟩⟩
       ·
        rw [if_neg c17] at H
        exact absurd H (by simp)
      ·
       rw [if_neg c16] at H
       exact absurd H (by simp)
     ·
      rw [if_neg c14] at H
      have c14b0 : decide (x6_1 < 12) = false := decide_eq_false c14
      clear c14
      simp only [zz15, zz16] at H
      obtain ⟨rfl, rfl, rfl⟩ := H
      have hcz24_0 : wr.cell? ⟨gb363, 0, none⟩ = some (.int .i64 x364000_1) := (zz18 BK363.out 0).trans rfl
      have hcz24_1 : wr.cell? ⟨gb363, 1, none⟩ = some (.bool x364001_1) := (zz18 BK363.out 1).trans rfl
      have hfz24_0 := zz17 BK363.out 0
      have hfz24_1 := zz17 BK363.out 1
      go_wp2
      refine bodyPost_ret (results_ct rfl _ _ gb363 32 #[.int .i64 0,.bool false] (0,0) _ rfl (by (with_reducible repeat (first|refine zz07 ?_ _|refine zz09 ?_|refine zz08 ?_ _));refine zz35 (cs:=#[.int .i64 0,.bool x364001_1]) ?_ 1 _ rfl;(with_reducible repeat (first|refine zz07 ?_ _|refine zz09 ?_|refine zz08 ?_ _));refine zz35 (cs:=#[.int .i64 x364000_1,.bool x364001_1]) ?_ 0 _ rfl;(with_reducible repeat (first|refine zz07 ?_ _|refine zz09 ?_|refine zz08 ?_ _));exact BK363.out) Tryz.underlying32 rfl (by kernel_rfl)) rfl ?_
      exact ⟨by first|rfl|(simp [errW_none,errW_some] <;> rfl)|(simp [*,errW_none,errW_some] <;> rfl),by repeat (first|(with_reducible first|exact HB.out|apply zz03|apply zz01|apply zz02|refine zz10 ?_ GE363.out)|exact HB.out)⟩

mutual
def almanackerref14_Read.l0 : Nat → ByteArray → Int → Int → Int → Option (Int × Int × Bool × Int × Int)
  | 0, _, _, _, _ => none
  | k + 1, x0, x4, x5, x6 => if x6 < (x0.size : Int) then (if 0 ≤ x6 then (if (bt x0 x6) = 32 then (if x4 < 0 then (almanackerref14_Read.l0 k x0 x6 x6 (wrap64 (x6 + 1))) else (almanackerref14_Read.l0 k x0 x4 x6 (wrap64 (x6 + 1)))) else (almanackerref14_Read.l0 k x0 x4 x5 (wrap64 (x6 + 1)))) else (none)) else (if x4 < 0 then (almanackerref14_Read.j1 k x0 x4 x5 true) else (almanackerref14_Read.j1 k x0 x4 x5 (x4 == x5)))
def almanackerref14_Read.j1 : Nat → ByteArray → Int → Int → Bool → Option (Int × Int × Bool × Int × Int)
  | 0, _, _, _, _ => none
  | k + 1, x0, x4, x5, x34 => if x34 = true then (some (0, 0, false, 0, 5)) else (if 0 ≤ x4 then (if x4 ≤ (x0.size : Int) then ((almanackerref14_number.f k (x0.extract 0 (x4 : Int).toNat) 2).bind fun bt370 => (if 0 ≤ (wrap64 (x5 + 1)) then (if (wrap64 (x5 + 1)) ≤ (x0.size : Int) then ((almanackerref14_number.f k (x0.extract ((wrap64 (x5 + 1)) : Int).toNat x0.size) 4).bind fun bt372 => (if bt370.2 = true then (almanackerref14_Read.j2 k x0 x4 x5 bt370.1 bt372.1 (!bt372.2)) else (almanackerref14_Read.j2 k x0 x4 x5 bt370.1 bt372.1 true))) else (none)) else (none))) else (none)) else (none))
def almanackerref14_Read.j2 : Nat → ByteArray → Int → Int → Int → Int → Bool → Option (Int × Int × Bool × Int × Int)
  | 0, _, _, _, _, _, _ => none
  | k + 1, x0, x4, x5, x7, x9, x56 => if x56 = true then (some (0, 0, false, 0, 5)) else (if 0 ≤ (wrap64 (x4 + 1)) then (if (wrap64 (x4 + 1)) ≤ x5 then (if x5 ≤ (x0.size : Int) then ((almanackerref14_code.f k (x0.extract ((wrap64 (x4 + 1)) : Int).toNat (x5 : Int).toNat) x9).bind fun bt374 => (if bt374.2.2 = 0 then ((almanackerref10_Check.f k x9 bt374.1 bt374.2.1 x7).bind fun t379 => (if t379 = 0 then (some (x9, bt374.1, bt374.2.1, x7, 0)) else (some (0, 0, false, 0, 2)))) else (some (0, 0, false, 0, bt374.2.2)))) else (none)) else (none)) else (none))
end
def almanackerref14_Read.f (k : Nat) (a0 : ByteArray) : Option (Int × Int × Bool × Int × Int) := almanackerref14_Read.l0 k a0 (-1) (-1) 0
set_option maxHeartbeats 8000000 in
set_option maxRecDepth 100000 in
theorem almanackerref14_Read.calls (k : Nat) (a0 : ByteArray) (r1 : Int) (r2 : Int) (r3 : Bool) (r4 : Int) (r5 : Int) (w : World) (h : almanackerref14_Read.f k a0 = some (r1, r2, r3, r4, r5)) :
  Calls Tryz.prog 21 #[.string a0] w fun e w' => e = .returned (.tuple #[.agg #[.int .i64 r1, .int .i64 r2, .bool r3, .int .i64 r4], .int .i64 r5]) ∧ Below w.heap.size w w' := by
 have hu34 := Tryz.underlying34
 have hu32 := Tryz.underlying32
 have HB := zz00 (Below.refl w.heap.size w)
 have H : (almanackerref14_Read.l0 k a0 (-1) (-1) 0) = some (r1, r2, r3, r4, r5) := h
 clear h
 have H' := zz00 H
 clear H
 go_enter Tryz.func21, Tryz.ntmps21
 go_wp2_with (first|((with_reducible refine zz24 (N:=2) rfl ?_);refine zz30 ?hg (N:=2) ?hd (cs:=#[.int .i64 0,.int .i64 0,.bool false,.int .i64 0]) (t:=34) ?hr ?_;(case hd=>rfl);(case hg=>rfl);(case hr=>first|(go_simp;done)|(go_simp;rfl));intro gb369 hg w2 hbox hb;have n0_:=zz00 (zz21 (by repeat (first|(with_reducible first|exact HB.out|apply zz03|apply zz01|apply zz02)|exact HB.out)) hb);have n1_:=zz00 (hbox);have n2_:=zz00 ((by rw [hg];exact (zz22 (by repeat (first|(with_reducible first|exact HB.out|apply zz03|apply zz01|apply zz02)|exact HB.out))) : w.heap.size ≤ gb369));have n3_:=zz00 ((by rw [hg];exact (zz22 (by repeat (first|(with_reducible first|exact HB.out|apply zz03|apply zz01|apply zz02)|exact HB.out))) : w.heap.size ≤ gb369));clear HB;have HB:=n0_;have BK369:=n1_;have GW369:=n2_;have GE369:=n3_;clear n0_ n1_ n2_ n3_;clear hb hbox hg))
 go_loopg [4,5,6] k (fun kq v4 v5 v6 w'=>∃ (x4_1 : Int) (x5_1 : Int) (x6_1 : Int),v4 = .int .i64 x4_1 ∧ v5 = .int .i64 x5_1 ∧ v6 = .int .i64 x6_1 ∧ Aside0 (almanackerref14_Read.l0 kq a0 x4_1 x5_1 x6_1 = some (r1,r2,r3,r4,r5)) ∧ Aside0 (kq ≤ k) ∧ Aside0 (w'.heap[gb369]? = some (.cells #[.int .i64 0,.int .i64 0,.bool false,.int .i64 0] 34 (0,0))) ∧ Aside0 (Below w.heap.size w w'))
 case atStart=>exact ⟨((-1)),((-1)),(0),(by first|rfl|(simp;done)|(simp [*];done)),(by first|rfl|(simp;done)|(simp [*];done)),(by first|rfl|(simp;done)|(simp [*];done)),H',⟨Nat.le_refl _⟩,⟨by (with_reducible repeat (first|refine zz07 ?_ _|refine zz09 ?_|refine zz08 ?_ _));exact BK369.out⟩,⟨by repeat (first|(with_reducible first|exact HB.out|apply zz03|apply zz01|apply zz02|refine zz10 ?_ GE369.out)|exact HB.out)⟩⟩
 case round =>
  clear H'
  try clear c2
  try clear p2
  obtain ⟨x4_1, x5_1, x6_1, rfl, rfl, rfl, HA, HK1, BK369, HB⟩ := hrel
  cases gk with
  | zero => exact absurd HA.out (by simp [almanackerref14_Read.l0])
  | succ k1 =>
   have H := HA.out
   clear HA
   simp only [almanackerref14_Read.l0] at H
   by_cases c3 : x6_1 < (a0.size : Int)
   ·
    rw [if_pos c3] at H
    have c3b0 : decide (x6_1 < (a0.size : Int)) = true := decide_eq_true c3
    clear c3
    by_cases c4 : 0 ≤ x6_1
    ·
     rw [if_pos c4] at H
     have c4b0 : decide (0 ≤ x6_1) = true := decide_eq_true c4
     clear c4
     by_cases c6 : (bt a0 x6_1) = 32
     ·
      rw [if_pos c6] at H
      have c6b0 : ((bt a0 x6_1) == 32) = true := zz29.mpr c6
      have c6b1 : ((bt a0 x6_1) != 32) = false := zz26.mpr c6
      clear c6
      by_cases c7 : x4_1 < 0
      ·
       rw [if_pos c7] at H
       have c7b0 : decide (x4_1 < 0) = true := decide_eq_true c7
       clear c7
       have H' := zz00 H
       clear H
       have p5 : 0 ≤ (x6_1 : Int) := zz31 (by first | (with_reducible assumption) | assumption)
       have q5 : x6_1 < (a0.size : Int) := zz31 (by first | (with_reducible assumption) | assumption)
       have hx5 := bt_at a0 x6_1
       replace p5 := eq_true p5
       replace q5 := eq_true q5
       go_wp2
       go_roundg k1
       case measure => have := HK1.out; omega
       case rel=>exact ⟨(x6_1),(x6_1),(wrap64 (x6_1 + 1)),(by first|rfl|(simp;done)|(simp [*];done)),(by first|rfl|(simp;done)|(simp [*];done)),(by first|rfl|(simp;done)|(simp [*];done)),H',⟨by have:=HK1.out;omega⟩,⟨by (with_reducible repeat (first|refine zz07 ?_ _|refine zz09 ?_|refine zz08 ?_ _));exact BK369.out⟩,⟨by repeat (first|(with_reducible first|exact HB.out|apply zz03|apply zz01|apply zz02|refine zz10 ?_ GE369.out)|exact HB.out)⟩⟩
      ·
       rw [if_neg c7] at H
       have c7b0 : decide (x4_1 < 0) = false := decide_eq_false c7
       clear c7
       have H' := zz00 H
       clear H
       have p5 : 0 ≤ (x6_1 : Int) := zz31 (by first | (with_reducible assumption) | assumption)
       have q5 : x6_1 < (a0.size : Int) := zz31 (by first | (with_reducible assumption) | assumption)
       have hx5 := bt_at a0 x6_1
       replace p5 := eq_true p5
       replace q5 := eq_true q5
       go_wp2
       go_roundg k1
       case measure => have := HK1.out; omega
       case rel=>exact ⟨(x4_1),(x6_1),(wrap64 (x6_1 + 1)),(by first|rfl|(simp;done)|(simp [*];done)),(by first|rfl|(simp;done)|(simp [*];done)),(by first|rfl|(simp;done)|(simp [*];done)),H',⟨by have:=HK1.out;omega⟩,⟨by (with_reducible repeat (first|refine zz07 ?_ _|refine zz09 ?_|refine zz08 ?_ _));exact BK369.out⟩,⟨by repeat (first|(with_reducible first|exact HB.out|apply zz03|apply zz01|apply zz02|refine zz10 ?_ GE369.out)|exact HB.out)⟩⟩
     ·
      rw [if_neg c6] at H
      have c6b0 : ((bt a0 x6_1) == 32) = false := zz27.mpr c6
      have c6b1 : ((bt a0 x6_1) != 32) = true := zz28.mpr c6
      have H' := zz00 H
      clear H
      have p5 : 0 ≤ (x6_1 : Int) := zz31 (by first | (with_reducible assumption) | assumption)
      have q5 : x6_1 < (a0.size : Int) := zz31 (by first | (with_reducible assumption) | assumption)
      have hx5 := bt_at a0 x6_1
      replace p5 := eq_true p5
      replace q5 := eq_true q5
      go_wp2
      go_roundg k1
      case measure => have := HK1.out; omega
      case rel=>exact ⟨(x4_1),(x5_1),(wrap64 (x6_1 + 1)),(by first|rfl|(simp;done)|(simp [*];done)),(by first|rfl|(simp;done)|(simp [*];done)),(by first|rfl|(simp;done)|(simp [*];done)),H',⟨by have:=HK1.out;omega⟩,⟨by (with_reducible repeat (first|refine zz07 ?_ _|refine zz09 ?_|refine zz08 ?_ _));exact BK369.out⟩,⟨by repeat (first|(with_reducible first|exact HB.out|apply zz03|apply zz01|apply zz02|refine zz10 ?_ GE369.out)|exact HB.out)⟩⟩
    ·
     rw [if_neg c4] at H
     exact absurd H (by simp)
   ·
    rw [if_neg c3] at H
    have c3b0 : decide (x6_1 < (a0.size : Int)) = false := decide_eq_false c3
    clear c3
    have HC8 := zz00 H
    clear H
    go_upto_region 9 with (fail)
    go_cut [34] (fun v34 wc=>∃ (kq : Nat) (x34_7 : Bool),v34 = .bool x34_7 ∧ Aside0 (almanackerref14_Read.j1 kq a0 x4_1 x5_1 x34_7 = some (r1,r2,r3,r4,r5)) ∧ Aside0 (kq ≤ k1) ∧ Aside0 (wc.heap[gb369]? = some (.cells #[.int .i64 0,.int .i64 0,.bool false,.int .i64 0] 34 (0,0))) ∧ Aside0 (Below w.heap.size w wc))
    case first =>
     have H := HC8.out
     clear HC8
     by_cases c9 : x4_1 < 0
     ·
      rw [if_pos c9] at H
      have c9b0 : decide (x4_1 < 0) = true := decide_eq_true c9
      clear c9
      (first | rw [c9b0] | (simp only [i64_w, i32_w]; rw [c9b0]) | skip)
      have H' := zz00 H
      clear H
      go_wp2
      go_meet
      case rel=>exact ⟨_,(true),(by first|rfl|(simp;done)|(simp [*];done)),H',⟨by have:=HK1.out;first|omega|exact Nat.le_refl _⟩,⟨by (with_reducible repeat (first|refine zz07 ?_ _|refine zz09 ?_|refine zz08 ?_ _));exact BK369.out⟩,⟨by repeat (first|(with_reducible first|exact HB.out|apply zz03|apply zz01|apply zz02|refine zz10 ?_ GE369.out)|exact HB.out)⟩⟩
     ·
      rw [if_neg c9] at H
      have c9b0 : decide (x4_1 < 0) = false := decide_eq_false c9
      clear c9
      (first | rw [c9b0] | (simp only [i64_w, i32_w]; rw [c9b0]) | skip)
      have H' := zz00 H
      clear H
      go_wp2
      go_meet
      case rel=>exact ⟨_,((x4_1 == x5_1)),(by first|rfl|(simp;done)|(simp [*];done)),H',⟨by have:=HK1.out;first|omega|exact Nat.le_refl _⟩,⟨by (with_reducible repeat (first|refine zz07 ?_ _|refine zz09 ?_|refine zz08 ?_ _));exact BK369.out⟩,⟨by repeat (first|(with_reducible first|exact HB.out|apply zz03|apply zz01|apply zz02|refine zz10 ?_ GE369.out)|exact HB.out)⟩⟩
    case rest =>
     clear HC8
     try clear c2
     try clear p2
     try clear c3
     try clear c3b0
     try clear c4
     try clear c4b0
     try clear p5
     try clear q5
     try clear hx5
     try clear c6
     try clear c6b0
     try clear c6b1
     try clear p6
     try clear c7
     try clear c7b0
     try clear c9
     try clear c9b0
     try clear p2
     try clear p5
     try clear q5
     obtain ⟨kq, x34_7, rfl, HA, HJ7, BK369, HB⟩ := hcut
     cases kq with
     | zero => exact absurd HA.out (by simp [almanackerref14_Read.j1])
     | succ kj7 =>
      have H := HA.out
      clear HA
      simp only [almanackerref14_Read.j1] at H
      by_cases c10 : x34_7 = true
      ·
       subst c10
       have H1 : (some (0, 0, false, 0, 5)) = some (r1, r2, r3, r4, r5) := by rw [if_pos rfl] at H; exact H
       clear H
       have H := H1
       clear H1
       simp only [zz15, zz16] at H
       obtain ⟨rfl, rfl, rfl, rfl, rfl⟩ := H
       have hcz11_0 : wc.cell? ⟨gb369, 0, none⟩ = some (.int .i64 0) := (zz18 BK369.out 0).trans rfl
       have hcz11_1 : wc.cell? ⟨gb369, 1, none⟩ = some (.int .i64 0) := (zz18 BK369.out 1).trans rfl
       have hcz11_2 : wc.cell? ⟨gb369, 2, none⟩ = some (.bool false) := (zz18 BK369.out 2).trans rfl
       have hcz11_3 : wc.cell? ⟨gb369, 3, none⟩ = some (.int .i64 0) := (zz18 BK369.out 3).trans rfl
       have hfz11_0 := zz17 BK369.out 0
       have hfz11_1 := zz17 BK369.out 1
       have hfz11_2 := zz17 BK369.out 2
       have hfz11_3 := zz17 BK369.out 3
       go_wp2
       refine bodyPost_ret (results_ct rfl _ _ gb369 34 #[.int .i64 0,.int .i64 0,.bool false,.int .i64 0] (0,0) _ rfl (by (with_reducible repeat (first|refine zz07 ?_ _|refine zz09 ?_|refine zz08 ?_ _));refine zz35 (cs:=#[.int .i64 0,.int .i64 0,.bool false,.int .i64 0]) ?_ 3 _ rfl;(with_reducible repeat (first|refine zz07 ?_ _|refine zz09 ?_|refine zz08 ?_ _));refine zz35 (cs:=#[.int .i64 0,.int .i64 0,.bool false,.int .i64 0]) ?_ 2 _ rfl;(with_reducible repeat (first|refine zz07 ?_ _|refine zz09 ?_|refine zz08 ?_ _));refine zz35 (cs:=#[.int .i64 0,.int .i64 0,.bool false,.int .i64 0]) ?_ 1 _ rfl;(with_reducible repeat (first|refine zz07 ?_ _|refine zz09 ?_|refine zz08 ?_ _));refine zz35 (cs:=#[.int .i64 0,.int .i64 0,.bool false,.int .i64 0]) ?_ 0 _ rfl;(with_reducible repeat (first|refine zz07 ?_ _|refine zz09 ?_|refine zz08 ?_ _));exact BK369.out) Tryz.underlying34 rfl (by kernel_rfl)) rfl ?_
       exact ⟨by first|rfl|(simp [errW_none,errW_some] <;> rfl)|(simp [*,errW_none,errW_some] <;> rfl),by repeat (first|(with_reducible first|exact HB.out|apply zz03|apply zz01|apply zz02|refine zz10 ?_ GE369.out)|exact HB.out)⟩
      ·
       replace c10 := zz32.mpr c10
       subst c10
       have H1 : (if 0 ≤ x4_1 then (if x4_1 ≤ (a0.size : Int) then ((almanackerref14_number.f kj7 (a0.extract 0 (x4_1 : Int).toNat) 2).bind fun bt370=>(if 0 ≤ (wrap64 (x5_1 + 1)) then (if (wrap64 (x5_1 + 1)) ≤ (a0.size : Int) then ((almanackerref14_number.f kj7 (a0.extract ((wrap64 (x5_1 + 1)) : Int).toNat a0.size) 4).bind fun bt372=>(if bt370.2 = true then (almanackerref14_Read.j2 kj7 a0 x4_1 x5_1 bt370.1 bt372.1 (!bt372.2)) else (almanackerref14_Read.j2 kj7 a0 x4_1 x5_1 bt370.1 bt372.1 true))) else (none)) else (none))) else (none)) else (none)) = some (r1,r2,r3,r4,r5):=by rw [if_neg (show ¬ (false = true) by decide)] at H;exact H
       clear H
       have H := H1
       clear H1
       by_cases c12 : 0 ≤ x4_1
       ·
        rw [if_pos c12] at H
        have c12b0 := eq_true c12
        have c12b1 : decide (0 ≤ x4_1) = true := decide_eq_true c12
        clear c12
        by_cases c13 : x4_1 ≤ (a0.size : Int)
        ·
         rw [if_pos c13] at H
         have c13b0 := eq_true c13
         have c13b1 : decide (x4_1 ≤ (a0.size : Int)) = true := decide_eq_true c13
         clear c13
         replace H := zz14.mp H
         obtain ⟨⟨t370, t371⟩, A140, H⟩ := H
         replace H : (if 0 ≤ (wrap64 (x5_1 + 1)) then (if (wrap64 (x5_1 + 1)) ≤ (a0.size : Int) then ((almanackerref14_number.f kj7 (a0.extract ((wrap64 (x5_1 + 1)) : Int).toNat a0.size) 4).bind fun bt372=>(if t371 = true then (almanackerref14_Read.j2 kj7 a0 x4_1 x5_1 t370 bt372.1 (!bt372.2)) else (almanackerref14_Read.j2 kj7 a0 x4_1 x5_1 t370 bt372.1 true))) else (none)) else (none)) = some (r1,r2,r3,r4,r5):=H
         have A14 := zz00 A140
         clear A140
         obtain ⟨ji15, hji15⟩ : ∃ j_ : Int, (wrap64 (x5_1 + 1)) = j_ := ⟨_, rfl⟩
         replace H : (if 0 ≤ (ji15) then (if (ji15) ≤ (a0.size : Int) then ((almanackerref14_number.f kj7 (a0.extract ((ji15) : Int).toNat a0.size) 4).bind fun bt372=>(if t371 = true then (almanackerref14_Read.j2 kj7 a0 x4_1 x5_1 t370 bt372.1 (!bt372.2)) else (almanackerref14_Read.j2 kj7 a0 x4_1 x5_1 t370 bt372.1 true))) else (none)) else (none)) = some (r1,r2,r3,r4,r5):=by first|(rw [hji15] at H;exact H)|(simp only [hji15] at H ⊢;exact H)
         (try rw [hji15] at A14)
         have hji15w : (IntKind.i64.wrap (x5_1 + 1)) = ji15 := (i64_w _).trans hji15
         by_cases c16 : 0 ≤ (ji15)
         ·
          rw [if_pos c16] at H
          have c16b0 := eq_true c16
          have c16b1 : decide (0 ≤ (ji15)) = true := decide_eq_true c16
          clear c16
          by_cases c17 : (ji15) ≤ (a0.size : Int)
          ·
           rw [if_pos c17] at H
           have c17b0 := eq_true c17
           have c17b1 : decide ((ji15) ≤ (a0.size : Int)) = true := decide_eq_true c17
           clear c17
           replace H := zz14.mp H
           obtain ⟨⟨t372, t373⟩, A180, H⟩ := H
           replace H : (if t371 = true then (almanackerref14_Read.j2 kj7 a0 x4_1 x5_1 t370 t372 (!t373)) else (almanackerref14_Read.j2 kj7 a0 x4_1 x5_1 t370 t372 true)) = some (r1,r2,r3,r4,r5):=H
           have A18 := zz00 A180
           clear A180
           have HC19 := zz00 H
           clear H
           go_upto_region 13 with (first|((with_reducible refine zz23 (f:=58) rfl ?_);refine zz25 (some 40) rfl rfl Tryz.func58 (by kernel_rfl) rfl #[.string (a0.extract 0 (x4_1 : Int).toNat),.int .i64 2] rfl (by (try simp only [List.map_toArray,List.map_cons,List.map_nil]);first|done|rfl|(simp only [List.length_drop,List.length_take];rfl)) ?_;(with_reducible refine (almanackerref14_number.calls kj7 (a0.extract 0 (x4_1 : Int).toNat) 2 t370 t371 _ A14.out).mono ?_);rintro e w' ⟨rfl,⟨nd,rfl⟩⟩;refine ⟨_,rfl,?_⟩)|((with_reducible refine zz23 (f:=58) rfl ?_);refine zz25 (some 48) rfl rfl Tryz.func58 (by kernel_rfl) rfl #[.string (a0.extract ((ji15) : Int).toNat a0.size),.int .i64 4] rfl (by (try simp only [List.map_toArray,List.map_cons,List.map_nil]);first|done|(simp only [hji15];rfl)|rfl|(simp only [List.length_drop,List.length_take];rfl)) ?_;(with_reducible refine (almanackerref14_number.calls kj7 (a0.extract ((ji15) : Int).toNat a0.size) 4 t372 t373 _ A18.out).mono ?_);rintro e w' ⟨rfl,⟨nd,rfl⟩⟩;refine ⟨_,rfl,?_⟩))
           (try simp only [Act.put, zz11, zz12, zz13])
           go_cut [56] (fun v56 wc=>∃ (kq : Nat) (x56_18 : Bool),v56 = .bool x56_18 ∧ Aside0 (almanackerref14_Read.j2 kq a0 x4_1 x5_1 t370 t372 x56_18 = some (r1,r2,r3,r4,r5)) ∧ Aside0 (kq ≤ kj7) ∧ Aside0 (wc.heap[gb369]? = some (.cells #[.int .i64 0,.int .i64 0,.bool false,.int .i64 0] 34 (0,0))) ∧ Aside0 (Below w.heap.size w wc))
           case first =>
            have H := HC19.out
            clear HC19
            by_cases c20 : t371 = true
            ·
             subst c20
             have H1 : (almanackerref14_Read.j2 kj7 a0 x4_1 x5_1 t370 t372 (!t373)) = some (r1, r2, r3, r4, r5) := by rw [if_pos rfl] at H; exact H
             clear H
             have H := H1
             clear H1
             have H' := zz00 H
             clear H
             go_wp2
             go_meet
             case rel=>exact ⟨_,(!t373),(by first|rfl|(simp;done)|(simp [*];done)),H',⟨by have:=HK1.out;have:=HJ7.out;first|omega|exact Nat.le_refl _⟩,⟨by (with_reducible repeat (first|refine zz07 ?_ _|refine zz09 ?_|refine zz08 ?_ _));exact BK369.out⟩,⟨by repeat (first|(with_reducible first|exact HB.out|apply zz03|apply zz01|apply zz02|refine zz10 ?_ GE369.out)|exact HB.out)⟩⟩
            ·
             replace c20 := zz32.mpr c20
             subst c20
             have H1 : (almanackerref14_Read.j2 kj7 a0 x4_1 x5_1 t370 t372 true) = some (r1, r2, r3, r4, r5) := by rw [if_neg (show ¬ (false = true) by decide)] at H; exact H
             clear H
             have H := H1
             clear H1
             have H' := zz00 H
             clear H
             go_wp2
             go_meet
             case rel=>exact ⟨_,(true),(by first|rfl|(simp;done)|(simp [*];done)),H',⟨by have:=HK1.out;have:=HJ7.out;first|omega|exact Nat.le_refl _⟩,⟨by (with_reducible repeat (first|refine zz07 ?_ _|refine zz09 ?_|refine zz08 ?_ _));exact BK369.out⟩,⟨by repeat (first|(with_reducible first|exact HB.out|apply zz03|apply zz01|apply zz02|refine zz10 ?_ GE369.out)|exact HB.out)⟩⟩
           case rest =>
            clear HC19
            try clear c1
            try clear c2
            try clear p2
            try clear c3
            try clear c3b0
            try clear c4
            try clear c4b0
            try clear c5
            try clear p5
            try clear q5
            try clear hx5
            try clear c6
            try clear c6b0
            try clear c6b1
            try clear p6
            try clear c7
            try clear c7b0
            try clear c9
            try clear c9b0
            try clear c10
            try clear c12
            try clear c12b0
            try clear c12b1
            try clear c13
            try clear c13b0
            try clear c13b1
            try clear c16
            try clear c16b0
            try clear c16b1
            try clear c17
            try clear c17b0
            try clear c17b1
            try clear c20
            try clear hcz11_0
            try clear hcz11_1
            try clear hcz11_2
            try clear hcz11_3
            try clear hfz11_0
            try clear hfz11_1
            try clear hfz11_2
            try clear hfz11_3
            try clear p2
            try clear p5
            try clear p6
            try clear q5
            obtain ⟨kq, x56_18, rfl, HA, HJ18, BK369, HB⟩ := hcut
            cases kq with
            | zero => exact absurd HA.out (by simp [almanackerref14_Read.j2])
            | succ kj18 =>
             have H := HA.out
             clear HA
             simp only [almanackerref14_Read.j2] at H
             by_cases c21 : x56_18 = true
             ·
              subst c21
              have H1 : (some (0, 0, false, 0, 5)) = some (r1, r2, r3, r4, r5) := by rw [if_pos rfl] at H; exact H
              clear H
              have H := H1
              clear H1
              simp only [zz15, zz16] at H
              obtain ⟨rfl, rfl, rfl, rfl, rfl⟩ := H
              have hcz22_0 : wc.cell? ⟨gb369, 0, none⟩ = some (.int .i64 0) := (zz18 BK369.out 0).trans rfl
              have hcz22_1 : wc.cell? ⟨gb369, 1, none⟩ = some (.int .i64 0) := (zz18 BK369.out 1).trans rfl
              have hcz22_2 : wc.cell? ⟨gb369, 2, none⟩ = some (.bool false) := (zz18 BK369.out 2).trans rfl
              have hcz22_3 : wc.cell? ⟨gb369, 3, none⟩ = some (.int .i64 0) := (zz18 BK369.out 3).trans rfl
              have hfz22_0 := zz17 BK369.out 0
              have hfz22_1 := zz17 BK369.out 1
              have hfz22_2 := zz17 BK369.out 2
              have hfz22_3 := zz17 BK369.out 3
              go_wp2
              refine bodyPost_ret (results_ct rfl _ _ gb369 34 #[.int .i64 0,.int .i64 0,.bool false,.int .i64 0] (0,0) _ rfl (by (with_reducible repeat (first|refine zz07 ?_ _|refine zz09 ?_|refine zz08 ?_ _));refine zz35 (cs:=#[.int .i64 0,.int .i64 0,.bool false,.int .i64 0]) ?_ 3 _ rfl;(with_reducible repeat (first|refine zz07 ?_ _|refine zz09 ?_|refine zz08 ?_ _));refine zz35 (cs:=#[.int .i64 0,.int .i64 0,.bool false,.int .i64 0]) ?_ 2 _ rfl;(with_reducible repeat (first|refine zz07 ?_ _|refine zz09 ?_|refine zz08 ?_ _));refine zz35 (cs:=#[.int .i64 0,.int .i64 0,.bool false,.int .i64 0]) ?_ 1 _ rfl;(with_reducible repeat (first|refine zz07 ?_ _|refine zz09 ?_|refine zz08 ?_ _));refine zz35 (cs:=#[.int .i64 0,.int .i64 0,.bool false,.int .i64 0]) ?_ 0 _ rfl;(with_reducible repeat (first|refine zz07 ?_ _|refine zz09 ?_|refine zz08 ?_ _));exact BK369.out) Tryz.underlying34 rfl (by kernel_rfl)) rfl ?_
              exact ⟨by first|rfl|(simp [errW_none,errW_some] <;> rfl)|(simp only [← hji15];first|rfl|(simp [errW_none,errW_some] <;> rfl))|(simp [*,errW_none,errW_some] <;> rfl),by repeat (first|(with_reducible first|exact HB.out|apply zz03|apply zz01|apply zz02|refine zz10 ?_ GE369.out)|exact HB.out)⟩
             ·
              replace c21 := zz32.mpr c21
              subst c21
              have H1 : (if 0 ≤ (wrap64 (x4_1 + 1)) then (if (wrap64 (x4_1 + 1)) ≤ x5_1 then (if x5_1 ≤ (a0.size : Int) then ((almanackerref14_code.f kj18 (a0.extract ((wrap64 (x4_1 + 1)) : Int).toNat (x5_1 : Int).toNat) t372).bind fun bt374=>(if bt374.2.2 = 0 then ((almanackerref10_Check.f kj18 t372 bt374.1 bt374.2.1 t370).bind fun t379=>(if t379 = 0 then (some (t372,bt374.1,bt374.2.1,t370,0)) else (some (0,0,false,0,2)))) else (some (0,0,false,0,bt374.2.2)))) else (none)) else (none)) else (none)) = some (r1,r2,r3,r4,r5):=by rw [if_neg (show ¬ (false = true) by decide)] at H;exact H
              clear H
              have H := H1
              clear H1
              obtain ⟨ji23, hji23⟩ : ∃ j_ : Int, (wrap64 (x4_1 + 1)) = j_ := ⟨_, rfl⟩
              replace H : (if 0 ≤ (ji23) then (if (ji23) ≤ x5_1 then (if x5_1 ≤ (a0.size : Int) then ((almanackerref14_code.f kj18 (a0.extract ((ji23) : Int).toNat (x5_1 : Int).toNat) t372).bind fun bt374=>(if bt374.2.2 = 0 then ((almanackerref10_Check.f kj18 t372 bt374.1 bt374.2.1 t370).bind fun t379=>(if t379 = 0 then (some (t372,bt374.1,bt374.2.1,t370,0)) else (some (0,0,false,0,2)))) else (some (0,0,false,0,bt374.2.2)))) else (none)) else (none)) else (none)) = some (r1,r2,r3,r4,r5):=by first|(rw [hji23] at H;exact H)|(simp only [hji23] at H ⊢;exact H)
              have hji23w : (IntKind.i64.wrap (x4_1 + 1)) = ji23 := (i64_w _).trans hji23
              by_cases c24 : 0 ≤ (ji23)
              ·
               rw [if_pos c24] at H
               have c24b0 := eq_true c24
               have c24b1 : decide (0 ≤ (ji23)) = true := decide_eq_true c24
               clear c24
               by_cases c25 : (ji23) ≤ x5_1
               ·
                rw [if_pos c25] at H
                have c25b0 := eq_true c25
                have c25b1 : decide ((ji23) ≤ x5_1) = true := decide_eq_true c25
                clear c25
                by_cases c26 : x5_1 ≤ (a0.size : Int)
                ·
                 rw [if_pos c26] at H
                 have c26b0 := eq_true c26
                 have c26b1 : decide (x5_1 ≤ (a0.size : Int)) = true := decide_eq_true c26
                 clear c26
                 replace H := zz14.mp H
                 obtain ⟨⟨t374, t375, t376⟩, A270, H⟩ := H
                 replace H : (if t376 = 0 then ((almanackerref10_Check.f kj18 t372 t374 t375 t370).bind fun t379=>(if t379 = 0 then (some (t372,t374,t375,t370,0)) else (some (0,0,false,0,2)))) else (some (0,0,false,0,t376))) = some (r1,r2,r3,r4,r5):=H
                 have A27 := zz00 A270
                 clear A270
                 by_cases c28 : t376 = 0
                 ·
                  rw [if_pos c28] at H
                  have c28b0 : (t376 == 0) = true := zz29.mpr c28
                  have c28b1 : (t376 != 0) = false := zz26.mpr c28
                  clear c28
                  replace H := zz14.mp H
                  obtain ⟨t379, A290, H⟩ := H
                  replace H : (if t379 = 0 then (some (t372, t374, t375, t370, 0)) else (some (0, 0, false, 0, 2))) = some (r1, r2, r3, r4, r5) := H
                  have A29 := zz00 A290
                  clear A290
                  by_cases c30 : t379 = 0
                  ·
                   rw [if_pos c30] at H
                   have c30b0 : (t379 == 0) = true := zz29.mpr c30
                   have c30b1 : (t379 != 0) = false := zz26.mpr c30
                   clear c30
                   simp only [zz15, zz16] at H
                   obtain ⟨rfl, rfl, rfl, rfl, rfl⟩ := H
                   go_wp2_with (first|((with_reducible refine zz23 (f:=59) rfl ?_);refine zz25 (some 65) rfl rfl Tryz.func59 (by kernel_rfl) rfl #[.string (a0.extract ((ji23) : Int).toNat (x5_1 : Int).toNat),.int .i64 t372] rfl (by (try simp only [List.map_toArray,List.map_cons,List.map_nil]);first|done|(simp only [hji23];rfl)|rfl|(simp only [List.length_drop,List.length_take];rfl)) ?_;(with_reducible refine (almanackerref14_code.calls kj18 (a0.extract ((ji23) : Int).toNat (x5_1 : Int).toNat) t372 t374 t375 t376 _ A27.out).mono ?_);rintro e w31 ⟨rfl,hb⟩;refine ⟨_,rfl,?_⟩;have n0_:=zz00 (zz34 (g:=gb369) (o:=.cells #[.int .i64 0,.int .i64 0,.bool false,.int .i64 0] 34 (0,0)) (by (with_reducible repeat (first|refine zz07 ?_ _|refine zz09 ?_|refine zz08 ?_ _));exact BK369.out) hb);have n1_:=zz00 (zz21 (by repeat (first|(with_reducible first|exact HB.out|apply zz03|apply zz01|apply zz02|refine zz10 ?_ GE369.out)|exact HB.out)) hb);clear BK369;clear HB;have BK369:=n0_;have HB:=n1_;clear n0_ n1_;(try clear hb);(try clear hb2);(try clear hk);(try clear hi))|((with_reducible refine zz24 (N:=11) rfl ?_);refine zz30 ?hg (N:=11) ?hd (cs:=#[.int .i64 0,.bool false]) (t:=32) ?hr ?_;(case hd=>rfl);(case hg=>rfl);(case hr=>first|(go_simp;done)|(go_simp;rfl));intro gb377 hg w32 hbox hb;have n0_:=zz00 (zz34 (g:=gb369) (o:=.cells #[.int .i64 0,.int .i64 0,.bool false,.int .i64 0] 34 (0,0)) (by (with_reducible repeat (first|refine zz07 ?_ _|refine zz09 ?_|refine zz08 ?_ _));exact BK369.out) hb);have n1_:=zz00 (zz21 (by repeat (first|(with_reducible first|exact HB.out|apply zz03|apply zz01|apply zz02|refine zz10 ?_ GE369.out)|exact HB.out)) hb);have n2_:=zz00 (hbox);have n3_:=zz00 ((by rw [hg];exact (zz22 (by repeat (first|(with_reducible first|exact HB.out|apply zz03|apply zz01|apply zz02|refine zz10 ?_ GE369.out)|exact HB.out))) : w.heap.size ≤ gb377));have n4_:=zz00 ((by rw [hg];exact (zz22 (by repeat (first|(with_reducible first|exact HB.out|apply zz03|apply zz01|apply zz02|refine zz10 ?_ GE369.out)|exact HB.out))) : w.heap.size ≤ gb377));have n5_:=zz00 ((by rw [hg];exact Nat.ne_of_lt (blk_lt (g:=gb369) (o:=.cells #[.int .i64 0,.int .i64 0,.bool false,.int .i64 0] 34 (0,0)) (by (with_reducible repeat (first|refine zz07 ?_ _|refine zz09 ?_|refine zz08 ?_ _));exact BK369.out)) : gb369 ≠ gb377));have n6_:=zz00 ((by rw [hg];exact Nat.ne_of_gt (blk_lt (g:=gb369) (o:=.cells #[.int .i64 0,.int .i64 0,.bool false,.int .i64 0] 34 (0,0)) (by (with_reducible repeat (first|refine zz07 ?_ _|refine zz09 ?_|refine zz08 ?_ _));exact BK369.out)) : gb377 ≠ gb369));clear BK369;clear HB;have BK369:=n0_;have HB:=n1_;have BK377:=n2_;have GW377:=n3_;have GE377:=n4_;have NB369_377:=n5_;have NB377_369:=n6_;clear n0_ n1_ n2_ n3_ n4_ n5_ n6_;clear hb hbox hg;have hnb33:=NB377_369.out;have hnc33:=NB369_377.out;have hcz34_0 : w32.cell? ⟨gb377,0,none⟩ = some (.int .i64 0):=(zz18 BK377.out 0).trans rfl;have hcz34_1 : w32.cell? ⟨gb377,1,none⟩ = some (.bool false):=(zz18 BK377.out 1).trans rfl;have hfz34_0:=zz17 BK377.out 0;have hfz34_1:=zz17 BK377.out 1)|((with_reducible refine zz24 (N:=13) rfl ?_);refine zz30 ?hg (N:=13) ?hd (cs:=#[.int .i64 0,.int .i64 0,.bool false,.int .i64 0]) (t:=34) ?hr ?_;(case hd=>rfl);(case hg=>rfl);(case hr=>first|(go_simp;done)|(go_simp;rfl));intro gb378 hg w35 hbox hb;have n0_:=zz00 (zz34 (g:=gb369) (o:=.cells #[.int .i64 0,.int .i64 0,.bool false,.int .i64 0] 34 (0,0)) (by (with_reducible repeat (first|refine zz07 ?_ _|refine zz09 ?_|refine zz08 ?_ _));refine zz33 ?_ NB369_377.out _;(with_reducible repeat (first|refine zz07 ?_ _|refine zz09 ?_|refine zz08 ?_ _));refine zz33 ?_ NB369_377.out _;(with_reducible repeat (first|refine zz07 ?_ _|refine zz09 ?_|refine zz08 ?_ _));exact BK369.out) hb);have n1_:=zz00 (zz34 (g:=gb377) (o:=.cells #[.int .i64 t374,.bool t375] 32 (0,0)) (by (with_reducible repeat (first|refine zz07 ?_ _|refine zz09 ?_|refine zz08 ?_ _));refine zz35 (cs:=#[.int .i64 t374,.bool false]) ?_ 1 _ rfl;(with_reducible repeat (first|refine zz07 ?_ _|refine zz09 ?_|refine zz08 ?_ _));refine zz35 (cs:=#[.int .i64 0,.bool false]) ?_ 0 _ rfl;(with_reducible repeat (first|refine zz07 ?_ _|refine zz09 ?_|refine zz08 ?_ _));exact BK377.out) hb);have n2_:=zz00 (zz21 (by repeat (first|(with_reducible first|exact HB.out|apply zz03|apply zz01|apply zz02|refine zz10 ?_ GE369.out|refine zz10 ?_ GE377.out)|exact HB.out)) hb);have n3_:=zz00 (hbox);have n4_:=zz00 ((by rw [hg];exact (zz22 (by repeat (first|(with_reducible first|exact HB.out|apply zz03|apply zz01|apply zz02|refine zz10 ?_ GE369.out|refine zz10 ?_ GE377.out)|exact HB.out))) : w.heap.size ≤ gb378));have n5_:=zz00 ((by rw [hg];exact (zz22 (by repeat (first|(with_reducible first|exact HB.out|apply zz03|apply zz01|apply zz02|refine zz10 ?_ GE369.out|refine zz10 ?_ GE377.out)|exact HB.out))) : w.heap.size ≤ gb378));have n6_:=zz00 ((by rw [hg];exact Nat.ne_of_lt (blk_lt (g:=gb369) (o:=.cells #[.int .i64 0,.int .i64 0,.bool false,.int .i64 0] 34 (0,0)) (by (with_reducible repeat (first|refine zz07 ?_ _|refine zz09 ?_|refine zz08 ?_ _));refine zz33 ?_ NB369_377.out _;(with_reducible repeat (first|refine zz07 ?_ _|refine zz09 ?_|refine zz08 ?_ _));refine zz33 ?_ NB369_377.out _;(with_reducible repeat (first|refine zz07 ?_ _|refine zz09 ?_|refine zz08 ?_ _));exact BK369.out)) : gb369 ≠ gb378));have n7_:=zz00 ((by rw [hg];exact Nat.ne_of_gt (blk_lt (g:=gb369) (o:=.cells #[.int .i64 0,.int .i64 0,.bool false,.int .i64 0] 34 (0,0)) (by (with_reducible repeat (first|refine zz07 ?_ _|refine zz09 ?_|refine zz08 ?_ _));refine zz33 ?_ NB369_377.out _;(with_reducible repeat (first|refine zz07 ?_ _|refine zz09 ?_|refine zz08 ?_ _));refine zz33 ?_ NB369_377.out _;(with_reducible repeat (first|refine zz07 ?_ _|refine zz09 ?_|refine zz08 ?_ _));exact BK369.out)) : gb378 ≠ gb369));have n8_:=zz00 ((by rw [hg];exact Nat.ne_of_lt (blk_lt (g:=gb377) (o:=.cells #[.int .i64 t374,.bool t375] 32 (0,0)) (by (with_reducible repeat (first|refine zz07 ?_ _|refine zz09 ?_|refine zz08 ?_ _));refine zz35 (cs:=#[.int .i64 t374,.bool false]) ?_ 1 _ rfl;(with_reducible repeat (first|refine zz07 ?_ _|refine zz09 ?_|refine zz08 ?_ _));refine zz35 (cs:=#[.int .i64 0,.bool false]) ?_ 0 _ rfl;(with_reducible repeat (first|refine zz07 ?_ _|refine zz09 ?_|refine zz08 ?_ _));exact BK377.out)) : gb377 ≠ gb378));have n9_:=zz00 ((by rw [hg];exact Nat.ne_of_gt (blk_lt (g:=gb377) (o:=.cells #[.int .i64 t374,.bool t375] 32 (0,0)) (by (with_reducible repeat (first|refine zz07 ?_ _|refine zz09 ?_|refine zz08 ?_ _));refine zz35 (cs:=#[.int .i64 t374,.bool false]) ?_ 1 _ rfl;(with_reducible repeat (first|refine zz07 ?_ _|refine zz09 ?_|refine zz08 ?_ _));refine zz35 (cs:=#[.int .i64 0,.bool false]) ?_ 0 _ rfl;(with_reducible repeat (first|refine zz07 ?_ _|refine zz09 ?_|refine zz08 ?_ _));exact BK377.out)) : gb378 ≠ gb377));clear BK369;clear BK377;clear HB;have BK369:=n0_;have BK377:=n1_;have HB:=n2_;have BK378:=n3_;have GW378:=n4_;have GE378:=n5_;have NB369_378:=n6_;have NB378_369:=n7_;have NB377_378:=n8_;have NB378_377:=n9_;clear n0_ n1_ n2_ n3_ n4_ n5_ n6_ n7_ n8_ n9_;clear hb hbox hg;have hnb36:=NB378_369.out;have hnc36:=NB369_378.out;have hnb37:=NB378_377.out;have hnc37:=NB377_378.out;have hcz38_0 : w35.cell? ⟨gb378,0,none⟩ = some (.int .i64 0):=(zz18 BK378.out 0).trans rfl;have hcz38_1 : w35.cell? ⟨gb378,1,none⟩ = some (.int .i64 0):=(zz18 BK378.out 1).trans rfl;have hcz38_2 : w35.cell? ⟨gb378,2,none⟩ = some (.bool false):=(zz18 BK378.out 2).trans rfl;have hcz38_3 : w35.cell? ⟨gb378,3,none⟩ = some (.int .i64 0):=(zz18 BK378.out 3).trans rfl;have hfz38_0:=zz17 BK378.out 0;have hfz38_1:=zz17 BK378.out 1;have hfz38_2:=zz17 BK378.out 2;have hfz38_3:=zz17 BK378.out 3)|((with_reducible refine zz23 (f:=22) rfl ?_);refine zz25 (some 77) rfl rfl Tryz.func22 (by kernel_rfl) rfl #[.agg #[.int .i64 t372,.int .i64 t374,.bool t375,.int .i64 t370]] rfl (by (try simp only [List.map_toArray,List.map_cons,List.map_nil]);first|done|rfl|(simp only [List.length_drop,List.length_take];rfl)) ?_;(with_reducible refine (almanackerref10_Check.calls kj18 t372 t374 t375 t370 t379 _ A29.out).mono ?_);rintro e w39 ⟨rfl,hb⟩;refine ⟨_,rfl,?_⟩;have n0_:=zz00 (zz34 (g:=gb369) (o:=.cells #[.int .i64 0,.int .i64 0,.bool false,.int .i64 0] 34 (0,0)) (by (with_reducible repeat (first|refine zz07 ?_ _|refine zz09 ?_|refine zz08 ?_ _));refine zz33 ?_ NB369_378.out _;(with_reducible repeat (first|refine zz07 ?_ _|refine zz09 ?_|refine zz08 ?_ _));refine zz33 ?_ NB369_378.out _;(with_reducible repeat (first|refine zz07 ?_ _|refine zz09 ?_|refine zz08 ?_ _));refine zz33 ?_ NB369_378.out _;(with_reducible repeat (first|refine zz07 ?_ _|refine zz09 ?_|refine zz08 ?_ _));refine zz33 ?_ NB369_378.out _;(with_reducible repeat (first|refine zz07 ?_ _|refine zz09 ?_|refine zz08 ?_ _));exact BK369.out) hb);have n1_:=zz00 (zz34 (g:=gb377) (o:=.cells #[.int .i64 t374,.bool t375] 32 (0,0)) (by (with_reducible repeat (first|refine zz07 ?_ _|refine zz09 ?_|refine zz08 ?_ _));refine zz33 ?_ NB377_378.out _;(with_reducible repeat (first|refine zz07 ?_ _|refine zz09 ?_|refine zz08 ?_ _));refine zz33 ?_ NB377_378.out _;(with_reducible repeat (first|refine zz07 ?_ _|refine zz09 ?_|refine zz08 ?_ _));refine zz33 ?_ NB377_378.out _;(with_reducible repeat (first|refine zz07 ?_ _|refine zz09 ?_|refine zz08 ?_ _));refine zz33 ?_ NB377_378.out _;(with_reducible repeat (first|refine zz07 ?_ _|refine zz09 ?_|refine zz08 ?_ _));exact BK377.out) hb);have n2_:=zz00 (zz34 (g:=gb378) (o:=.cells #[.int .i64 t372,.int .i64 t374,.bool t375,.int .i64 t370] 34 (0,0)) (by (with_reducible repeat (first|refine zz07 ?_ _|refine zz09 ?_|refine zz08 ?_ _));refine zz35 (cs:=#[.int .i64 t372,.int .i64 t374,.bool t375,.int .i64 0]) ?_ 3 _ rfl;(with_reducible repeat (first|refine zz07 ?_ _|refine zz09 ?_|refine zz08 ?_ _));refine zz35 (cs:=#[.int .i64 t372,.int .i64 t374,.bool false,.int .i64 0]) ?_ 2 _ rfl;(with_reducible repeat (first|refine zz07 ?_ _|refine zz09 ?_|refine zz08 ?_ _));refine zz35 (cs:=#[.int .i64 t372,.int .i64 0,.bool false,.int .i64 0]) ?_ 1 _ rfl;(with_reducible repeat (first|refine zz07 ?_ _|refine zz09 ?_|refine zz08 ?_ _));refine zz35 (cs:=#[.int .i64 0,.int .i64 0,.bool false,.int .i64 0]) ?_ 0 _ rfl;(with_reducible repeat (first|refine zz07 ?_ _|refine zz09 ?_|refine zz08 ?_ _));exact BK378.out) hb);have n3_:=zz00 (zz21 (by repeat (first|(with_reducible first|exact HB.out|apply zz03|apply zz01|apply zz02|refine zz10 ?_ GE369.out|refine zz10 ?_ GE377.out|refine zz10 ?_ GE378.out)|exact HB.out)) hb);clear BK369;clear BK377;clear BK378;clear HB;have BK369:=n0_;have BK377:=n1_;have BK378:=n2_;have HB:=n3_;clear n0_ n1_ n2_ n3_;(try clear hb);(try clear hb2);(try clear hk);(try clear hi);have hcz40_0 : w39.cell? ⟨gb378,0,none⟩ = some (.int .i64 t372):=(zz18 BK378.out 0).trans rfl;have hcz40_1 : w39.cell? ⟨gb378,1,none⟩ = some (.int .i64 t374):=(zz18 BK378.out 1).trans rfl;have hcz40_2 : w39.cell? ⟨gb378,2,none⟩ = some (.bool t375):=(zz18 BK378.out 2).trans rfl;have hcz40_3 : w39.cell? ⟨gb378,3,none⟩ = some (.int .i64 t370):=(zz18 BK378.out 3).trans rfl;have hfz40_0:=zz17 BK378.out 0;have hfz40_1:=zz17 BK378.out 1;have hfz40_2:=zz17 BK378.out 2;have hfz40_3:=zz17 BK378.out 3;have hcz41_0 : w39.cell? ⟨gb369,0,none⟩ = some (.int .i64 0):=(zz18 BK369.out 0).trans rfl;have hcz41_1 : w39.cell? ⟨gb369,1,none⟩ = some (.int .i64 0):=(zz18 BK369.out 1).trans rfl;have hcz41_2 : w39.cell? ⟨gb369,2,none⟩ = some (.bool false):=(zz18 BK369.out 2).trans rfl;have hcz41_3 : w39.cell? ⟨gb369,3,none⟩ = some (.int .i64 0):=(zz18 BK369.out 3).trans rfl;have hfz41_0:=zz17 BK369.out 0;have hfz41_1:=zz17 BK369.out 1;have hfz41_2:=zz17 BK369.out 2;have hfz41_3:=zz17 BK369.out 3))
                   refine bodyPost_ret (results_ct rfl _ _ gb369 34 #[.int .i64 t372,.int .i64 t374,.bool t375,.int .i64 t370] (0,0) _ rfl (by (with_reducible repeat (first|refine zz07 ?_ _|refine zz09 ?_|refine zz08 ?_ _));refine zz35 (cs:=#[.int .i64 t372,.int .i64 t374,.bool t375,.int .i64 0]) ?_ 3 _ rfl;(with_reducible repeat (first|refine zz07 ?_ _|refine zz09 ?_|refine zz08 ?_ _));refine zz35 (cs:=#[.int .i64 t372,.int .i64 t374,.bool false,.int .i64 0]) ?_ 2 _ rfl;(with_reducible repeat (first|refine zz07 ?_ _|refine zz09 ?_|refine zz08 ?_ _));refine zz35 (cs:=#[.int .i64 t372,.int .i64 0,.bool false,.int .i64 0]) ?_ 1 _ rfl;(with_reducible repeat (first|refine zz07 ?_ _|refine zz09 ?_|refine zz08 ?_ _));refine zz35 (cs:=#[.int .i64 0,.int .i64 0,.bool false,.int .i64 0]) ?_ 0 _ rfl;(with_reducible repeat (first|refine zz07 ?_ _|refine zz09 ?_|refine zz08 ?_ _));exact BK369.out) Tryz.underlying34 rfl (by kernel_rfl)) rfl ?_
                   exact ⟨by first|rfl|(simp [errW_none,errW_some] <;> rfl)|(simp only [← hji15,← hji23];first|rfl|(simp [errW_none,errW_some] <;> rfl))|(simp [*,errW_none,errW_some] <;> rfl),by repeat (first|(with_reducible first|exact HB.out|apply zz03|apply zz01|apply zz02|refine zz10 ?_ GE369.out|refine zz10 ?_ GE377.out|refine zz10 ?_ GE378.out)|exact HB.out)⟩
                  ·
                   rw [if_neg c30] at H
                   have c30b0 : (t379 == 0) = false := zz27.mpr c30
                   have c30b1 : (t379 != 0) = true := zz28.mpr c30
                   simp only [zz15, zz16] at H
                   obtain ⟨rfl, rfl, rfl, rfl, rfl⟩ := H
                   go_wp2_with (first|((with_reducible refine zz23 (f:=59) rfl ?_);refine zz25 (some 65) rfl rfl Tryz.func59 (by kernel_rfl) rfl #[.string (a0.extract ((ji23) : Int).toNat (x5_1 : Int).toNat),.int .i64 t372] rfl (by (try simp only [List.map_toArray,List.map_cons,List.map_nil]);first|done|(simp only [hji23];rfl)|rfl|(simp only [List.length_drop,List.length_take];rfl)) ?_;(with_reducible refine (almanackerref14_code.calls kj18 (a0.extract ((ji23) : Int).toNat (x5_1 : Int).toNat) t372 t374 t375 t376 _ A27.out).mono ?_);rintro e w42 ⟨rfl,hb⟩;refine ⟨_,rfl,?_⟩;have n0_:=zz00 (zz34 (g:=gb369) (o:=.cells #[.int .i64 0,.int .i64 0,.bool false,.int .i64 0] 34 (0,0)) (by (with_reducible repeat (first|refine zz07 ?_ _|refine zz09 ?_|refine zz08 ?_ _));exact BK369.out) hb);have n1_:=zz00 (zz21 (by repeat (first|(with_reducible first|exact HB.out|apply zz03|apply zz01|apply zz02|refine zz10 ?_ GE369.out)|exact HB.out)) hb);clear BK369;clear HB;have BK369:=n0_;have HB:=n1_;clear n0_ n1_;(try clear hb);(try clear hb2);(try clear hk);(try clear hi))|((with_reducible refine zz24 (N:=11) rfl ?_);refine zz30 ?hg (N:=11) ?hd (cs:=#[.int .i64 0,.bool false]) (t:=32) ?hr ?_;(case hd=>rfl);(case hg=>rfl);(case hr=>first|(go_simp;done)|(go_simp;rfl));intro gb377 hg w43 hbox hb;have n0_:=zz00 (zz34 (g:=gb369) (o:=.cells #[.int .i64 0,.int .i64 0,.bool false,.int .i64 0] 34 (0,0)) (by (with_reducible repeat (first|refine zz07 ?_ _|refine zz09 ?_|refine zz08 ?_ _));exact BK369.out) hb);have n1_:=zz00 (zz21 (by repeat (first|(with_reducible first|exact HB.out|apply zz03|apply zz01|apply zz02|refine zz10 ?_ GE369.out)|exact HB.out)) hb);have n2_:=zz00 (hbox);have n3_:=zz00 ((by rw [hg];exact (zz22 (by repeat (first|(with_reducible first|exact HB.out|apply zz03|apply zz01|apply zz02|refine zz10 ?_ GE369.out)|exact HB.out))) : w.heap.size ≤ gb377));have n4_:=zz00 ((by rw [hg];exact (zz22 (by repeat (first|(with_reducible first|exact HB.out|apply zz03|apply zz01|apply zz02|refine zz10 ?_ GE369.out)|exact HB.out))) : w.heap.size ≤ gb377));have n5_:=zz00 ((by rw [hg];exact Nat.ne_of_lt (blk_lt (g:=gb369) (o:=.cells #[.int .i64 0,.int .i64 0,.bool false,.int .i64 0] 34 (0,0)) (by (with_reducible repeat (first|refine zz07 ?_ _|refine zz09 ?_|refine zz08 ?_ _));exact BK369.out)) : gb369 ≠ gb377));have n6_:=zz00 ((by rw [hg];exact Nat.ne_of_gt (blk_lt (g:=gb369) (o:=.cells #[.int .i64 0,.int .i64 0,.bool false,.int .i64 0] 34 (0,0)) (by (with_reducible repeat (first|refine zz07 ?_ _|refine zz09 ?_|refine zz08 ?_ _));exact BK369.out)) : gb377 ≠ gb369));clear BK369;clear HB;have BK369:=n0_;have HB:=n1_;have BK377:=n2_;have GW377:=n3_;have GE377:=n4_;have NB369_377:=n5_;have NB377_369:=n6_;clear n0_ n1_ n2_ n3_ n4_ n5_ n6_;clear hb hbox hg;have hnb44:=NB377_369.out;have hnc44:=NB369_377.out;have hcz45_0 : w43.cell? ⟨gb377,0,none⟩ = some (.int .i64 0):=(zz18 BK377.out 0).trans rfl;have hcz45_1 : w43.cell? ⟨gb377,1,none⟩ = some (.bool false):=(zz18 BK377.out 1).trans rfl;have hfz45_0:=zz17 BK377.out 0;have hfz45_1:=zz17 BK377.out 1)|((with_reducible refine zz24 (N:=13) rfl ?_);refine zz30 ?hg (N:=13) ?hd (cs:=#[.int .i64 0,.int .i64 0,.bool false,.int .i64 0]) (t:=34) ?hr ?_;(case hd=>rfl);(case hg=>rfl);(case hr=>first|(go_simp;done)|(go_simp;rfl));intro gb378 hg w46 hbox hb;have n0_:=zz00 (zz34 (g:=gb369) (o:=.cells #[.int .i64 0,.int .i64 0,.bool false,.int .i64 0] 34 (0,0)) (by (with_reducible repeat (first|refine zz07 ?_ _|refine zz09 ?_|refine zz08 ?_ _));refine zz33 ?_ NB369_377.out _;(with_reducible repeat (first|refine zz07 ?_ _|refine zz09 ?_|refine zz08 ?_ _));refine zz33 ?_ NB369_377.out _;(with_reducible repeat (first|refine zz07 ?_ _|refine zz09 ?_|refine zz08 ?_ _));exact BK369.out) hb);have n1_:=zz00 (zz34 (g:=gb377) (o:=.cells #[.int .i64 t374,.bool t375] 32 (0,0)) (by (with_reducible repeat (first|refine zz07 ?_ _|refine zz09 ?_|refine zz08 ?_ _));refine zz35 (cs:=#[.int .i64 t374,.bool false]) ?_ 1 _ rfl;(with_reducible repeat (first|refine zz07 ?_ _|refine zz09 ?_|refine zz08 ?_ _));refine zz35 (cs:=#[.int .i64 0,.bool false]) ?_ 0 _ rfl;(with_reducible repeat (first|refine zz07 ?_ _|refine zz09 ?_|refine zz08 ?_ _));exact BK377.out) hb);have n2_:=zz00 (zz21 (by repeat (first|(with_reducible first|exact HB.out|apply zz03|apply zz01|apply zz02|refine zz10 ?_ GE369.out|refine zz10 ?_ GE377.out)|exact HB.out)) hb);have n3_:=zz00 (hbox);have n4_:=zz00 ((by rw [hg];exact (zz22 (by repeat (first|(with_reducible first|exact HB.out|apply zz03|apply zz01|apply zz02|refine zz10 ?_ GE369.out|refine zz10 ?_ GE377.out)|exact HB.out))) : w.heap.size ≤ gb378));have n5_:=zz00 ((by rw [hg];exact (zz22 (by repeat (first|(with_reducible first|exact HB.out|apply zz03|apply zz01|apply zz02|refine zz10 ?_ GE369.out|refine zz10 ?_ GE377.out)|exact HB.out))) : w.heap.size ≤ gb378));have n6_:=zz00 ((by rw [hg];exact Nat.ne_of_lt (blk_lt (g:=gb369) (o:=.cells #[.int .i64 0,.int .i64 0,.bool false,.int .i64 0] 34 (0,0)) (by (with_reducible repeat (first|refine zz07 ?_ _|refine zz09 ?_|refine zz08 ?_ _));refine zz33 ?_ NB369_377.out _;(with_reducible repeat (first|refine zz07 ?_ _|refine zz09 ?_|refine zz08 ?_ _));refine zz33 ?_ NB369_377.out _;(with_reducible repeat (first|refine zz07 ?_ _|refine zz09 ?_|refine zz08 ?_ _));exact BK369.out)) : gb369 ≠ gb378));have n7_:=zz00 ((by rw [hg];exact Nat.ne_of_gt (blk_lt (g:=gb369) (o:=.cells #[.int .i64 0,.int .i64 0,.bool false,.int .i64 0] 34 (0,0)) (by (with_reducible repeat (first|refine zz07 ?_ _|refine zz09 ?_|refine zz08 ?_ _));refine zz33 ?_ NB369_377.out _;(with_reducible repeat (first|refine zz07 ?_ _|refine zz09 ?_|refine zz08 ?_ _));refine zz33 ?_ NB369_377.out _;(with_reducible repeat (first|refine zz07 ?_ _|refine zz09 ?_|refine zz08 ?_ _));exact BK369.out)) : gb378 ≠ gb369));have n8_:=zz00 ((by rw [hg];exact Nat.ne_of_lt (blk_lt (g:=gb377) (o:=.cells #[.int .i64 t374,.bool t375] 32 (0,0)) (by (with_reducible repeat (first|refine zz07 ?_ _|refine zz09 ?_|refine zz08 ?_ _));refine zz35 (cs:=#[.int .i64 t374,.bool false]) ?_ 1 _ rfl;(with_reducible repeat (first|refine zz07 ?_ _|refine zz09 ?_|refine zz08 ?_ _));refine zz35 (cs:=#[.int .i64 0,.bool false]) ?_ 0 _ rfl;(with_reducible repeat (first|refine zz07 ?_ _|refine zz09 ?_|refine zz08 ?_ _));exact BK377.out)) : gb377 ≠ gb378));have n9_:=zz00 ((by rw [hg];exact Nat.ne_of_gt (blk_lt (g:=gb377) (o:=.cells #[.int .i64 t374,.bool t375] 32 (0,0)) (by (with_reducible repeat (first|refine zz07 ?_ _|refine zz09 ?_|refine zz08 ?_ _));refine zz35 (cs:=#[.int .i64 t374,.bool false]) ?_ 1 _ rfl;(with_reducible repeat (first|refine zz07 ?_ _|refine zz09 ?_|refine zz08 ?_ _));refine zz35 (cs:=#[.int .i64 0,.bool false]) ?_ 0 _ rfl;(with_reducible repeat (first|refine zz07 ?_ _|refine zz09 ?_|refine zz08 ?_ _));exact BK377.out)) : gb378 ≠ gb377));clear BK369;clear BK377;clear HB;have BK369:=n0_;have BK377:=n1_;have HB:=n2_;have BK378:=n3_;have GW378:=n4_;have GE378:=n5_;have NB369_378:=n6_;have NB378_369:=n7_;have NB377_378:=n8_;have NB378_377:=n9_;clear n0_ n1_ n2_ n3_ n4_ n5_ n6_ n7_ n8_ n9_;clear hb hbox hg;have hnb47:=NB378_369.out;have hnc47:=NB369_378.out;have hnb48:=NB378_377.out;have hnc48:=NB377_378.out;have hcz49_0 : w46.cell? ⟨gb378,0,none⟩ = some (.int .i64 0):=(zz18 BK378.out 0).trans rfl;have hcz49_1 : w46.cell? ⟨gb378,1,none⟩ = some (.int .i64 0):=(zz18 BK378.out 1).trans rfl;have hcz49_2 : w46.cell? ⟨gb378,2,none⟩ = some (.bool false):=(zz18 BK378.out 2).trans rfl;have hcz49_3 : w46.cell? ⟨gb378,3,none⟩ = some (.int .i64 0):=(zz18 BK378.out 3).trans rfl;have hfz49_0:=zz17 BK378.out 0;have hfz49_1:=zz17 BK378.out 1;have hfz49_2:=zz17 BK378.out 2;have hfz49_3:=zz17 BK378.out 3)|((with_reducible refine zz23 (f:=22) rfl ?_);refine zz25 (some 77) rfl rfl Tryz.func22 (by kernel_rfl) rfl #[.agg #[.int .i64 t372,.int .i64 t374,.bool t375,.int .i64 t370]] rfl (by (try simp only [List.map_toArray,List.map_cons,List.map_nil]);first|done|rfl|(simp only [List.length_drop,List.length_take];rfl)) ?_;(with_reducible refine (almanackerref10_Check.calls kj18 t372 t374 t375 t370 t379 _ A29.out).mono ?_);rintro e w50 ⟨rfl,hb⟩;refine ⟨_,rfl,?_⟩;have n0_:=zz00 (zz34 (g:=gb369) (o:=.cells #[.int .i64 0,.int .i64 0,.bool false,.int .i64 0] 34 (0,0)) (by (with_reducible repeat (first|refine zz07 ?_ _|refine zz09 ?_|refine zz08 ?_ _));refine zz33 ?_ NB369_378.out _;(with_reducible repeat (first|refine zz07 ?_ _|refine zz09 ?_|refine zz08 ?_ _));refine zz33 ?_ NB369_378.out _;(with_reducible repeat (first|refine zz07 ?_ _|refine zz09 ?_|refine zz08 ?_ _));refine zz33 ?_ NB369_378.out _;(with_reducible repeat (first|refine zz07 ?_ _|refine zz09 ?_|refine zz08 ?_ _));refine zz33 ?_ NB369_378.out _;(with_reducible repeat (first|refine zz07 ?_ _|refine zz09 ?_|refine zz08 ?_ _));exact BK369.out) hb);have n1_:=zz00 (zz34 (g:=gb377) (o:=.cells #[.int .i64 t374,.bool t375] 32 (0,0)) (by (with_reducible repeat (first|refine zz07 ?_ _|refine zz09 ?_|refine zz08 ?_ _));refine zz33 ?_ NB377_378.out _;(with_reducible repeat (first|refine zz07 ?_ _|refine zz09 ?_|refine zz08 ?_ _));refine zz33 ?_ NB377_378.out _;(with_reducible repeat (first|refine zz07 ?_ _|refine zz09 ?_|refine zz08 ?_ _));refine zz33 ?_ NB377_378.out _;(with_reducible repeat (first|refine zz07 ?_ _|refine zz09 ?_|refine zz08 ?_ _));refine zz33 ?_ NB377_378.out _;(with_reducible repeat (first|refine zz07 ?_ _|refine zz09 ?_|refine zz08 ?_ _));exact BK377.out) hb);have n2_:=zz00 (zz34 (g:=gb378) (o:=.cells #[.int .i64 t372,.int .i64 t374,.bool t375,.int .i64 t370] 34 (0,0)) (by (with_reducible repeat (first|refine zz07 ?_ _|refine zz09 ?_|refine zz08 ?_ _));refine zz35 (cs:=#[.int .i64 t372,.int .i64 t374,.bool t375,.int .i64 0]) ?_ 3 _ rfl;(with_reducible repeat (first|refine zz07 ?_ _|refine zz09 ?_|refine zz08 ?_ _));refine zz35 (cs:=#[.int .i64 t372,.int .i64 t374,.bool false,.int .i64 0]) ?_ 2 _ rfl;(with_reducible repeat (first|refine zz07 ?_ _|refine zz09 ?_|refine zz08 ?_ _));refine zz35 (cs:=#[.int .i64 t372,.int .i64 0,.bool false,.int .i64 0]) ?_ 1 _ rfl;(with_reducible repeat (first|refine zz07 ?_ _|refine zz09 ?_|refine zz08 ?_ _));refine zz35 (cs:=#[.int .i64 0,.int .i64 0,.bool false,.int .i64 0]) ?_ 0 _ rfl;(with_reducible repeat (first|refine zz07 ?_ _|refine zz09 ?_|refine zz08 ?_ _));exact BK378.out) hb);have n3_:=zz00 (zz21 (by repeat (first|(with_reducible first|exact HB.out|apply zz03|apply zz01|apply zz02|refine zz10 ?_ GE369.out|refine zz10 ?_ GE377.out|refine zz10 ?_ GE378.out)|exact HB.out)) hb);clear BK369;clear BK377;clear BK378;clear HB;have BK369:=n0_;have BK377:=n1_;have BK378:=n2_;have HB:=n3_;clear n0_ n1_ n2_ n3_;(try clear hb);(try clear hb2);(try clear hk);(try clear hi);have hcz51_0 : w50.cell? ⟨gb369,0,none⟩ = some (.int .i64 0):=(zz18 BK369.out 0).trans rfl;have hcz51_1 : w50.cell? ⟨gb369,1,none⟩ = some (.int .i64 0):=(zz18 BK369.out 1).trans rfl;have hcz51_2 : w50.cell? ⟨gb369,2,none⟩ = some (.bool false):=(zz18 BK369.out 2).trans rfl;have hcz51_3 : w50.cell? ⟨gb369,3,none⟩ = some (.int .i64 0):=(zz18 BK369.out 3).trans rfl;have hfz51_0:=zz17 BK369.out 0;have hfz51_1:=zz17 BK369.out 1;have hfz51_2:=zz17 BK369.out 2;have hfz51_3:=zz17 BK369.out 3))
                   refine bodyPost_ret (results_ct rfl _ _ gb369 34 #[.int .i64 0,.int .i64 0,.bool false,.int .i64 0] (0,0) _ rfl (by (with_reducible repeat (first|refine zz07 ?_ _|refine zz09 ?_|refine zz08 ?_ _));refine zz35 (cs:=#[.int .i64 0,.int .i64 0,.bool false,.int .i64 0]) ?_ 3 _ rfl;(with_reducible repeat (first|refine zz07 ?_ _|refine zz09 ?_|refine zz08 ?_ _));refine zz35 (cs:=#[.int .i64 0,.int .i64 0,.bool false,.int .i64 0]) ?_ 2 _ rfl;(with_reducible repeat (first|refine zz07 ?_ _|refine zz09 ?_|refine zz08 ?_ _));refine zz35 (cs:=#[.int .i64 0,.int .i64 0,.bool false,.int .i64 0]) ?_ 1 _ rfl;(with_reducible repeat (first|refine zz07 ?_ _|refine zz09 ?_|refine zz08 ?_ _));refine zz35 (cs:=#[.int .i64 0,.int .i64 0,.bool false,.int .i64 0]) ?_ 0 _ rfl;(with_reducible repeat (first|refine zz07 ?_ _|refine zz09 ?_|refine zz08 ?_ _));exact BK369.out) Tryz.underlying34 rfl (by kernel_rfl)) rfl ?_
                   exact ⟨by first|rfl|(simp [errW_none,errW_some] <;> rfl)|(simp only [← hji15,← hji23];first|rfl|(simp [errW_none,errW_some] <;> rfl))|(simp [*,errW_none,errW_some] <;> rfl),by repeat (first|(with_reducible first|exact HB.out|apply zz03|apply zz01|apply zz02|refine zz10 ?_ GE369.out|refine zz10 ?_ GE377.out|refine zz10 ?_ GE378.out)|exact HB.out)⟩
                 ·
                  rw [if_neg c28] at H
                  have c28b0 : (t376 == 0) = false := zz27.mpr c28
                  have c28b1 : (t376 != 0) = true := zz28.mpr c28
                  simp only [zz15, zz16] at H
                  obtain ⟨rfl, rfl, rfl, rfl, rfl⟩ := H
                  go_wp2_with (first|((with_reducible refine zz23 (f:=59) rfl ?_);refine zz25 (some 65) rfl rfl Tryz.func59 (by kernel_rfl) rfl #[.string (a0.extract ((ji23) : Int).toNat (x5_1 : Int).toNat),.int .i64 t372] rfl (by (try simp only [List.map_toArray,List.map_cons,List.map_nil]);first|done|(simp only [hji23];rfl)|rfl|(simp only [List.length_drop,List.length_take];rfl)) ?_;(with_reducible refine (almanackerref14_code.calls kj18 (a0.extract ((ji23) : Int).toNat (x5_1 : Int).toNat) t372 t374 t375 t376 _ A27.out).mono ?_);rintro e w52 ⟨rfl,hb⟩;refine ⟨_,rfl,?_⟩;have n0_:=zz00 (zz34 (g:=gb369) (o:=.cells #[.int .i64 0,.int .i64 0,.bool false,.int .i64 0] 34 (0,0)) (by (with_reducible repeat (first|refine zz07 ?_ _|refine zz09 ?_|refine zz08 ?_ _));exact BK369.out) hb);have n1_:=zz00 (zz21 (by repeat (first|(with_reducible first|exact HB.out|apply zz03|apply zz01|apply zz02|refine zz10 ?_ GE369.out)|exact HB.out)) hb);clear BK369;clear HB;have BK369:=n0_;have HB:=n1_;clear n0_ n1_;(try clear hb);(try clear hb2);(try clear hk);(try clear hi))|((with_reducible refine zz24 (N:=11) rfl ?_);refine zz30 ?hg (N:=11) ?hd (cs:=#[.int .i64 0,.bool false]) (t:=32) ?hr ?_;(case hd=>rfl);(case hg=>rfl);(case hr=>first|(go_simp;done)|(go_simp;rfl));intro gb377 hg w53 hbox hb;have n0_:=zz00 (zz34 (g:=gb369) (o:=.cells #[.int .i64 0,.int .i64 0,.bool false,.int .i64 0] 34 (0,0)) (by (with_reducible repeat (first|refine zz07 ?_ _|refine zz09 ?_|refine zz08 ?_ _));exact BK369.out) hb);have n1_:=zz00 (zz21 (by repeat (first|(with_reducible first|exact HB.out|apply zz03|apply zz01|apply zz02|refine zz10 ?_ GE369.out)|exact HB.out)) hb);have n2_:=zz00 (hbox);have n3_:=zz00 ((by rw [hg];exact (zz22 (by repeat (first|(with_reducible first|exact HB.out|apply zz03|apply zz01|apply zz02|refine zz10 ?_ GE369.out)|exact HB.out))) : w.heap.size ≤ gb377));have n4_:=zz00 ((by rw [hg];exact (zz22 (by repeat (first|(with_reducible first|exact HB.out|apply zz03|apply zz01|apply zz02|refine zz10 ?_ GE369.out)|exact HB.out))) : w.heap.size ≤ gb377));have n5_:=zz00 ((by rw [hg];exact Nat.ne_of_lt (blk_lt (g:=gb369) (o:=.cells #[.int .i64 0,.int .i64 0,.bool false,.int .i64 0] 34 (0,0)) (by (with_reducible repeat (first|refine zz07 ?_ _|refine zz09 ?_|refine zz08 ?_ _));exact BK369.out)) : gb369 ≠ gb377));have n6_:=zz00 ((by rw [hg];exact Nat.ne_of_gt (blk_lt (g:=gb369) (o:=.cells #[.int .i64 0,.int .i64 0,.bool false,.int .i64 0] 34 (0,0)) (by (with_reducible repeat (first|refine zz07 ?_ _|refine zz09 ?_|refine zz08 ?_ _));exact BK369.out)) : gb377 ≠ gb369));clear BK369;clear HB;have BK369:=n0_;have HB:=n1_;have BK377:=n2_;have GW377:=n3_;have GE377:=n4_;have NB369_377:=n5_;have NB377_369:=n6_;clear n0_ n1_ n2_ n3_ n4_ n5_ n6_;clear hb hbox hg;have hnb54:=NB377_369.out;have hnc54:=NB369_377.out;have hcz55_0 : w53.cell? ⟨gb377,0,none⟩ = some (.int .i64 0):=(zz18 BK377.out 0).trans rfl;have hcz55_1 : w53.cell? ⟨gb377,1,none⟩ = some (.bool false):=(zz18 BK377.out 1).trans rfl;have hfz55_0:=zz17 BK377.out 0;have hfz55_1:=zz17 BK377.out 1;have hcz56_0 : w53.cell? ⟨gb369,0,none⟩ = some (.int .i64 0):=(zz18 BK369.out 0).trans rfl;have hcz56_1 : w53.cell? ⟨gb369,1,none⟩ = some (.int .i64 0):=(zz18 BK369.out 1).trans rfl;have hcz56_2 : w53.cell? ⟨gb369,2,none⟩ = some (.bool false):=(zz18 BK369.out 2).trans rfl;have hcz56_3 : w53.cell? ⟨gb369,3,none⟩ = some (.int .i64 0):=(zz18 BK369.out 3).trans rfl;have hfz56_0:=zz17 BK369.out 0;have hfz56_1:=zz17 BK369.out 1;have hfz56_2:=zz17 BK369.out 2;have hfz56_3:=zz17 BK369.out 3))
                  refine bodyPost_ret (results_ct rfl _ _ gb369 34 #[.int .i64 0,.int .i64 0,.bool false,.int .i64 0] (0,0) _ rfl (by (with_reducible repeat (first|refine zz07 ?_ _|refine zz09 ?_|refine zz08 ?_ _));refine zz35 (cs:=#[.int .i64 0,.int .i64 0,.bool false,.int .i64 0]) ?_ 3 _ rfl;(with_reducible repeat (first|refine zz07 ?_ _|refine zz09 ?_|refine zz08 ?_ _));refine zz35 (cs:=#[.int .i64 0,.int .i64 0,.bool false,.int .i64 0]) ?_ 2 _ rfl;(with_reducible repeat (first|refine zz07 ?_ _|refine zz09 ?_|refine zz08 ?_ _));refine zz35 (cs:=#[.int .i64 0,.int .i64 0,.bool false,.int .i64 0]) ?_ 1 _ rfl;(with_reducible repeat (first|refine zz07 ?_ _|refine zz09 ?_|refine zz08 ?_ _));refine zz35 (cs:=#[.int .i64 0,.int .i64 0,.bool false,.int .i64 0]) ?_ 0 _ rfl;(with_reducible repeat (first|refine zz07 ?_ _|refine zz09 ?_|refine zz08 ?_ _));refine zz33 ?_ NB369_377.out _;(with_reducible repeat (first|refine zz07 ?_ _|refine zz09 ?_|refine zz08 ?_ _));refine zz33 ?_ NB369_377.out _;(with_reducible repeat (first|refine zz07 ?_ _|refine zz09 ?_|refine zz08 ?_ _));exact BK369.out) Tryz.underlying34 rfl (by kernel_rfl)) rfl ?_
                  exact ⟨by first|rfl|(simp [errW_none,errW_some] <;> rfl)|(simp only [← hji15,← hji23];first|rfl|(simp [errW_none,errW_some] <;> rfl))|(simp [*,errW_none,errW_some] <;> rfl),by repeat (first|(with_reducible first|exact HB.out|apply zz03|apply zz01|apply zz02|refine zz10 ?_ GE369.out|refine zz10 ?_ GE377.out)|exact HB.out)⟩
                ·
                 rw [if_neg c26] at H
                 exact absurd H (by simp)
               ·
                rw [if_neg c25] at H
                exact absurd H (by simp)
              ·
               rw [if_neg c24] at H
               exact absurd H (by simp)
          ·
           rw [if_neg c17] at H
           exact absurd H (by simp)
         ·
          rw [if_neg c16] at H
          exact absurd H (by simp)
        ·
         rw [if_neg c13] at H
         exact absurd H (by simp)
       ·
        rw [if_neg c12] at H
        exact absurd H (by simp)

end Go.Proofs.YtflpddhoiafhcaaGreatDoor.R
end
