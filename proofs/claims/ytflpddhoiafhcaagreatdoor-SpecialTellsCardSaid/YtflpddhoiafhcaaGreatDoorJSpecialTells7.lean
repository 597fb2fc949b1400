/- Texts of the proof of 'SpecialTells', joined by a program (part 7): contracts of functions, plain laws. -/
import Derived.Test.YtflpddhoiafhcaaGreatDoorJSpecialTells0
import Derived.Test.YtflpddhoiafhcaaGreatDoorJSpecialTells2
import Derived.Test.YtflpddhoiafhcaaGreatDoorJSpecialTells6
import Derived.Test.YtflpddhoiafhcaaGreatDoorJSpecialTells3
import Derived.Test.YtflpddhoiafhcaaGreatDoorJSpecialTells4
set_option linter.unusedVariables false
set_option linter.unusedSimpArgs false
section
-- Written by wip/hprint.py of this repo (holes typed by hand, all else by a program) over the seat YtflpddhoiafhcaaGreatDoor.
namespace Go.Proofs.YtflpddhoiafhcaaGreatDoor.S
open Go.Proofs.YtflpddhoiafhcaaGreatDoor.H
open Go.RowKit Go.Proofs.YtflpddhoiafhcaaGreatDoorW.PrintWords Go.Proofs.YtflpddhoiafhcaaGreatDoorW.PrintLast Go.Proofs.YtflpddhoiafhcaaGreatDoorW.PrintMore
attribute [local go_sem] max2_int min2_int max_two min_two max_three min_three max_four min_four   -- for this text's walks alone
set_option linter.unusedVariables false
set_option linter.unusedSimpArgs false

mutual
def almanackerref19_Sort.l0 : Nat → List (S57) → List (S57) → Int → Option ((List (S57)))
  | 0, _, _, _ => none
  | k + 1, x0, x3, x4 => if x4 < (x0.length : Int) then (almanackerref19_Sort.l1 k x0 x3 x4 (x3.length : Int)) else (some x3)
def almanackerref19_Sort.l1 : Nat → List (S57) → List (S57) → Int → Int → Option ((List (S57)))
  | 0, _, _, _, _ => none
  | k + 1, x0, x3, x4, x5 => if x5 > 0 then (if 0 ≤ x4 then (if x4 < (x0.length : Int) then (if 0 ≤ (wrap64 (x5 - 1)) then (if (wrap64 (x5 - 1)) < (x3.length : Int) then ((almanackerref19_before.f ((rd_T57 x0 x4).f0) ((rd_T57 x0 x4).f1) ((rd_T57 x3 (wrap64 (x5 - 1))).f0) ((rd_T57 x3 (wrap64 (x5 - 1))).f1)).bind fun t365 => (if t365 = true then (almanackerref19_Sort.l1 k x0 x3 x4 (wrap64 (x5 - 1))) else ((some (([] : List (S57)) : List (S57))).bind fun y366 => (if 0 ≤ x5 then (if x5 ≤ (x3.length : Int) then ((some (x3.drop (x5 : Int).toNat : List (S57))).bind fun y369 => (if y366.length + y369.length < 8796093022208 then ((some (y366 ++ y369 : List (S57))).bind fun y373 => ((some (x3.take (x5 : Int).toNat : List (S57))).bind fun y376 => (if y376.length < 8796093022208 then ((some (y376 ++ [(⟨(rd_T57 x0 x4).f0, (rd_T57 x0 x4).f1⟩ : S57)] : List (S57))).bind fun y380 => (if y380.length + y373.length < 8796093022208 then (almanackerref19_Sort.l0 k x0 (y380 ++ y373) (wrap64 (x4 + 1))) else (none))) else (none)))) else (none))) else (none)) else (none))))) else (none)) else (none)) else (none)) else (none)) else ((some (([] : List (S57)) : List (S57))).bind fun y386 => (if 0 ≤ x5 then (if x5 ≤ (x3.length : Int) then ((some (x3.drop (x5 : Int).toNat : List (S57))).bind fun y389 => (if y386.length + y389.length < 8796093022208 then ((some (y386 ++ y389 : List (S57))).bind fun y393 => ((some (x3.take (x5 : Int).toNat : List (S57))).bind fun y396 => (if 0 ≤ x4 then (if x4 < (x0.length : Int) then (if y396.length < 8796093022208 then ((some (y396 ++ [(⟨(rd_T57 x0 x4).f0, (rd_T57 x0 x4).f1⟩ : S57)] : List (S57))).bind fun y400 => (if y400.length + y393.length < 8796093022208 then (almanackerref19_Sort.l0 k x0 (y400 ++ y393) (wrap64 (x4 + 1))) else (none))) else (none)) else (none)) else (none)))) else (none))) else (none)) else (none)))
end
def almanackerref19_Sort.f (k : Nat) (l0 : List (S57)) : Option ((List (S57))) := almanackerref19_Sort.l0 k l0 ([] : List (S57)) 0
theorem almanackerref19_Sort.mono_l : ∀ k, (∀ y0 y1 y2, LeO (almanackerref19_Sort.l0 k y0 y1 y2) (almanackerref19_Sort.l0 (k + 1) y0 y1 y2)) ∧ (∀ y0 y1 y2 y3, LeO (almanackerref19_Sort.l1 k y0 y1 y2 y3) (almanackerref19_Sort.l1 (k + 1) y0 y1 y2 y3))
 | 0 => ⟨fun _ _ _ r h => by simp [almanackerref19_Sort.l0] at h, fun _ _ _ _ r h => by simp [almanackerref19_Sort.l1] at h⟩
 | k + 1 => by
  obtain ⟨ih0, ih1⟩ := almanackerref19_Sort.mono_l k
  refine ⟨?_, ?_⟩
  ·
   intro y0 y1 y2
   unfold almanackerref19_Sort.l0
   repeat' first
   | (with_reducible exact ih0 _ _ _)
   | (with_reducible exact ih1 _ _ _ _)
   | (with_reducible exact LeO.refl _)
   | (with_reducible exact LeO.none _)
   | (with_reducible refine LeO.ite ?_ ?_)
   | (with_reducible refine LeO.bind ?_ (fun _ => ?_))
   | exact ih0 _ _ _
   | exact ih1 _ _ _ _
   | exact LeO.none _
   | refine LeO.ite ?_ ?_
   | refine LeO.bind ?_ (fun _ => ?_)
  ·
   intro y0 y1 y2 y3
   unfold almanackerref19_Sort.l1
   repeat' first
   | (with_reducible exact ih0 _ _ _)
   | (with_reducible exact ih1 _ _ _ _)
   | (with_reducible exact LeO.refl _)
   | (with_reducible exact LeO.none _)
   | (with_reducible refine LeO.ite ?_ ?_)
   | (with_reducible refine LeO.bind ?_ (fun _ => ?_))
   | exact ih0 _ _ _
   | exact ih1 _ _ _ _
   | exact LeO.none _
   | refine LeO.ite ?_ ?_
   | refine LeO.bind ?_ (fun _ => ?_)
def almanackerref19_Sort.T6 : Bool × List (List Nat × List Nat) := (true, [([], []), ([0], [0]), ([1], [1]), ([2], [2]), ([2], [2]), ([3, 4, 2], [2, 3, 4]), ([5, 2], [2, 5]), ([2], [2]), ([2], [2]), ([8, 2], [2, 8]), ([7, 9, 2], [2, 7, 9]), ([10, 2], [2, 10]), ([6, 11, 2, 2], [2, 6, 11]), ([2, 12], [2, 12])])
def almanackerref19_Sort.B6 : List Nat := [0, 1, 3, 7, 7, 31, 63, 7, 7, 263, 903, 1927, 4095, 8191]
theorem almanackerref19_Sort.tab6 : rtab .any (opsOf Tryz.f39 6) = almanackerref19_Sort.T6 := by kernel_rfl
theorem almanackerref19_Sort.bits6 : waitsOk almanackerref19_Sort.T6.2 almanackerref19_Sort.B6 = true := by kernel_rfl
def almanackerref19_Sort.T9 : Bool × List (List Nat × List Nat) := (true, [([], []), ([], []), ([0, 1], [0, 1]), ([], []), ([], []), ([3, 4], [3, 4]), ([5], [5]), ([6], [6]), ([2, 7], [2, 7]), ([], []), ([8, 9, 8], [8, 9]), ([10, 10, 0, 1, 2, 3, 4, 5, 6, 7, 8, 9, 10], [0, 10])])
def almanackerref19_Sort.B9 : List Nat := [0, 0, 3, 0, 0, 24, 56, 120, 255, 0, 1023, 2047]
theorem almanackerref19_Sort.tab9 : rtab .any (opsOf Tryz.f39 9) = almanackerref19_Sort.T9 := by kernel_rfl
theorem almanackerref19_Sort.bits9 : waitsOk almanackerref19_Sort.T9.2 almanackerref19_Sort.B9 = true := by kernel_rfl
set_option maxHeartbeats 8000000 in
set_option maxRecDepth 100000 in
theorem almanackerref19_Sort.calls (k : Nat) (A0 : Option Addr) (c0 : Nat) (l0 : List (S57)) (r : List (S57)) (w : World) (hr0 : Kd.C k57 w A0 l0.length l0) (hc0 : l0.length ≤ c0) (h : almanackerref19_Sort.f k l0 = some r) :
  Calls Tryz.prog 39 #[.slice A0 l0.length c0] w fun e w' => ∃ v0_ : Value, e = .returned (v0_) ∧ Kd.R k57 57 w' w.heap.size (fun _ => True) v0_ r ∧ Below w.heap.size w w' := by
 have hu57 := Tryz.underlying57
 have HR0 := zz00 hr0
 have HC0 := zz00 hc0
 clear hr0 hc0
 have HB := zz00 (Below.refl w.heap.size w)
 have H : (almanackerref19_Sort.l0 k l0 ([] : List (S57)) 0) = some r := h
 clear h
 have H' := zz00 H
 clear H
 go_enter Tryz.func39, Tryz.ntmps39
 go_wp2
 go_loopg [3,4] k (fun kq v3 v4 w'=>∃ (x3_1 : List (S57)) (x4_1 : Int),v4 = .int .i64 x4_1 ∧ Aside0 (almanackerref19_Sort.l0 kq l0 x3_1 x4_1 = some r) ∧ Aside0 (kq ≤ k) ∧ Aside0 (Kd.R k57 57 w' w.heap.size (fun _=>True) v3 x3_1) ∧ Aside0 (Below w.heap.size w w'))
 case atStart=>exact ⟨(([] : List (S57))),(0),(by first|rfl|(simp;done)|(simp [*];done)),H',⟨Nat.le_refl _⟩,⟨by first|exact Kd.R_nil _ _ _ _ _|exact Kd.N_nil _ _ _ _ _|exact Kd.V_nil _ _ _ _ _|exact Kd.Q_nil _ _ _ _ _|exact Kd.S_nil _ _ _ _ _⟩,⟨by repeat (first|(with_reducible first|exact HB.out|apply zz03|apply zz01|apply zz02)|exact HB.out)⟩⟩
 case round =>
  clear H'
  obtain ⟨x3_1, x4_1, rfl, HA, HK1, HO_3, HB⟩ := hrel
  cases gk with
  | zero => exact absurd HA.out (by simp [almanackerref19_Sort.l0])
  | succ k1 =>
   have H := HA.out
   clear HA
   simp only [almanackerref19_Sort.l0] at H
   by_cases c2 : x4_1 < (l0.length : Int)
   ·
    rw [if_pos c2] at H
    have c2b0 : decide (x4_1 < (l0.length : Int)) = true := decide_eq_true c2
    clear c2
    have H' := zz00 H
    clear H
    obtain ⟨Ao3, co3, eo3⟩ := Kd.R_slice HO_3.out
    subst eo3
    go_wp2
    go_loopg [5] k1 (fun kq v5 w'=>∃ (x5_2 : Int),v5 = .int .i64 x5_2 ∧ Aside0 (almanackerref19_Sort.l1 kq l0 x3_1 x4_1 x5_2 = some r) ∧ Aside0 (kq ≤ k1) ∧ Aside0 (Kd.R k57 57 w' w.heap.size (fun _=>True) (.slice Ao3 x3_1.length co3) x3_1) ∧ Aside0 (Below w.heap.size w w'))
    case atStart=>exact ⟨((x3_1.length : Int)),(by first|rfl|(simp;done)|(simp [*];done)),H',⟨Nat.le_refl _⟩,⟨by (with_reducible repeat (first|apply zz05|apply zz04|apply zz06));exact HO_3.out⟩,⟨by repeat (first|(with_reducible first|exact HB.out|apply zz03|apply zz01|apply zz02)|exact HB.out)⟩⟩
    case round =>
     clear H'
     try clear c2
     try clear c2b0
     try clear p2
     try clear c3
     obtain ⟨x5_2, rfl, HA, HK2, HO_3, HB⟩ := hrel
     cases gk with
     | zero => exact absurd HA.out (by simp [almanackerref19_Sort.l1])
     | succ k2 =>
      have H := HA.out
      clear HA
      simp only [almanackerref19_Sort.l1] at H
      by_cases c4 : x5_2 > 0
      ·
       rw [if_pos c4] at H
       have c4b0 : decide (0 < x5_2) = true := decide_eq_true c4
       clear c4
       by_cases c5 : 0 ≤ x4_1
       ·
        rw [if_pos c5] at H
        have c5b0 : decide (0 ≤ x4_1) = true := decide_eq_true c5
        clear c5
        by_cases c6 : x4_1 < (l0.length : Int)
        ·
         rw [if_pos c6] at H
         have c6b0 : decide (x4_1 < (l0.length : Int)) = true := decide_eq_true c6
         clear c6
         obtain ⟨ji7, hji7⟩ : ∃ j_ : Int, (wrap64 (x5_2 - 1)) = j_ := ⟨_, rfl⟩
         replace H : (if 0 ≤ (ji7) then (if (ji7) < (x3_1.length : Int) then ((almanackerref19_before.f ((rd_T57 l0 x4_1).f0) ((rd_T57 l0 x4_1).f1) ((rd_T57 x3_1 (ji7)).f0) ((rd_T57 x3_1 (ji7)).f1)).bind fun t365=>(if t365 = true then (almanackerref19_Sort.l1 k2 l0 x3_1 x4_1 ji7) else ((some (([] : List (S57)) : List (S57))).bind fun y366=>(if 0 ≤ x5_2 then (if x5_2 ≤ (x3_1.length : Int) then ((some (x3_1.drop (x5_2 : Int).toNat : List (S57))).bind fun y369=>(if y366.length + y369.length < 8796093022208 then ((some (y366 ++ y369 : List (S57))).bind fun y373=>((some (x3_1.take (x5_2 : Int).toNat : List (S57))).bind fun y376=>(if y376.length < 8796093022208 then ((some (y376 ++ [(⟨(rd_T57 l0 x4_1).f0,(rd_T57 l0 x4_1).f1⟩ : S57)] : List (S57))).bind fun y380=>(if y380.length + y373.length < 8796093022208 then (almanackerref19_Sort.l0 k2 l0 (y380 ++ y373) (wrap64 (x4_1 + 1))) else (none))) else (none)))) else (none))) else (none)) else (none))))) else (none)) else (none)) = some r:=by first|(rw [hji7] at H;exact H)|(simp only [hji7] at H ⊢;exact H)
         have hji7w : (IntKind.i64.wrap (x5_2 - 1)) = ji7 := (i64_w _).trans hji7
         by_cases c8 : 0 ≤ (ji7)
         ·
          rw [if_pos c8] at H
          have c8b0 : decide (0 ≤ (ji7)) = true := decide_eq_true c8
          clear c8
          by_cases c9 : (ji7) < (x3_1.length : Int)
          ·
           rw [if_pos c9] at H
           have c9b0 : decide ((ji7) < (x3_1.length : Int)) = true := decide_eq_true c9
           clear c9
           replace H := zz14.mp H
           obtain ⟨t365, A100, H⟩ := H
           replace H : (if t365 = true then (almanackerref19_Sort.l1 k2 l0 x3_1 x4_1 ji7) else ((some (([] : List (S57)) : List (S57))).bind fun y366=>(if 0 ≤ x5_2 then (if x5_2 ≤ (x3_1.length : Int) then ((some (x3_1.drop (x5_2 : Int).toNat : List (S57))).bind fun y369=>(if y366.length + y369.length < 8796093022208 then ((some (y366 ++ y369 : List (S57))).bind fun y373=>((some (x3_1.take (x5_2 : Int).toNat : List (S57))).bind fun y376=>(if y376.length < 8796093022208 then ((some (y376 ++ [(⟨(rd_T57 l0 x4_1).f0,(rd_T57 l0 x4_1).f1⟩ : S57)] : List (S57))).bind fun y380=>(if y380.length + y373.length < 8796093022208 then (almanackerref19_Sort.l0 k2 l0 (y380 ++ y373) (wrap64 (x4_1 + 1))) else (none))) else (none)))) else (none))) else (none)) else (none)))) = some r:=H
           have A10 := zz00 A100
           clear A100
           by_cases c11 : t365 = true
           ·
            subst c11
            have H1 : (almanackerref19_Sort.l1 k2 l0 x3_1 x4_1 ji7) = some r := by rw [if_pos rfl] at H; exact H
            clear H
            have H := H1
            clear H1
            have H' := zz00 H
            clear H
            try go_wp2
            have n0_ := zz00 (zz06 HO_3.out)
            have n1_ := zz00 (zz02 HB.out)
            clear HO_3
            clear HB
            have HO_3 := n0_
            have HB := n1_
            clear n0_ n1_
            have p363 : 0 ≤ (x4_1 : Int) := zz31 (by first | (with_reducible assumption) | assumption)
            have q363 : x4_1 < (l0.length : Int) := zz31 (by first | (with_reducible assumption) | assumption)
            obtain ⟨ad363, e363, hx363_0, hx363_1⟩ := at_T57 HR0.out x4_1 p363 q363
            have hw363_1 := hx363_1
            have hw363_0 := hx363_0
            cases e363
            replace hx363_0 := (HB.out.cell (World.block_lt_of_cell? w _ hx363_0)).trans hx363_0
            replace hx363_1 := (HB.out.cell (World.block_lt_of_cell? w _ hx363_1)).trans hx363_1
            replace p363 := eq_true p363
            replace q363 := eq_true q363
            have p364 : 0 ≤ ((ji7) : Int) := zz31 (by first | (with_reducible assumption) | assumption)
            have q364 : (ji7) < (x3_1.length : Int) := zz31 (by first | (with_reducible assumption) | assumption)
            obtain ⟨ad364, e364, hx364_0, hx364_1⟩ := at_T57 (Kd.R_reads' HO_3.out).2.2 (ji7) p364 q364
            cases e364
            replace p364 := eq_true p364
            replace q364 := eq_true q364
            refine start_ (n:=14) (S:=fun w'=>w'.cell? (ad363.add ((x4_1).toNat * 2)) = some (.int .i64 ((rd_T57 l0 x4_1).f0)) ∧ w'.cell? ⟨(ad363.add ((x4_1).toNat * 2)).block,(ad363.add ((x4_1).toNat * 2)).off + 1,none⟩ = some (.int .i64 ((rd_T57 l0 x4_1).f1)) ∧ w'.cell? (ad364.add (((ji7)).toNat * 2)) = some (.int .i64 ((rd_T57 x3_1 (ji7)).f0)) ∧ w'.cell? ⟨(ad364.add (((ji7)).toNat * 2)).block,(ad364.add (((ji7)).toNat * 2)).off + 1,none⟩ = some (.int .i64 ((rd_T57 x3_1 (ji7)).f1))) (ds:=[]) #[false,false,false,false,false,false,false,false,false,false,false,false,false,false] (by kernel_rfl) rfl rfl ⟨((HB.out.cell (World.block_lt_of_cell? w _ hw363_0)).trans hw363_0),((HB.out.cell (World.block_lt_of_cell? w _ hw363_1)).trans hw363_1),hx364_0,hx364_1⟩ (fun hHeld=>?_);refine with_tabW almanackerref19_Sort.tab6 almanackerref19_Sort.bits6 (fun HT_ HW_=>?_)
            generalize wr.drew = w12 at HO_3 HB hx363_0 hx363_1 hx364_0 hx364_1 hHeld ⊢
            refine pure_ (i:=0) (N:=some 15) (v:=?_) (a':=?_) #[true,false,false,false,false,false,false,false,false,false,false,false,false,false] rfl rfl (any_of HT_.out (by kernel_rfl)) (fun _ _ _ h=>h) (Or.inl ⟨by rfl,?_⟩) ?_ ?_
            rotate_left
            ·
             intro w'
             go_simp
             with_reducible rfl
            rotate_left
            ·
             simp only [Act.put, zz11, zz12, zz13, i64_w, i32_w]
             rfl
            refine pure_ (i:=1) (N:=some 16) (v:=?_) (a':=?_) #[true,true,false,false,false,false,false,false,false,false,false,false,false,false] rfl rfl (any_of HT_.out (by kernel_rfl)) (fun _ _ _ h=>h) (Or.inl ⟨by rfl,?_⟩) ?_ ?_
            rotate_left
            ·
             intro w'
             go_simp
             with_reducible rfl
            rotate_left
            ·
             simp only [Act.put, zz11, zz12, zz13, i64_w, i32_w]
             rfl
            refine pure_ (i:=2) (N:=some 17) (v:=?_) (a':=?_) #[true,true,true,false,false,false,false,false,false,false,false,false,false,false] rfl rfl (any_of HT_.out (by kernel_rfl)) (fun _ _ _ h=>h) (Or.inl ⟨by rfl,?_⟩) ?_ ?_
            rotate_left
            ·
             intro w'
             go_simp
             with_reducible rfl
            rotate_left
            ·
             simp only [Act.put, zz11, zz12, zz13, i64_w, i32_w]
             rfl
            refine pure_ (i:=3) (N:=some 18) (v:=?_) (a':=?_) #[true,true,true,true,false,false,false,false,false,false,false,false,false,false] rfl rfl (any_of HT_.out (by kernel_rfl)) (fun _ _ _ h=>h) (Or.inl ⟨by rfl,?_⟩) ?_ ?_
            rotate_left
            ·
             intro w'
             go_simp
             with_reducible rfl
            rotate_left
            ·
             simp only [Act.put, zz11, zz12, zz13, i64_w, i32_w]
             rfl
            refine pure_ (i:=4) (N:=some 19) (v:=?_) (a':=?_) #[true,true,true,true,true,false,false,false,false,false,false,false,false,false] rfl rfl (any_of HT_.out (by kernel_rfl)) (fun _ _ _ h=>h) (Or.inl ⟨by rfl,?_⟩) ?_ ?_
            rotate_left
            ·
             intro w'
             go_simp
             with_reducible rfl
            rotate_left
            ·
             simp only [Act.put, zz11, zz12, zz13, i64_w, i32_w]
             rfl
            refine pure_ (i:=5) (N:=some 20) (v:=?_) (a':=?_) #[true,true,true,true,true,true,false,false,false,false,false,false,false,false] rfl rfl (any_of HT_.out (by kernel_rfl)) (fun _ _ _ h=>h) (Or.inl ⟨by rfl,?_⟩) ?_ ?_
            rotate_left
            ·
             intro w'
             go_simp
             with_reducible rfl
            rotate_left
            ·
             simp only [Act.put, zz11, zz12, zz13, i64_w, i32_w]
             rfl
            refine pure_ (i:=7) (N:=some 22) (v:=?_) (a':=?_) #[true,true,true,true,true,true,false,true,false,false,false,false,false,false] rfl rfl (any_of HT_.out (by kernel_rfl)) (fun _ _ _ h=>h) (Or.inl ⟨by rfl,?_⟩) ?_ ?_
            rotate_left
            ·
             intro w'
             go_simp
             with_reducible rfl
            rotate_left
            ·
             simp only [Act.put, zz11, zz12, zz13, i64_w, i32_w]
             rfl
            refine pure_ (i:=8) (N:=some 23) (v:=?_) (a':=?_) #[true,true,true,true,true,true,false,true,true,false,false,false,false,false] rfl rfl (any_of HT_.out (by kernel_rfl)) (fun _ _ _ h=>h) (Or.inl ⟨by rfl,?_⟩) ?_ ?_
            rotate_left
            ·
             intro w'
             go_simp
             with_reducible rfl
            rotate_left
            ·
             simp only [Act.put, zz11, zz12, zz13, i64_w, i32_w]
             rfl
            refine pure_ (i:=9) (N:=some 24) (v:=?_) (a':=?_) #[true,true,true,true,true,true,false,true,true,true,false,false,false,false] rfl rfl (any_of HT_.out (by kernel_rfl)) (fun _ _ _ h=>h) (Or.inl ⟨by rfl,?_⟩) ?_ ?_
            rotate_left
            ·
             intro w'
             go_simp
             with_reducible rfl
            rotate_left
            ·
             simp only [Act.put, zz11, zz12, zz13, i64_w, i32_w]
             rfl
            refine pure_ (i:=10) (N:=some 25) (v:=?_) (a':=?_) #[true,true,true,true,true,true,false,true,true,true,true,false,false,false] rfl rfl (any_of HT_.out (by kernel_rfl)) (fun _ _ _ h=>h) (Or.inl ⟨by rfl,?_⟩) ?_ ?_
            rotate_left
            ·
             intro w'
             go_simp
             with_reducible rfl
            rotate_left
            ·
             simp only [Act.put, zz11, zz12, zz13, i64_w, i32_w]
             rfl
            refine take_ (i:=6) (N:=some 21) (v:=?_) (a':=?_) #[true,true,true,true,true,true,true,true,true,true,true,false,false,false] rfl rfl (take_ofW HT_.out HW_.out (by kernel_rfl)) (fun _ _ _ h=>h) (Or.inl ⟨by rfl,?_⟩) hHeld ?_ ?_
            rotate_left
            ·
             rintro w' ⟨s0, s1, s2, s3⟩
             go_simp
             with_reducible rfl
            rotate_left
            ·
             simp only [Act.put, zz11, zz12, zz13, i64_w, i32_w]
             rfl
            refine take_ (i:=11) (N:=some 26) (v:=?_) (a':=?_) #[true,true,true,true,true,true,true,true,true,true,true,true,false,false] rfl rfl (take_ofW HT_.out HW_.out (by kernel_rfl)) (fun _ _ _ h=>h) (Or.inl ⟨by rfl,?_⟩) hHeld ?_ ?_
            rotate_left
            ·
             rintro w' ⟨s0, s1, s2, s3⟩
             go_simp
             with_reducible rfl
            rotate_left
            ·
             simp only [Act.put, zz11, zz12, zz13, i64_w, i32_w]
             rfl
            refine one_ (i:=12) (N:=some 27) #[true,true,true,true,true,true,true,true,true,true,true,true,true,false] rfl rfl (one_of HT_.out (by kernel_rfl)) (by decide) (fun K hK=>?_)
            refine goes_ Tryz.func88 (by kernel_rfl) rfl #[.agg #[.int .i64 ((rd_T57 l0 x4_1).f0),.int .i64 ((rd_T57 l0 x4_1).f1)],.agg #[.int .i64 ((rd_T57 x3_1 (ji7)).f0),.int .i64 ((rd_T57 x3_1 (ji7)).f1)]] (by rfl) rfl rfl (by (try simp only [List.map_toArray,List.map_cons,List.map_nil]);first|done|(simp only [hji7];rfl)|rfl|(simp only [List.length_drop,List.length_take];rfl)) ?_
            with_reducible refine (almanackerref19_before.calls ((rd_T57 l0 x4_1).f0) ((rd_T57 l0 x4_1).f1) ((rd_T57 x3_1 (ji7)).f0) ((rd_T57 x3_1 (ji7)).f1) true _ A10.out).mono ?_
            rintro e w13 ⟨rfl, hb⟩
            have HS2_ := (hb.cell (World.block_lt_of_cell? _ _ (hHeld.2.2.1))).trans (hHeld.2.2.1)
            have HS3_ := (hb.cell (World.block_lt_of_cell? _ _ (hHeld.2.2.2))).trans (hHeld.2.2.2)
            refine ⟨_, rfl, ?_⟩
            have n0_ := zz00 (zz19 (by (with_reducible repeat (first | apply zz05 | apply zz04 | apply zz06)); exact HO_3.out) hb)
            have n1_ := zz00 (zz21 (by repeat (first | (with_reducible first | exact HB.out | apply zz03 | apply zz01 | apply zz02) | exact HB.out)) hb)
            clear HO_3
            clear HB
            have HO_3 := n0_
            have HB := n1_
            clear n0_ n1_
            (try clear hb)
            (try clear hb2)
            (try clear hk)
            (try clear hi)
            refine hK.out _ _ ⟨((HB.out.cell (World.block_lt_of_cell? w _ hw363_0)).trans hw363_0), ((HB.out.cell (World.block_lt_of_cell? w _ hw363_1)).trans hw363_1), HS2_, HS3_⟩ (fun hHeld => ?_)
            clear hK K
            refine norm_ (a' := ?_) ?_ ?_
            rotate_left
            ·
             show Act.put _ (some 27) _ = _
             simp only [Act.put, zz11, zz12, zz13, i64_w, i32_w]
             rfl
            refine pure_ (i:=13) (N:=some 28) (v:=?_) (a':=?_) #[true,true,true,true,true,true,true,true,true,true,true,true,true,true] rfl rfl (any_of HT_.out (by kernel_rfl)) (fun _ _ _ h=>h) (Or.inl ⟨by rfl,?_⟩) ?_ ?_
            rotate_left
            ·
             intro w'
             go_simp
             with_reducible rfl
            rotate_left
            ·
             simp only [Act.put, zz11, zz12, zz13, i64_w, i32_w]
             rfl
            refine done_ (done_of HT_.out (by kernel_rfl)) ?_
            try go_wp2
            go_roundg k2
            case measure => have := HK1.out; have := HK2.out; omega
            case rel=>exact ⟨(ji7),(by first|rfl|(simp;done)|(simp only [← hji7] <;> (first|rfl|simp))|(simp [*];done)),H',⟨by have:=HK1.out;have:=HK2.out;omega⟩,⟨by (with_reducible repeat (first|apply zz05|apply zz04|apply zz06));exact HO_3.out⟩,⟨by repeat (first|(with_reducible first|exact HB.out|apply zz03|apply zz01|apply zz02)|exact HB.out)⟩⟩
           ·
            replace c11 := zz32.mpr c11
            subst c11
            have H1 : ((some (([] : List (S57)) : List (S57))).bind fun y366=>(if 0 ≤ x5_2 then (if x5_2 ≤ (x3_1.length : Int) then ((some (x3_1.drop (x5_2 : Int).toNat : List (S57))).bind fun y369=>(if y366.length + y369.length < 8796093022208 then ((some (y366 ++ y369 : List (S57))).bind fun y373=>((some (x3_1.take (x5_2 : Int).toNat : List (S57))).bind fun y376=>(if y376.length < 8796093022208 then ((some (y376 ++ [(⟨(rd_T57 l0 x4_1).f0,(rd_T57 l0 x4_1).f1⟩ : S57)] : List (S57))).bind fun y380=>(if y380.length + y373.length < 8796093022208 then (almanackerref19_Sort.l0 k2 l0 (y380 ++ y373) (wrap64 (x4_1 + 1))) else (none))) else (none)))) else (none))) else (none)) else (none))) = some r:=by rw [if_neg (show ¬ (false = true) by decide)] at H;exact H
            clear H
            have H := H1
            clear H1
            obtain ⟨y366, hy366⟩ : ∃ y_ : List (S57), y_ = (([] : List (S57))) := ⟨_, rfl⟩
            replace H : (if 0 ≤ x5_2 then (if x5_2 ≤ (x3_1.length : Int) then ((some (x3_1.drop (x5_2 : Int).toNat : List (S57))).bind fun y369=>(if y366.length + y369.length < 8796093022208 then ((some (y366 ++ y369 : List (S57))).bind fun y373=>((some (x3_1.take (x5_2 : Int).toNat : List (S57))).bind fun y376=>(if y376.length < 8796093022208 then ((some (y376 ++ [(⟨(rd_T57 l0 x4_1).f0,(rd_T57 l0 x4_1).f1⟩ : S57)] : List (S57))).bind fun y380=>(if y380.length + y373.length < 8796093022208 then (almanackerref19_Sort.l0 k2 l0 (y380 ++ y373) (wrap64 (x4_1 + 1))) else (none))) else (none)))) else (none))) else (none)) else (none)) = some r:=by first|(rw [hy366];with_reducible exact H)|(have H2_:=(Option.bind_some _ _).symm.trans H;rw [hy366];with_reducible exact H2_)|(have H2_:=(Option.bind_some _ _).symm.trans H;with_reducible exact H2_)|with_reducible exact H|(rw [hy366];exact H)|exact H
            have Ny366 := zz00 hy366
            clear hy366
            by_cases c14 : 0 ≤ x5_2
            ·
             rw [if_pos c14] at H
             have c14b0 := eq_true c14
             have c14b1 : decide (0 ≤ x5_2) = true := decide_eq_true c14
             clear c14
             by_cases c15 : x5_2 ≤ (x3_1.length : Int)
             ·
              rw [if_pos c15] at H
              have c15b0 := eq_true c15
              have c15b1 : decide (x5_2 ≤ (x3_1.length : Int)) = true := decide_eq_true c15
              clear c15
              obtain ⟨y369, hy369⟩ : ∃ y_ : List (S57), y_ = (x3_1.drop (x5_2 : Int).toNat) := ⟨_, rfl⟩
              replace H : (if y366.length + y369.length < 8796093022208 then ((some (y366 ++ y369 : List (S57))).bind fun y373=>((some (x3_1.take (x5_2 : Int).toNat : List (S57))).bind fun y376=>(if y376.length < 8796093022208 then ((some (y376 ++ [(⟨(rd_T57 l0 x4_1).f0,(rd_T57 l0 x4_1).f1⟩ : S57)] : List (S57))).bind fun y380=>(if y380.length + y373.length < 8796093022208 then (almanackerref19_Sort.l0 k2 l0 (y380 ++ y373) (wrap64 (x4_1 + 1))) else (none))) else (none)))) else (none)) = some r:=by first|(rw [hy369];with_reducible exact H)|(have H2_:=(Option.bind_some _ _).symm.trans H;rw [hy369];with_reducible exact H2_)|(have H2_:=(Option.bind_some _ _).symm.trans H;with_reducible exact H2_)|with_reducible exact H|(rw [hy369];exact H)|exact H
              have Ny369 := zz00 hy369
              clear hy369
              by_cases c16 : y366.length + y369.length < 8796093022208
              ·
               rw [if_pos c16] at H
               have LMc16 := zz00 c16
               clear c16
               obtain ⟨y373, hy373⟩ : ∃ y_ : List (S57), y_ = (y366 ++ y369) := ⟨_, rfl⟩
               replace H : ((some (x3_1.take (x5_2 : Int).toNat : List (S57))).bind fun y376=>(if y376.length < 8796093022208 then ((some (y376 ++ [(⟨(rd_T57 l0 x4_1).f0,(rd_T57 l0 x4_1).f1⟩ : S57)] : List (S57))).bind fun y380=>(if y380.length + y373.length < 8796093022208 then (almanackerref19_Sort.l0 k2 l0 (y380 ++ y373) (wrap64 (x4_1 + 1))) else (none))) else (none))) = some r:=by first|(rw [hy373];with_reducible exact H)|(have H2_:=(Option.bind_some _ _).symm.trans H;rw [hy373];with_reducible exact H2_)|(have H2_:=(Option.bind_some _ _).symm.trans H;with_reducible exact H2_)|with_reducible exact H|(rw [hy373];exact H)|exact H
               have Ny373 := zz00 hy373
               clear hy373
               have c17b0 := eq_true (zz31 (by first | (with_reducible assumption) | assumption) : x5_2 ≤ (x3_1.length : Int))
               obtain ⟨y376, hy376⟩ : ∃ y_ : List (S57), y_ = (x3_1.take (x5_2 : Int).toNat) := ⟨_, rfl⟩
               replace H : (if y376.length < 8796093022208 then ((some (y376 ++ [(⟨(rd_T57 l0 x4_1).f0,(rd_T57 l0 x4_1).f1⟩ : S57)] : List (S57))).bind fun y380=>(if y380.length + y373.length < 8796093022208 then (almanackerref19_Sort.l0 k2 l0 (y380 ++ y373) (wrap64 (x4_1 + 1))) else (none))) else (none)) = some r:=by first|(rw [hy376];with_reducible exact H)|(have H2_:=(Option.bind_some _ _).symm.trans H;rw [hy376];with_reducible exact H2_)|(have H2_:=(Option.bind_some _ _).symm.trans H;with_reducible exact H2_)|with_reducible exact H|(rw [hy376];exact H)|exact H
               have Ny376 := zz00 hy376
               clear hy376
               by_cases c18 : y376.length < 8796093022208
               ·
                rw [if_pos c18] at H
                have LMc18 := zz00 c18
                clear c18
                obtain ⟨y380, hy380⟩ : ∃ y_ : List (S57), y_ = (y376 ++ [(⟨(rd_T57 l0 x4_1).f0, (rd_T57 l0 x4_1).f1⟩ : S57)]) := ⟨_, rfl⟩
                replace H : (if y380.length + y373.length < 8796093022208 then (almanackerref19_Sort.l0 k2 l0 (y380 ++ y373) (wrap64 (x4_1 + 1))) else (none)) = some r:=by first|(rw [hy380];with_reducible exact H)|(have H2_:=(Option.bind_some _ _).symm.trans H;rw [hy380];with_reducible exact H2_)|(have H2_:=(Option.bind_some _ _).symm.trans H;with_reducible exact H2_)|with_reducible exact H|(rw [hy380];exact H)|exact H
                have Ny380 := zz00 hy380
                clear hy380
                by_cases c19 : y380.length + y373.length < 8796093022208
                ·
                 rw [if_pos c19] at H
                 have LMc19 := zz00 c19
                 clear c19
                 obtain ⟨y383, hy383⟩ : ∃ y_ : List (S57), y_ = (y380 ++ y373) := ⟨_, rfl⟩
                 replace H : (almanackerref19_Sort.l0 k2 l0 y383 (wrap64 (x4_1 + 1))) = some r:=by first|(rw [hy383];with_reducible exact H)|(have H2_:=(Option.bind_some _ _).symm.trans H;rw [hy383];with_reducible exact H2_)|(have H2_:=(Option.bind_some _ _).symm.trans H;with_reducible exact H2_)|with_reducible exact H|(rw [hy383];exact H)|exact H
                 have Ny383 := zz00 hy383
                 clear hy383
                 have H' := zz00 H
                 clear H
                 try go_wp2
                 have n0_ := zz00 (zz06 HO_3.out)
                 have n1_ := zz00 (zz02 HB.out)
                 clear HO_3
                 clear HB
                 have HO_3 := n0_
                 have HB := n1_
                 clear n0_ n1_
                 have p363 : 0 ≤ (x4_1 : Int) := zz31 (by first | (with_reducible assumption) | assumption)
                 have q363 : x4_1 < (l0.length : Int) := zz31 (by first | (with_reducible assumption) | assumption)
                 obtain ⟨ad363, e363, hx363_0, hx363_1⟩ := at_T57 HR0.out x4_1 p363 q363
                 have hw363_1 := hx363_1
                 have hw363_0 := hx363_0
                 cases e363
                 replace hx363_0 := (HB.out.cell (World.block_lt_of_cell? w _ hx363_0)).trans hx363_0
                 replace hx363_1 := (HB.out.cell (World.block_lt_of_cell? w _ hx363_1)).trans hx363_1
                 replace p363 := eq_true p363
                 replace q363 := eq_true q363
                 have p364 : 0 ≤ ((ji7) : Int) := zz31 (by first | (with_reducible assumption) | assumption)
                 have q364 : (ji7) < (x3_1.length : Int) := zz31 (by first | (with_reducible assumption) | assumption)
                 obtain ⟨ad364, e364, hx364_0, hx364_1⟩ := at_T57 (Kd.R_reads' HO_3.out).2.2 (ji7) p364 q364
                 cases e364
                 replace p364 := eq_true p364
                 replace q364 := eq_true q364
                 refine start_ (n:=14) (S:=fun w'=>w'.cell? (ad363.add ((x4_1).toNat * 2)) = some (.int .i64 ((rd_T57 l0 x4_1).f0)) ∧ w'.cell? ⟨(ad363.add ((x4_1).toNat * 2)).block,(ad363.add ((x4_1).toNat * 2)).off + 1,none⟩ = some (.int .i64 ((rd_T57 l0 x4_1).f1)) ∧ w'.cell? (ad364.add (((ji7)).toNat * 2)) = some (.int .i64 ((rd_T57 x3_1 (ji7)).f0)) ∧ w'.cell? ⟨(ad364.add (((ji7)).toNat * 2)).block,(ad364.add (((ji7)).toNat * 2)).off + 1,none⟩ = some (.int .i64 ((rd_T57 x3_1 (ji7)).f1))) (ds:=[]) #[false,false,false,false,false,false,false,false,false,false,false,false,false,false] (by kernel_rfl) rfl rfl ⟨((HB.out.cell (World.block_lt_of_cell? w _ hw363_0)).trans hw363_0),((HB.out.cell (World.block_lt_of_cell? w _ hw363_1)).trans hw363_1),hx364_0,hx364_1⟩ (fun hHeld=>?_);refine with_tabW almanackerref19_Sort.tab6 almanackerref19_Sort.bits6 (fun HT_ HW_=>?_)
                 generalize wr.drew = w20 at HO_3 HB hx363_0 hx363_1 hx364_0 hx364_1 hHeld ⊢
                 refine pure_ (i:=0) (N:=some 15) (v:=?_) (a':=?_) #[true,false,false,false,false,false,false,false,false,false,false,false,false,false] rfl rfl (any_of HT_.out (by kernel_rfl)) (fun _ _ _ h=>h) (Or.inl ⟨by rfl,?_⟩) ?_ ?_
                 rotate_left
                 ·
                  intro w'
                  go_simp
                  with_reducible rfl
                 rotate_left
                 ·
                  simp only [Act.put, zz11, zz12, zz13, i64_w, i32_w]
                  rfl
                 refine pure_ (i:=1) (N:=some 16) (v:=?_) (a':=?_) #[true,true,false,false,false,false,false,false,false,false,false,false,false,false] rfl rfl (any_of HT_.out (by kernel_rfl)) (fun _ _ _ h=>h) (Or.inl ⟨by rfl,?_⟩) ?_ ?_
                 rotate_left
                 ·
                  intro w'
                  go_simp
                  with_reducible rfl
                 rotate_left
                 ·
                  simp only [Act.put, zz11, zz12, zz13, i64_w, i32_w]
                  rfl
                 refine pure_ (i:=2) (N:=some 17) (v:=?_) (a':=?_) #[true,true,true,false,false,false,false,false,false,false,false,false,false,false] rfl rfl (any_of HT_.out (by kernel_rfl)) (fun _ _ _ h=>h) (Or.inl ⟨by rfl,?_⟩) ?_ ?_
                 rotate_left
                 ·
                  intro w'
                  go_simp
                  with_reducible rfl
                 rotate_left
                 ·
                  simp only [Act.put, zz11, zz12, zz13, i64_w, i32_w]
                  rfl
                 refine pure_ (i:=3) (N:=some 18) (v:=?_) (a':=?_) #[true,true,true,true,false,false,false,false,false,false,false,false,false,false] rfl rfl (any_of HT_.out (by kernel_rfl)) (fun _ _ _ h=>h) (Or.inl ⟨by rfl,?_⟩) ?_ ?_
                 rotate_left
                 ·
                  intro w'
                  go_simp
                  with_reducible rfl
                 rotate_left
                 ·
                  simp only [Act.put, zz11, zz12, zz13, i64_w, i32_w]
                  rfl
                 refine pure_ (i:=4) (N:=some 19) (v:=?_) (a':=?_) #[true,true,true,true,true,false,false,false,false,false,false,false,false,false] rfl rfl (any_of HT_.out (by kernel_rfl)) (fun _ _ _ h=>h) (Or.inl ⟨by rfl,?_⟩) ?_ ?_
                 rotate_left
                 ·
                  intro w'
                  go_simp
                  with_reducible rfl
                 rotate_left
                 ·
                  simp only [Act.put, zz11, zz12, zz13, i64_w, i32_w]
                  rfl
                 refine pure_ (i:=5) (N:=some 20) (v:=?_) (a':=?_) #[true,true,true,true,true,true,false,false,false,false,false,false,false,false] rfl rfl (any_of HT_.out (by kernel_rfl)) (fun _ _ _ h=>h) (Or.inl ⟨by rfl,?_⟩) ?_ ?_
                 rotate_left
                 ·
                  intro w'
                  go_simp
                  with_reducible rfl
                 rotate_left
                 ·
                  simp only [Act.put, zz11, zz12, zz13, i64_w, i32_w]
                  rfl
                 refine pure_ (i:=7) (N:=some 22) (v:=?_) (a':=?_) #[true,true,true,true,true,true,false,true,false,false,false,false,false,false] rfl rfl (any_of HT_.out (by kernel_rfl)) (fun _ _ _ h=>h) (Or.inl ⟨by rfl,?_⟩) ?_ ?_
                 rotate_left
                 ·
                  intro w'
                  go_simp
                  with_reducible rfl
                 rotate_left
                 ·
                  simp only [Act.put, zz11, zz12, zz13, i64_w, i32_w]
                  rfl
                 refine pure_ (i:=8) (N:=some 23) (v:=?_) (a':=?_) #[true,true,true,true,true,true,false,true,true,false,false,false,false,false] rfl rfl (any_of HT_.out (by kernel_rfl)) (fun _ _ _ h=>h) (Or.inl ⟨by rfl,?_⟩) ?_ ?_
                 rotate_left
                 ·
                  intro w'
                  go_simp
                  with_reducible rfl
                 rotate_left
                 ·
                  simp only [Act.put, zz11, zz12, zz13, i64_w, i32_w]
                  rfl
                 refine pure_ (i:=9) (N:=some 24) (v:=?_) (a':=?_) #[true,true,true,true,true,true,false,true,true,true,false,false,false,false] rfl rfl (any_of HT_.out (by kernel_rfl)) (fun _ _ _ h=>h) (Or.inl ⟨by rfl,?_⟩) ?_ ?_
                 rotate_left
                 ·
                  intro w'
                  go_simp
                  with_reducible rfl
                 rotate_left
                 ·
                  simp only [Act.put, zz11, zz12, zz13, i64_w, i32_w]
                  rfl
                 refine pure_ (i:=10) (N:=some 25) (v:=?_) (a':=?_) #[true,true,true,true,true,true,false,true,true,true,true,false,false,false] rfl rfl (any_of HT_.out (by kernel_rfl)) (fun _ _ _ h=>h) (Or.inl ⟨by rfl,?_⟩) ?_ ?_
                 rotate_left
                 ·
                  intro w'
                  go_simp
                  with_reducible rfl
                 rotate_left
                 ·
                  simp only [Act.put, zz11, zz12, zz13, i64_w, i32_w]
                  rfl
                 refine take_ (i:=6) (N:=some 21) (v:=?_) (a':=?_) #[true,true,true,true,true,true,true,true,true,true,true,false,false,false] rfl rfl (take_ofW HT_.out HW_.out (by kernel_rfl)) (fun _ _ _ h=>h) (Or.inl ⟨by rfl,?_⟩) hHeld ?_ ?_
                 rotate_left
                 ·
                  rintro w' ⟨s0, s1, s2, s3⟩
                  go_simp
                  with_reducible rfl
                 rotate_left
                 ·
                  simp only [Act.put, zz11, zz12, zz13, i64_w, i32_w]
                  rfl
                 refine take_ (i:=11) (N:=some 26) (v:=?_) (a':=?_) #[true,true,true,true,true,true,true,true,true,true,true,true,false,false] rfl rfl (take_ofW HT_.out HW_.out (by kernel_rfl)) (fun _ _ _ h=>h) (Or.inl ⟨by rfl,?_⟩) hHeld ?_ ?_
                 rotate_left
                 ·
                  rintro w' ⟨s0, s1, s2, s3⟩
                  go_simp
                  with_reducible rfl
                 rotate_left
                 ·
                  simp only [Act.put, zz11, zz12, zz13, i64_w, i32_w]
                  rfl
                 refine one_ (i:=12) (N:=some 27) #[true,true,true,true,true,true,true,true,true,true,true,true,true,false] rfl rfl (one_of HT_.out (by kernel_rfl)) (by decide) (fun K hK=>?_)
                 refine goes_ Tryz.func88 (by kernel_rfl) rfl #[.agg #[.int .i64 ((rd_T57 l0 x4_1).f0),.int .i64 ((rd_T57 l0 x4_1).f1)],.agg #[.int .i64 ((rd_T57 x3_1 (ji7)).f0),.int .i64 ((rd_T57 x3_1 (ji7)).f1)]] (by rfl) rfl rfl (by (try simp only [List.map_toArray,List.map_cons,List.map_nil]);first|done|(simp only [hji7];rfl)|rfl|(simp only [List.length_drop,List.length_take];rfl)) ?_
                 with_reducible refine (almanackerref19_before.calls ((rd_T57 l0 x4_1).f0) ((rd_T57 l0 x4_1).f1) ((rd_T57 x3_1 (ji7)).f0) ((rd_T57 x3_1 (ji7)).f1) false _ A10.out).mono ?_
                 rintro e w21 ⟨rfl, hb⟩
                 have HS2_ := (hb.cell (World.block_lt_of_cell? _ _ (hHeld.2.2.1))).trans (hHeld.2.2.1)
                 have HS3_ := (hb.cell (World.block_lt_of_cell? _ _ (hHeld.2.2.2))).trans (hHeld.2.2.2)
                 refine ⟨_, rfl, ?_⟩
                 have n0_ := zz00 (zz19 (by (with_reducible repeat (first | apply zz05 | apply zz04 | apply zz06)); exact HO_3.out) hb)
                 have n1_ := zz00 (zz21 (by repeat (first | (with_reducible first | exact HB.out | apply zz03 | apply zz01 | apply zz02) | exact HB.out)) hb)
                 clear HO_3
                 clear HB
                 have HO_3 := n0_
                 have HB := n1_
                 clear n0_ n1_
                 (try clear hb)
                 (try clear hb2)
                 (try clear hk)
                 (try clear hi)
                 refine hK.out _ _ ⟨((HB.out.cell (World.block_lt_of_cell? w _ hw363_0)).trans hw363_0),((HB.out.cell (World.block_lt_of_cell? w _ hw363_1)).trans hw363_1),HS2_,HS3_⟩ (fun hHeld=>?_)
                 clear hK K
                 refine norm_ (a' := ?_) ?_ ?_
                 rotate_left
                 ·
                  show Act.put _ (some 27) _ = _
                  simp only [Act.put, zz11, zz12, zz13, i64_w, i32_w]
                  rfl
                 refine pure_ (i:=13) (N:=some 28) (v:=?_) (a':=?_) #[true,true,true,true,true,true,true,true,true,true,true,true,true,true] rfl rfl (any_of HT_.out (by kernel_rfl)) (fun _ _ _ h=>h) (Or.inl ⟨by rfl,?_⟩) ?_ ?_
                 rotate_left
                 ·
                  intro w'
                  go_simp
                  with_reducible rfl
                 rotate_left
                 ·
                  simp only [Act.put, zz11, zz12, zz13, i64_w, i32_w]
                  rfl
                 refine done_ (done_of HT_.out (by kernel_rfl)) ?_
                 try go_wp2_with (first|((with_reducible refine zz24 (N:=31) rfl ?_);refine Kd.R_lit k57 _ 57 ?hg (N:=31) ?hd (xs:=([] : List (S57))) (inner:=[]) (ok:=fun _=>True) (okp:=fun _=>True) ?hr ?hp (fun _ hk=>hk) trivial (Below.refl _ _) (Nat.le_refl _) (by simp) ?_;(case hd=>rfl);(case hg=>rfl);(case hr=>first|(go_simp;done)|(go_simp;rfl));(case hp=>exact (Reps.none _ _));intro v367 w22 ho23 hb hg_ hnew_;clear hg_ hnew_;(first|rw [← Ny366.out] at ho23|(simp only [Int.reduceToNat] at ho23;rw [← Ny366.out] at ho23));have n0_:=zz00 (zz20 (by (with_reducible repeat (first|apply zz05|apply zz04|apply zz06));exact HO_3.out) (Kd.R_base ho23) hb);have n1_:=zz00 (Kd.R_lower (Kd.R_new' ho23 (Kd.R_lt (by (with_reducible repeat (first|apply zz05|apply zz04|apply zz06));exact HO_3.out))) (zz22 (by repeat (first|(with_reducible first|exact HB.out|apply zz03|apply zz01|apply zz02)|exact HB.out))));have n2_:=zz00 (zz21 (by repeat (first|(with_reducible first|exact HB.out|apply zz03|apply zz01|apply zz02)|exact HB.out)) hb);clear HO_3;clear HB;have HO_3:=n0_;have HO368:=n1_;have HB:=n2_;clear n0_ n1_ n2_;clear hb ho23;have q24 : (x5_2 : Int) ≤ ((x3_1.length : Int) : Int):=zz31 (by first|(with_reducible assumption)|assumption);obtain ⟨i024,hi024,_,hsz24,_⟩:=info_parts info57;have hroom24 : x3_1.length ≤ co3:=(Kd.R_reads' HO_3.out).2.1;have hC24 : Kd.C k57 _ (some ad364) x3_1.length x3_1:=(Kd.R_reads' HO_3.out).2.2;have q024 : (0 : Int) ≤ (x5_2 : Int):=zz31 (by first|(with_reducible assumption)|assumption);have hcut24:=cut_from (P:=Tryz.prog) 22 57 .i64 Tryz.underlying22 hi024 2 hsz24 (some ad364) x3_1.length co3 x5_2 q024 q24;have hr24:=Kd.C_drop (m:=(x5_2 : Int).toNat) (c:=co3) hC24 (by omega) hroom24;obtain ⟨A24,hA24⟩ : ∃ A1,A1 = (if co3 = (x5_2 : Int).toNat then (some ad364) else ((some ad364) : Option Addr).map (·.add ((x5_2 : Int).toNat * 2))):=⟨_,rfl⟩;obtain ⟨c24,hc24⟩ : ∃ c1,c1 = co3 - (x5_2 : Int).toNat:=⟨_,rfl⟩;have hy24 : y369.length = x3_1.length - (x5_2 : Int).toNat:=(by rw [Ny369.out,List.length_drop] <;> omega);rw [show (x3_1).drop (x5_2 : Int).toNat = y369 from Ny369.out.symm] at hr24;replace hr24 : Kd.C k57 _ A24 y369.length y369:=(by rw [hA24];exact hr24);rw [← hy24,← hA24,← hc24] at hcut24;have HR372:=zz00 hr24;have HC372:=zz00 (show y369.length ≤ c24 from by rw [hy24,hc24];exact Nat.sub_le_sub_right hroom24 _);clear hr24 hC24 hroom24 hi024 hsz24 hc24;have KY24:=zz00 hy24;have KA24:=zz00 hA24;clear hy24 hA24;have KL24:=zz00 (show (x5_2 : Int).toNat ≤ x3_1.length from by omega);replace q24:=eq_true q24)|((with_reducible refine gate_builtin (b:=.append) (xs:=#[.tmp 31,.tmp 34]) rfl ?_);at_builtin;refine Kd.R_append_rows k57 (w0:=w) w.heap.size rfl (.tmp 31) (.tmp 34) 22 57 (.agg #[(.int .i64 0),(.int .i64 0)]) 16 rfl Tryz.underlying22 info57 rfl (by decide) (by omega) v367 y366 y369 _ _ _ (fun k_=>some k_ ≠ (.slice (some ad364) x3_1.length co3 : Value).ownBlock) (fun _=>False) rfl rfl ?aO ?aR (fun _ _ h=>h) (fun _ h=>h.elim) ?aF ?aB ?aS ?aL ?_;(case aR=>repeat (first|exact (by repeat (first|(with_reducible exact HR372.out)|(with_reducible refine Kd.C_alloc ?_ _)|(with_reducible refine Kd.C_drewN ?_ _)|(with_reducible refine Kd.C_drew ?_)|exact HR372.out))|(with_reducible refine Kd.C_alloc ?_ _)|(with_reducible refine Kd.C_drewN ?_ _)|(with_reducible refine Kd.C_drew ?_)));(case aB=>exact (by repeat (first|(with_reducible first|exact HB.out|apply zz03|apply zz01|apply zz02)|exact HB.out)));(case aF=>exact (fun k_ hk=>Kd.fresh' (Kd.R_lt (by (with_reducible repeat (first|apply zz05|apply zz04|apply zz06));exact HO_3.out)) k_ hk));(case aO=>exact (by (with_reducible repeat (first|apply zz05|apply zz04|apply zz06));exact Kd.R_mono HO368.out (fun _ hk=>hk.2)));(case aS=>exact (zz22 (by repeat (first|(with_reducible first|exact HB.out|apply zz03|apply zz01|apply zz02)|exact HB.out))));(case aL=>have:=LMc16.out;omega);intro v374 w25 ho hb hg hat;rw [← Ny373.out] at ho;have n0_:=zz00 (Kd.R_after (ok:=(fun _=>True)) (by (with_reducible repeat (first|apply zz05|apply zz04|apply zz06));exact HO_3.out) hg hat);have n1_:=zz00 (hb);have n2_:=zz00 ((show Kd.C k57 w25 A24 y369.length y369 from by rw [Ny369.out,KA24.out];exact Kd.C_drop (m:=(x5_2 : Int).toNat) (c:=co3) ((Kd.R_reads' (Kd.R_after (ok:=(fun _=>True)) (by (with_reducible repeat (first|apply zz05|apply zz04|apply zz06));exact HO_3.out) hg hat)).2.2) KL24.out ((Kd.R_reads' (Kd.R_after (ok:=(fun _=>True)) (by (with_reducible repeat (first|apply zz05|apply zz04|apply zz06));exact HO_3.out) hg hat)).2.1)));have n3_:=zz00 (ho);clear HO_3;clear HB;clear HR372;clear HO368;have HO_3:=n0_;have HB:=n1_;have HR372:=n2_;have HO375:=n3_;clear n0_ n1_ n2_ n3_;clear ho hb hg hat))
                 have n0_ := zz00 (zz06 HO_3.out)
                 have n1_ := zz00 (zz06 HO375.out)
                 have n2_ := zz00 (Kd.C_drew HR372.out)
                 have n3_ := zz00 (zz02 HB.out)
                 clear HO_3
                 clear HO375
                 clear HR372
                 clear HB
                 have HO_3 := n0_
                 have HO375 := n1_
                 have HR372 := n2_
                 have HB := n3_
                 clear n0_ n1_ n2_ n3_
                 have q27 : (x5_2 : Int) ≤ ((x3_1.length : Int) : Int) := zz31 (by first | (with_reducible assumption) | assumption)
                 obtain ⟨i027, hi027, _, hsz27, _⟩ := info_parts info57
                 have hcut27:=cut_to (P:=Tryz.prog) 22 57 .i64 Tryz.underlying22 hi027 (some ad364) x3_1.length co3 x5_2 (zz31 (by first|(with_reducible assumption)|assumption)) q27 (Kd.R_reads' HO_3.out).2.1
                 have hr27 := Kd.R_take (m := (x5_2 : Int).toNat) HO_3.out (by omega)
                 have hy27 : y376.length = (x5_2 : Int).toNat := (by rw [Ny376.out, List.length_take]; omega)
                 rw [← Ny376.out] at hr27
                 rw [← hy27] at hr27 hcut27
                 clear hy27 hi027 hsz27 HO_3
                 have HO378 := zz00 hr27
                 clear hr27
                 replace q27 := eq_true q27
                 have p379 : 0 ≤ (x4_1 : Int) := zz31 (by first | (with_reducible assumption) | assumption)
                 have q379 : x4_1 < (l0.length : Int) := zz31 (by first | (with_reducible assumption) | assumption)
                 obtain ⟨ad379, e379, hx379_0, hx379_1⟩ := at_T57 HR0.out x4_1 p379 q379
                 have hw379_1 := hx379_1
                 have hw379_0 := hx379_0
                 obtain rfl : ad363 = ad379 := (by injection e379)
                 replace hx379_0 := (HB.out.cell (World.block_lt_of_cell? w _ hx379_0)).trans hx379_0
                 replace hx379_1 := (HB.out.cell (World.block_lt_of_cell? w _ hx379_1)).trans hx379_1
                 replace p379 := eq_true p379
                 replace q379 := eq_true q379
                 refine start_ (n:=12) (S:=fun w'=>w'.cell? (ad363.add ((x4_1).toNat * 2)) = some (.int .i64 ((rd_T57 l0 x4_1).f0)) ∧ w'.cell? ⟨(ad363.add ((x4_1).toNat * 2)).block,(ad363.add ((x4_1).toNat * 2)).off + 1,none⟩ = some (.int .i64 ((rd_T57 l0 x4_1).f1))) (ds:=[]) #[false,false,false,false,false,false,false,false,false,false,false,false] (by kernel_rfl) rfl rfl ⟨((HB.out.cell (World.block_lt_of_cell? w _ hw379_0)).trans hw379_0),((HB.out.cell (World.block_lt_of_cell? w _ hw379_1)).trans hw379_1)⟩ (fun hHeld=>?_);refine with_tabW almanackerref19_Sort.tab9 almanackerref19_Sort.bits9 (fun HT_ HW_=>?_)
                 generalize w25.drew = w26 at HO_3 HO375 HR372 HB HO378 hx379_0 hx379_1 hHeld ⊢
                 refine pure_ (i:=0) (N:=some 36) (v:=?_) (a':=?_) #[true,false,false,false,false,false,false,false,false,false,false,false] rfl rfl (any_of HT_.out (by kernel_rfl)) (fun _ _ _ h=>h) (Or.inl ⟨by rfl,?_⟩) ?_ ?_
                 rotate_left
                 ·
                  intro w'
                  go_simp
                  with_reducible rfl
                 rotate_left
                 ·
                  simp only [Act.put, zz11, zz12, zz13, i64_w, i32_w]
                  rfl
                 refine pure_ (i:=1) (N:=some 37) (v:=?_) (a':=?_) #[true,true,false,false,false,false,false,false,false,false,false,false] rfl rfl (any_of HT_.out (by kernel_rfl)) (fun _ _ _ h=>h) (Or.inl ⟨by rfl,?_⟩) ?_ ?_
                 rotate_left
                 ·
                  intro w'
                  go_simp
                  with_reducible rfl
                 rotate_left
                 ·
                  simp only [Act.put, zz11, zz12, zz13, i64_w, i32_w]
                  rfl
                 refine pure_ (i:=2) (N:=some 38) (v:=?_) (a':=?_) #[true,true,true,false,false,false,false,false,false,false,false,false] rfl rfl (any_of HT_.out (by kernel_rfl)) (fun _ _ _ h=>h) (Or.inl ⟨by rfl,?_⟩) ?_ ?_
                 rotate_left
                 ·
                  intro w'
                  go_simp
                  with_reducible rfl
                 rotate_left
                 ·
                  simp only [Act.put, zz11, zz12, zz13, i64_w, i32_w]
                  rfl
                 refine pure_ (i:=3) (N:=some 39) (v:=?_) (a':=?_) #[true,true,true,true,false,false,false,false,false,false,false,false] rfl rfl (any_of HT_.out (by kernel_rfl)) (fun _ _ _ h=>h) (Or.inl ⟨by rfl,?_⟩) ?_ ?_
                 rotate_left
                 ·
                  intro w'
                  go_simp
                  with_reducible rfl
                 rotate_left
                 ·
                  simp only [Act.put, zz11, zz12, zz13, i64_w, i32_w]
                  rfl
                 refine pure_ (i:=4) (N:=some 40) (v:=?_) (a':=?_) #[true,true,true,true,true,false,false,false,false,false,false,false] rfl rfl (any_of HT_.out (by kernel_rfl)) (fun _ _ _ h=>h) (Or.inl ⟨by rfl,?_⟩) ?_ ?_
                 rotate_left
                 ·
                  intro w'
                  go_simp
                  with_reducible rfl
                 rotate_left
                 ·
                  simp only [Act.put, zz11, zz12, zz13, i64_w, i32_w]
                  rfl
                 refine pure_ (i:=5) (N:=some 41) (v:=?_) (a':=?_) #[true,true,true,true,true,true,false,false,false,false,false,false] rfl rfl (any_of HT_.out (by kernel_rfl)) (fun _ _ _ h=>h) (Or.inl ⟨by rfl,?_⟩) ?_ ?_
                 rotate_left
                 ·
                  intro w'
                  go_simp
                  with_reducible rfl
                 rotate_left
                 ·
                  simp only [Act.put, zz11, zz12, zz13, i64_w, i32_w]
                  rfl
                 refine pure_ (i:=9) (N:=some 45) (v:=?_) (a':=?_) #[true,true,true,true,true,true,false,false,false,true,false,false] rfl rfl (any_of HT_.out (by kernel_rfl)) (fun _ _ _ h=>h) (Or.inl ⟨by rfl,?_⟩) ?_ ?_
                 rotate_left
                 ·
                  intro w'
                  go_simp
                  with_reducible rfl
                 rotate_left
                 ·
                  simp only [Act.put, zz11, zz12, zz13, i64_w, i32_w]
                  rfl
                 refine take_ (i:=6) (N:=some 42) (v:=?_) (a':=?_) #[true,true,true,true,true,true,true,false,false,true,false,false] rfl rfl (take_ofW HT_.out HW_.out (by kernel_rfl)) (fun _ _ _ h=>h) (Or.inl ⟨by rfl,?_⟩) hHeld ?_ ?_
                 rotate_left
                 ·
                  rintro w' ⟨s0, s1⟩
                  go_simp
                  with_reducible rfl
                 rotate_left
                 ·
                  simp only [Act.put, zz11, zz12, zz13, i64_w, i32_w]
                  rfl
                 refine one_ (i := 7) (N := some 43) #[true, true, true, true, true, true, true, true, false, true, false, false] rfl rfl (one_of HT_.out (by kernel_rfl)) (by decide) (fun K hK => ?_)
                 refine value_ (w1 := ?_) (v := ?_) (by rfl) rfl ?_ ?_
                 rotate_left 2
                 ·
                  go_simp
                  constructor
                  ·
                   rfl
                  ·
                   rfl
                 refine hK.out _ _ ⟨(World.cell?_alloc_lt _ _ _ (World.block_lt_of_cell? _ _ (((HB.out.cell (World.block_lt_of_cell? w _ hw379_0)).trans hw379_0)))).trans (((HB.out.cell (World.block_lt_of_cell? w _ hw379_0)).trans hw379_0)),(World.cell?_alloc_lt _ _ _ (World.block_lt_of_cell? _ _ (((HB.out.cell (World.block_lt_of_cell? w _ hw379_1)).trans hw379_1)))).trans (((HB.out.cell (World.block_lt_of_cell? w _ hw379_1)).trans hw379_1))⟩ (fun hHeld=>?_)
                 clear hK K
                 refine norm_ (a' := ?_) ?_ ?_
                 rotate_left
                 ·
                  show Act.put _ (some 43) _ = _
                  simp only [Act.put, zz11, zz12, zz13, i64_w, i32_w]
                  rfl
                 refine one_ (i := 8) (N := some 44) #[true, true, true, true, true, true, true, true, true, true, false, false] rfl rfl (one_of HT_.out (by kernel_rfl)) (by decide) (fun K hK => ?_)
                 refine Kd.R_append_step k57 (w0:=w) w.heap.size (by rfl) (.tmp 38) (.tmp 43) 22 57 (.agg #[(.int .i64 0),(.int .i64 0)]) 16 rfl Tryz.underlying22 info57 rfl (by decide) (by omega) (.slice (some ad364) y376.length co3) y376 (⟨(rd_T57 l0 x4_1).f0,(rd_T57 l0 x4_1).f1⟩ : S57) [.int .i64 ((rd_T57 l0 x4_1).f0),.int .i64 ((rd_T57 l0 x4_1).f1)] (fun k_=>some k_ ≠ (v374 : Value).ownBlock) (fun _=>False) rfl rfl ?aP (fun _ hk=>hk.elim) ?aF ?aO ?aB ?aS ?aL ?_
                 (case aP => exact k57_mkM _ _ _ (⟨(rd_T57 l0 x4_1).f0, (rd_T57 l0 x4_1).f1⟩ : S57))
                 (case aB => exact (by repeat (first | (with_reducible first | exact HB.out | apply zz03 | apply zz01 | apply zz02) | exact HB.out)))
                 (case aF => exact (fun k_ hk => Kd.fresh' (Kd.R_lt (by (with_reducible repeat (first | apply zz05 | apply zz04 | apply zz06)); exact HO375.out)) k_ hk))
                 (case aO => exact (by (with_reducible repeat (first | apply zz05 | apply zz04 | apply zz06)); exact Kd.R_mono HO378.out (fun _ hk => hk.2)))
                 (case aS => exact (zz22 (by repeat (first | (with_reducible first | exact HB.out | apply zz03 | apply zz01 | apply zz02) | exact HB.out))))
                 (case aL => have := LMc18.out; omega)
                 intro v381 w28 ho hb hg hat
                 rw [← Ny380.out] at ho
                 have n0_:=zz00 (Kd.R_after (ok:=(fun _=>True)) (by (with_reducible repeat (first|apply zz05|apply zz04|apply zz06));exact Kd.R_mono HO375.out (fun _ hk=>⟨trivial,by first|exact hk|(cases A1 <;> exact hk)|(cases A10 <;> exact hk)|(cases A24 <;> exact hk)⟩)) hg hat)
                 have n1_ := zz00 (hb)
                 have n2_ := zz00 (ho)
                 clear HO375
                 clear HB
                 clear HO378
                 have HO375 := n0_
                 have HB := n1_
                 have HO382 := n2_
                 clear n0_ n1_ n2_
                 clear ho hb hg hat
                 obtain ⟨Ao30, co30, eo30⟩ := Kd.R_slice HO375.out
                 (first | subst eo30 | (injection eo30 with f1_ f2_ f3_; have f4_ := f1_.symm; have f5_ := f3_.symm; clear f1_ f2_ f3_; subst f4_; subst f5_))
                 refine hK.out _ _ ⟨((HB.out.cell (World.block_lt_of_cell? w _ hw379_0)).trans hw379_0), ((HB.out.cell (World.block_lt_of_cell? w _ hw379_1)).trans hw379_1)⟩ (fun hHeld => ?_)
                 clear hK K
                 refine norm_ (a' := ?_) ?_ ?_
                 rotate_left
                 ·
                  show Act.put _ (some 44) _ = _
                  simp only [Act.put, zz11, zz12, zz13, i64_w, i32_w]
                  rfl
                 refine one_ (i := 10) (N := some 46) #[true, true, true, true, true, true, true, true, true, true, true, false] rfl rfl (one_of HT_.out (by kernel_rfl)) (by decide) (fun K hK => ?_)
                 refine Kd.R_append_rows_step k57 (w0:=w) w.heap.size (by rfl) (.tmp 44) (.tmp 45) 22 57 (.agg #[(.int .i64 0),(.int .i64 0)]) 16 rfl Tryz.underlying22 info57 rfl (by decide) (by omega) v381 y380 y373 _ _ _ (fun k_=>some k_ ≠ (.slice Ao30 y373.length co30 : Value).ownBlock) (fun _=>False) rfl rfl ?aO ?aR (fun _ _ h=>h) (fun _ h=>h.elim) ?aF ?aB ?aS ?aL ?_
                 (case aR=>repeat (first|exact (Kd.R_reads' HO375.out).2.2|(with_reducible refine Kd.C_alloc ?_ _)|(with_reducible refine Kd.C_drewN ?_ _)|(with_reducible refine Kd.C_drew ?_)))
                 (case aB => exact (by repeat (first | (with_reducible first | exact HB.out | apply zz03 | apply zz01 | apply zz02) | exact HB.out)))
                 (case aF => exact (fun k_ hk => Kd.fresh' (Kd.R_lt (by (with_reducible repeat (first | apply zz05 | apply zz04 | apply zz06)); exact HO375.out)) k_ hk))
                 (case aO => exact (by (with_reducible repeat (first | apply zz05 | apply zz04 | apply zz06)); exact HO382.out))
                 (case aS => exact (zz22 (by repeat (first | (with_reducible first | exact HB.out | apply zz03 | apply zz01 | apply zz02) | exact HB.out))))
                 (case aL => have := LMc19.out; omega)
                 intro v384 w29 ho hb hg hat
                 rw [← Ny383.out] at ho
                 have n0_ := zz00 (Kd.R_after (ok := (fun _ => True)) (by (with_reducible repeat (first | apply zz05 | apply zz04 | apply zz06)); exact HO375.out) hg hat)
                 have n1_ := zz00 (hb)
                 have n2_ := zz00 (ho)
                 clear HO375
                 clear HB
                 clear HO382
                 have HO375 := n0_
                 have HB := n1_
                 have HO385 := n2_
                 clear n0_ n1_ n2_
                 clear ho hb hg hat
                 refine hK.out _ _ ⟨((HB.out.cell (World.block_lt_of_cell? w _ hw379_0)).trans hw379_0), ((HB.out.cell (World.block_lt_of_cell? w _ hw379_1)).trans hw379_1)⟩ (fun hHeld => ?_)
                 clear hK K
                 refine norm_ (a' := ?_) ?_ ?_
                 rotate_left
                 ·
                  show Act.put _ (some 46) _ = _
                  simp only [Act.put, zz11, zz12, zz13, i64_w, i32_w]
                  rfl
                 refine pure_ (i:=11) (N:=some 3) (v:=?_) (a':=?_) #[true,true,true,true,true,true,true,true,true,true,true,true] rfl rfl (any_of HT_.out (by kernel_rfl)) (fun _ _ _ h=>h) (Or.inl ⟨by rfl,?_⟩) ?_ ?_
                 rotate_left
                 ·
                  intro w'
                  go_simp
                  with_reducible rfl
                 rotate_left
                 ·
                  simp only [Act.put, zz11, zz12, zz13, i64_w, i32_w]
                  rfl
                 refine done_ (done_of HT_.out (by kernel_rfl)) ?_
                 try go_wp2
                 go_roundg k2
                 case measure => have := HK1.out; have := HK2.out; omega
                 case rel=>exact ⟨(y383),(wrap64 (x4_1 + 1)),(by first|rfl|(simp;done)|(simp [*];done)),H',⟨by have:=HK1.out;have:=HK2.out;omega⟩,⟨by (with_reducible repeat (first|apply zz05|apply zz04|apply zz06));exact Kd.R_mono HO385.out (fun _ hk=>trivial)⟩,⟨by repeat (first|(with_reducible first|exact HB.out|apply zz03|apply zz01|apply zz02)|exact HB.out)⟩⟩
                ·
                 rw [if_neg c19] at H
                 exact absurd H (by simp)
               ·
                rw [if_neg c18] at H
                exact absurd H (by simp)
              ·
               rw [if_neg c16] at H
               exact absurd H (by simp)
             ·
              rw [if_neg c15] at H
              exact absurd H (by simp)
            ·
             rw [if_neg c14] at H
             exact absurd H (by simp)
          ·
           rw [if_neg c9] at H
           exact absurd H (by simp)
         ·
          rw [if_neg c8] at H
          exact absurd H (by simp)
        ·
         rw [if_neg c6] at H
         exact absurd H (by simp)
       ·
        rw [if_neg c5] at H
        exact absurd H (by simp)
      ·
       rw [if_neg c4] at H
       have c4b0 : decide (0 < x5_2) = false := decide_eq_false c4
       clear c4
       obtain ⟨y386, hy386⟩ : ∃ y_ : List (S57), y_ = (([] : List (S57))) := ⟨_, rfl⟩
       replace H : (if 0 ≤ x5_2 then (if x5_2 ≤ (x3_1.length : Int) then ((some (x3_1.drop (x5_2 : Int).toNat : List (S57))).bind fun y389=>(if y386.length + y389.length < 8796093022208 then ((some (y386 ++ y389 : List (S57))).bind fun y393=>((some (x3_1.take (x5_2 : Int).toNat : List (S57))).bind fun y396=>(if 0 ≤ x4_1 then (if x4_1 < (l0.length : Int) then (if y396.length < 8796093022208 then ((some (y396 ++ [(⟨(rd_T57 l0 x4_1).f0,(rd_T57 l0 x4_1).f1⟩ : S57)] : List (S57))).bind fun y400=>(if y400.length + y393.length < 8796093022208 then (almanackerref19_Sort.l0 k2 l0 (y400 ++ y393) (wrap64 (x4_1 + 1))) else (none))) else (none)) else (none)) else (none)))) else (none))) else (none)) else (none)) = some r:=by first|(rw [hy386];with_reducible exact H)|(have H2_:=(Option.bind_some _ _).symm.trans H;rw [hy386];with_reducible exact H2_)|(have H2_:=(Option.bind_some _ _).symm.trans H;with_reducible exact H2_)|with_reducible exact H|(rw [hy386];exact H)|exact H
       have Ny386 := zz00 hy386
       clear hy386
       by_cases c31 : 0 ≤ x5_2
       ·
        rw [if_pos c31] at H
        have c31b0 := eq_true c31
        have c31b1 : decide (0 ≤ x5_2) = true := decide_eq_true c31
        clear c31
        by_cases c32 : x5_2 ≤ (x3_1.length : Int)
        ·
         rw [if_pos c32] at H
         have c32b0 := eq_true c32
         have c32b1 : decide (x5_2 ≤ (x3_1.length : Int)) = true := decide_eq_true c32
         clear c32
         obtain ⟨y389, hy389⟩ : ∃ y_ : List (S57), y_ = (x3_1.drop (x5_2 : Int).toNat) := ⟨_, rfl⟩
         replace H : (if y386.length + y389.length < 8796093022208 then ((some (y386 ++ y389 : List (S57))).bind fun y393=>((some (x3_1.take (x5_2 : Int).toNat : List (S57))).bind fun y396=>(if 0 ≤ x4_1 then (if x4_1 < (l0.length : Int) then (if y396.length < 8796093022208 then ((some (y396 ++ [(⟨(rd_T57 l0 x4_1).f0,(rd_T57 l0 x4_1).f1⟩ : S57)] : List (S57))).bind fun y400=>(if y400.length + y393.length < 8796093022208 then (almanackerref19_Sort.l0 k2 l0 (y400 ++ y393) (wrap64 (x4_1 + 1))) else (none))) else (none)) else (none)) else (none)))) else (none)) = some r:=by first|(rw [hy389];with_reducible exact H)|(have H2_:=(Option.bind_some _ _).symm.trans H;rw [hy389];with_reducible exact H2_)|(have H2_:=(Option.bind_some _ _).symm.trans H;with_reducible exact H2_)|with_reducible exact H|(rw [hy389];exact H)|exact H
         have Ny389 := zz00 hy389
         clear hy389
         by_cases c33 : y386.length + y389.length < 8796093022208
         ·
          rw [if_pos c33] at H
          have LMc33 := zz00 c33
          clear c33
          obtain ⟨y393, hy393⟩ : ∃ y_ : List (S57), y_ = (y386 ++ y389) := ⟨_, rfl⟩
          replace H : ((some (x3_1.take (x5_2 : Int).toNat : List (S57))).bind fun y396=>(if 0 ≤ x4_1 then (if x4_1 < (l0.length : Int) then (if y396.length < 8796093022208 then ((some (y396 ++ [(⟨(rd_T57 l0 x4_1).f0,(rd_T57 l0 x4_1).f1⟩ : S57)] : List (S57))).bind fun y400=>(if y400.length + y393.length < 8796093022208 then (almanackerref19_Sort.l0 k2 l0 (y400 ++ y393) (wrap64 (x4_1 + 1))) else (none))) else (none)) else (none)) else (none))) = some r:=by first|(rw [hy393];with_reducible exact H)|(have H2_:=(Option.bind_some _ _).symm.trans H;rw [hy393];with_reducible exact H2_)|(have H2_:=(Option.bind_some _ _).symm.trans H;with_reducible exact H2_)|with_reducible exact H|(rw [hy393];exact H)|exact H
          have Ny393 := zz00 hy393
          clear hy393
          have c34b0 := eq_true (zz31 (by first | (with_reducible assumption) | assumption) : x5_2 ≤ (x3_1.length : Int))
          obtain ⟨y396, hy396⟩ : ∃ y_ : List (S57), y_ = (x3_1.take (x5_2 : Int).toNat) := ⟨_, rfl⟩
          replace H : (if 0 ≤ x4_1 then (if x4_1 < (l0.length : Int) then (if y396.length < 8796093022208 then ((some (y396 ++ [(⟨(rd_T57 l0 x4_1).f0,(rd_T57 l0 x4_1).f1⟩ : S57)] : List (S57))).bind fun y400=>(if y400.length + y393.length < 8796093022208 then (almanackerref19_Sort.l0 k2 l0 (y400 ++ y393) (wrap64 (x4_1 + 1))) else (none))) else (none)) else (none)) else (none)) = some r:=by first|(rw [hy396];with_reducible exact H)|(have H2_:=(Option.bind_some _ _).symm.trans H;rw [hy396];with_reducible exact H2_)|(have H2_:=(Option.bind_some _ _).symm.trans H;with_reducible exact H2_)|with_reducible exact H|(rw [hy396];exact H)|exact H
          have Ny396 := zz00 hy396
          clear hy396
          by_cases c35 : 0 ≤ x4_1
          ·
           rw [if_pos c35] at H
           have c35b0 : decide (0 ≤ x4_1) = true := decide_eq_true c35
           clear c35
           by_cases c36 : x4_1 < (l0.length : Int)
           ·
            rw [if_pos c36] at H
            have c36b0 : decide (x4_1 < (l0.length : Int)) = true := decide_eq_true c36
            clear c36
            by_cases c37 : y396.length < 8796093022208
            ·
             rw [if_pos c37] at H
             have LMc37 := zz00 c37
             clear c37
             obtain ⟨y400, hy400⟩ : ∃ y_ : List (S57), y_ = (y396 ++ [(⟨(rd_T57 l0 x4_1).f0, (rd_T57 l0 x4_1).f1⟩ : S57)]) := ⟨_, rfl⟩
             replace H : (if y400.length + y393.length < 8796093022208 then (almanackerref19_Sort.l0 k2 l0 (y400 ++ y393) (wrap64 (x4_1 + 1))) else (none)) = some r:=by first|(rw [hy400];with_reducible exact H)|(have H2_:=(Option.bind_some _ _).symm.trans H;rw [hy400];with_reducible exact H2_)|(have H2_:=(Option.bind_some _ _).symm.trans H;with_reducible exact H2_)|with_reducible exact H|(rw [hy400];exact H)|exact H
             have Ny400 := zz00 hy400
             clear hy400
             by_cases c38 : y400.length + y393.length < 8796093022208
             ·
              rw [if_pos c38] at H
              have LMc38 := zz00 c38
              clear c38
              obtain ⟨y403, hy403⟩ : ∃ y_ : List (S57), y_ = (y400 ++ y393) := ⟨_, rfl⟩
              replace H : (almanackerref19_Sort.l0 k2 l0 y403 (wrap64 (x4_1 + 1))) = some r:=by first|(rw [hy403];with_reducible exact H)|(have H2_:=(Option.bind_some _ _).symm.trans H;rw [hy403];with_reducible exact H2_)|(have H2_:=(Option.bind_some _ _).symm.trans H;with_reducible exact H2_)|with_reducible exact H|(rw [hy403];exact H)|exact H
              have Ny403 := zz00 hy403
              clear hy403
              have H' := zz00 H
              clear H
              try go_wp2
              have n0_ := zz00 (zz06 HO_3.out)
              have n1_ := zz00 (zz02 HB.out)
              clear HO_3
              clear HB
              have HO_3 := n0_
              have HB := n1_
              clear n0_ n1_
              refine start_ (n:=14) (S:=fun w'=>True) (ds:=[]) #[false,false,false,false,false,false,false,false,false,false,false,false,false,false] (by kernel_rfl) rfl rfl trivial (fun hHeld=>?_);refine with_tabW almanackerref19_Sort.tab6 almanackerref19_Sort.bits6 (fun HT_ HW_=>?_)
              generalize wr.drew = w39 at HO_3 HB hHeld ⊢
              refine pure_ (i:=0) (N:=some 15) (v:=?_) (a':=?_) #[true,false,false,false,false,false,false,false,false,false,false,false,false,false] rfl rfl (any_of HT_.out (by kernel_rfl)) (fun _ _ _ h=>h) (Or.inl ⟨by rfl,?_⟩) ?_ ?_
              rotate_left
              ·
               intro w'
               go_simp
               with_reducible rfl
              rotate_left
              ·
               simp only [Act.put, zz11, zz12, zz13, i64_w, i32_w]
               rfl
              refine pure_ (i:=1) (N:=some 16) (v:=?_) (a':=?_) #[true,true,false,false,false,false,false,false,false,false,false,false,false,false] rfl rfl (any_of HT_.out (by kernel_rfl)) (fun _ _ _ h=>h) (Or.inl ⟨by rfl,?_⟩) ?_ ?_
              rotate_left
              ·
               intro w'
               go_simp
               with_reducible rfl
              rotate_left
              ·
               simp only [Act.put, zz11, zz12, zz13, i64_w, i32_w]
               rfl
              refine pure_ (i:=2) (N:=some 17) (v:=?_) (a':=?_) #[true,true,true,false,false,false,false,false,false,false,false,false,false,false] rfl rfl (any_of HT_.out (by kernel_rfl)) (fun _ _ _ h=>h) (Or.inl ⟨by rfl,?_⟩) ?_ ?_
              rotate_left
              ·
               intro w'
               go_simp
               with_reducible rfl
              rotate_left
              ·
               simp only [Act.put, zz11, zz12, zz13, i64_w, i32_w]
               rfl
              refine pure_ (i:=3) (N:=some 18) (v:=undef) (a':=?_) #[true,true,true,true,false,false,false,false,false,false,false,false,false,false] rfl rfl (any_of HT_.out (by kernel_rfl)) (fun _ _ _ h=>h) (Or.inr ⟨by rfl,rfl⟩) ?_ ?_
              rotate_left
              ·
               simp only [Act.put, zz11, zz12, zz13, i64_w, i32_w]
               rfl
              refine pure_ (i:=4) (N:=some 19) (v:=undef) (a':=?_) #[true,true,true,true,true,false,false,false,false,false,false,false,false,false] rfl rfl (any_of HT_.out (by kernel_rfl)) (fun _ _ _ h=>h) (Or.inr ⟨by rfl,rfl⟩) ?_ ?_
              rotate_left
              ·
               simp only [Act.put, zz11, zz12, zz13, i64_w, i32_w]
               rfl
              refine pure_ (i:=5) (N:=some 20) (v:=undef) (a':=?_) #[true,true,true,true,true,true,false,false,false,false,false,false,false,false] rfl rfl (any_of HT_.out (by kernel_rfl)) (fun _ _ _ h=>h) (Or.inr ⟨by rfl,rfl⟩) ?_ ?_
              rotate_left
              ·
               simp only [Act.put, zz11, zz12, zz13, i64_w, i32_w]
               rfl
              refine pure_ (i:=6) (N:=some 21) (v:=undef) (a':=?_) #[true,true,true,true,true,true,true,false,false,false,false,false,false,false] rfl rfl (any_of HT_.out (by kernel_rfl)) (fun _ _ _ h=>h) (Or.inr ⟨by rfl,rfl⟩) ?_ ?_
              rotate_left
              ·
               simp only [Act.put, zz11, zz12, zz13, i64_w, i32_w]
               rfl
              refine pure_ (i:=7) (N:=some 22) (v:=undef) (a':=?_) #[true,true,true,true,true,true,true,true,false,false,false,false,false,false] rfl rfl (any_of HT_.out (by kernel_rfl)) (fun _ _ _ h=>h) (Or.inr ⟨by rfl,rfl⟩) ?_ ?_
              rotate_left
              ·
               simp only [Act.put, zz11, zz12, zz13, i64_w, i32_w]
               rfl
              refine pure_ (i:=8) (N:=some 23) (v:=undef) (a':=?_) #[true,true,true,true,true,true,true,true,true,false,false,false,false,false] rfl rfl (any_of HT_.out (by kernel_rfl)) (fun _ _ _ h=>h) (Or.inr ⟨by rfl,rfl⟩) ?_ ?_
              rotate_left
              ·
               simp only [Act.put, zz11, zz12, zz13, i64_w, i32_w]
               rfl
              refine pure_ (i:=9) (N:=some 24) (v:=undef) (a':=?_) #[true,true,true,true,true,true,true,true,true,true,false,false,false,false] rfl rfl (any_of HT_.out (by kernel_rfl)) (fun _ _ _ h=>h) (Or.inr ⟨by rfl,rfl⟩) ?_ ?_
              rotate_left
              ·
               simp only [Act.put, zz11, zz12, zz13, i64_w, i32_w]
               rfl
              refine pure_ (i:=10) (N:=some 25) (v:=undef) (a':=?_) #[true,true,true,true,true,true,true,true,true,true,true,false,false,false] rfl rfl (any_of HT_.out (by kernel_rfl)) (fun _ _ _ h=>h) (Or.inr ⟨by rfl,rfl⟩) ?_ ?_
              rotate_left
              ·
               simp only [Act.put, zz11, zz12, zz13, i64_w, i32_w]
               rfl
              refine pure_ (i:=11) (N:=some 26) (v:=undef) (a':=?_) #[true,true,true,true,true,true,true,true,true,true,true,true,false,false] rfl rfl (any_of HT_.out (by kernel_rfl)) (fun _ _ _ h=>h) (Or.inr ⟨by rfl,rfl⟩) ?_ ?_
              rotate_left
              ·
               simp only [Act.put, zz11, zz12, zz13, i64_w, i32_w]
               rfl
              refine pure_ (i:=12) (N:=some 27) (v:=undef) (a':=?_) #[true,true,true,true,true,true,true,true,true,true,true,true,true,false] rfl rfl (any_of HT_.out (by kernel_rfl)) (fun _ _ _ h=>h) (Or.inr ⟨by rfl,rfl⟩) ?_ ?_
              rotate_left
              ·
               simp only [Act.put, zz11, zz12, zz13, i64_w, i32_w]
               rfl
              refine pure_ (i:=13) (N:=some 28) (v:=?_) (a':=?_) #[true,true,true,true,true,true,true,true,true,true,true,true,true,true] rfl rfl (any_of HT_.out (by kernel_rfl)) (fun _ _ _ h=>h) (Or.inl ⟨by rfl,?_⟩) ?_ ?_
              rotate_left
              ·
               intro w'
               go_simp
               with_reducible rfl
              rotate_left
              ·
               simp only [Act.put, zz11, zz12, zz13, i64_w, i32_w]
               rfl
              refine done_ (done_of HT_.out (by kernel_rfl)) ?_
              try go_wp2_with (first|((with_reducible refine zz24 (N:=31) rfl ?_);refine Kd.R_lit k57 _ 57 ?hg (N:=31) ?hd (xs:=([] : List (S57))) (inner:=[]) (ok:=fun _=>True) (okp:=fun _=>True) ?hr ?hp (fun _ hk=>hk) trivial (Below.refl _ _) (Nat.le_refl _) (by simp) ?_;(case hd=>rfl);(case hg=>rfl);(case hr=>first|(go_simp;done)|(go_simp;rfl));(case hp=>exact (Reps.none _ _));intro v387 w40 ho41 hb hg_ hnew_;clear hg_ hnew_;(first|rw [← Ny386.out] at ho41|(simp only [Int.reduceToNat] at ho41;rw [← Ny386.out] at ho41));have n0_:=zz00 (zz20 (by (with_reducible repeat (first|apply zz05|apply zz04|apply zz06));exact HO_3.out) (Kd.R_base ho41) hb);have n1_:=zz00 (Kd.R_lower (Kd.R_new' ho41 (Kd.R_lt (by (with_reducible repeat (first|apply zz05|apply zz04|apply zz06));exact HO_3.out))) (zz22 (by repeat (first|(with_reducible first|exact HB.out|apply zz03|apply zz01|apply zz02)|exact HB.out))));have n2_:=zz00 (zz21 (by repeat (first|(with_reducible first|exact HB.out|apply zz03|apply zz01|apply zz02)|exact HB.out)) hb);clear HO_3;clear HB;have HO_3:=n0_;have HO388:=n1_;have HB:=n2_;clear n0_ n1_ n2_;clear hb ho41;have q42 : (x5_2 : Int) ≤ ((x3_1.length : Int) : Int):=zz31 (by first|(with_reducible assumption)|assumption);obtain ⟨i042,hi042,_,hsz42,_⟩:=info_parts info57;have hroom42 : x3_1.length ≤ co3:=(Kd.R_reads' HO_3.out).2.1;have hC42 : Kd.C k57 _ Ao3 x3_1.length x3_1:=(Kd.R_reads' HO_3.out).2.2;have q042 : (0 : Int) ≤ (x5_2 : Int):=zz31 (by first|(with_reducible assumption)|assumption);have hcut42:=cut_from (P:=Tryz.prog) 22 57 .i64 Tryz.underlying22 hi042 2 hsz42 Ao3 x3_1.length co3 x5_2 q042 q42;have hr42:=Kd.C_drop (m:=(x5_2 : Int).toNat) (c:=co3) hC42 (by omega) hroom42;obtain ⟨A42,hA42⟩ : ∃ A1,A1 = (if co3 = (x5_2 : Int).toNat then Ao3 else (Ao3 : Option Addr).map (·.add ((x5_2 : Int).toNat * 2))):=⟨_,rfl⟩;obtain ⟨c42,hc42⟩ : ∃ c1,c1 = co3 - (x5_2 : Int).toNat:=⟨_,rfl⟩;have hy42 : y389.length = x3_1.length - (x5_2 : Int).toNat:=(by rw [Ny389.out,List.length_drop] <;> omega);rw [show (x3_1).drop (x5_2 : Int).toNat = y389 from Ny389.out.symm] at hr42;replace hr42 : Kd.C k57 _ A42 y389.length y389:=(by rw [hA42];exact hr42);rw [← hy42,← hA42,← hc42] at hcut42;have HR392:=zz00 hr42;have HC392:=zz00 (show y389.length ≤ c42 from by rw [hy42,hc42];exact Nat.sub_le_sub_right hroom42 _);clear hr42 hC42 hroom42 hi042 hsz42 hc42;have KY42:=zz00 hy42;have KA42:=zz00 hA42;clear hy42 hA42;have KL42:=zz00 (show (x5_2 : Int).toNat ≤ x3_1.length from by omega);replace q42:=eq_true q42)|((with_reducible refine gate_builtin (b:=.append) (xs:=#[.tmp 31,.tmp 34]) rfl ?_);at_builtin;refine Kd.R_append_rows k57 (w0:=w) w.heap.size rfl (.tmp 31) (.tmp 34) 22 57 (.agg #[(.int .i64 0),(.int .i64 0)]) 16 rfl Tryz.underlying22 info57 rfl (by decide) (by omega) v387 y386 y389 _ _ _ (fun k_=>some k_ ≠ (.slice Ao3 x3_1.length co3 : Value).ownBlock) (fun _=>False) rfl rfl ?aO ?aR (fun _ _ h=>h) (fun _ h=>h.elim) ?aF ?aB ?aS ?aL ?_;(case aR=>repeat (first|exact (by repeat (first|(with_reducible exact HR392.out)|(with_reducible refine Kd.C_alloc ?_ _)|(with_reducible refine Kd.C_drewN ?_ _)|(with_reducible refine Kd.C_drew ?_)|exact HR392.out))|(with_reducible refine Kd.C_alloc ?_ _)|(with_reducible refine Kd.C_drewN ?_ _)|(with_reducible refine Kd.C_drew ?_)));(case aB=>exact (by repeat (first|(with_reducible first|exact HB.out|apply zz03|apply zz01|apply zz02)|exact HB.out)));(case aF=>exact (fun k_ hk=>Kd.fresh' (Kd.R_lt (by (with_reducible repeat (first|apply zz05|apply zz04|apply zz06));exact HO_3.out)) k_ hk));(case aO=>exact (by (with_reducible repeat (first|apply zz05|apply zz04|apply zz06));exact Kd.R_mono HO388.out (fun _ hk=>hk.2)));(case aS=>exact (zz22 (by repeat (first|(with_reducible first|exact HB.out|apply zz03|apply zz01|apply zz02)|exact HB.out))));(case aL=>have:=LMc33.out;omega);intro v394 w43 ho hb hg hat;rw [← Ny393.out] at ho;have n0_:=zz00 (Kd.R_after (ok:=(fun _=>True)) (by (with_reducible repeat (first|apply zz05|apply zz04|apply zz06));exact HO_3.out) hg hat);have n1_:=zz00 (hb);have n2_:=zz00 ((show Kd.C k57 w43 A42 y389.length y389 from by rw [Ny389.out,KA42.out];exact Kd.C_drop (m:=(x5_2 : Int).toNat) (c:=co3) ((Kd.R_reads' (Kd.R_after (ok:=(fun _=>True)) (by (with_reducible repeat (first|apply zz05|apply zz04|apply zz06));exact HO_3.out) hg hat)).2.2) KL42.out ((Kd.R_reads' (Kd.R_after (ok:=(fun _=>True)) (by (with_reducible repeat (first|apply zz05|apply zz04|apply zz06));exact HO_3.out) hg hat)).2.1)));have n3_:=zz00 (ho);clear HO_3;clear HB;clear HR392;clear HO388;have HO_3:=n0_;have HB:=n1_;have HR392:=n2_;have HO395:=n3_;clear n0_ n1_ n2_ n3_;clear ho hb hg hat))
              have n0_ := zz00 (zz06 HO_3.out)
              have n1_ := zz00 (zz06 HO395.out)
              have n2_ := zz00 (Kd.C_drew HR392.out)
              have n3_ := zz00 (zz02 HB.out)
              clear HO_3
              clear HO395
              clear HR392
              clear HB
              have HO_3 := n0_
              have HO395 := n1_
              have HR392 := n2_
              have HB := n3_
              clear n0_ n1_ n2_ n3_
              have q45 : (x5_2 : Int) ≤ ((x3_1.length : Int) : Int) := zz31 (by first | (with_reducible assumption) | assumption)
              obtain ⟨i045, hi045, _, hsz45, _⟩ := info_parts info57
              have hcut45:=cut_to (P:=Tryz.prog) 22 57 .i64 Tryz.underlying22 hi045 Ao3 x3_1.length co3 x5_2 (zz31 (by first|(with_reducible assumption)|assumption)) q45 (Kd.R_reads' HO_3.out).2.1
              have hr45 := Kd.R_take (m := (x5_2 : Int).toNat) HO_3.out (by omega)
              have hy45 : y396.length = (x5_2 : Int).toNat := (by rw [Ny396.out, List.length_take]; omega)
              rw [← Ny396.out] at hr45
              rw [← hy45] at hr45 hcut45
              clear hy45 hi045 hsz45 HO_3
              have HO398 := zz00 hr45
              clear hr45
              replace q45 := eq_true q45
              have p399 : 0 ≤ (x4_1 : Int) := zz31 (by first | (with_reducible assumption) | assumption)
              have q399 : x4_1 < (l0.length : Int) := zz31 (by first | (with_reducible assumption) | assumption)
              obtain ⟨ad399, e399, hx399_0, hx399_1⟩ := at_T57 HR0.out x4_1 p399 q399
              have hw399_1 := hx399_1
              have hw399_0 := hx399_0
              cases e399
              replace hx399_0 := (HB.out.cell (World.block_lt_of_cell? w _ hx399_0)).trans hx399_0
              replace hx399_1 := (HB.out.cell (World.block_lt_of_cell? w _ hx399_1)).trans hx399_1
              replace p399 := eq_true p399
              replace q399 := eq_true q399
              refine start_ (n:=12) (S:=fun w'=>w'.cell? (ad399.add ((x4_1).toNat * 2)) = some (.int .i64 ((rd_T57 l0 x4_1).f0)) ∧ w'.cell? ⟨(ad399.add ((x4_1).toNat * 2)).block,(ad399.add ((x4_1).toNat * 2)).off + 1,none⟩ = some (.int .i64 ((rd_T57 l0 x4_1).f1))) (ds:=[]) #[false,false,false,false,false,false,false,false,false,false,false,false] (by kernel_rfl) rfl rfl ⟨((HB.out.cell (World.block_lt_of_cell? w _ hw399_0)).trans hw399_0),((HB.out.cell (World.block_lt_of_cell? w _ hw399_1)).trans hw399_1)⟩ (fun hHeld=>?_);refine with_tabW almanackerref19_Sort.tab9 almanackerref19_Sort.bits9 (fun HT_ HW_=>?_)
              generalize w43.drew = w44 at HO_3 HO395 HR392 HB HO398 hx399_0 hx399_1 hHeld ⊢
              refine pure_ (i:=0) (N:=some 36) (v:=?_) (a':=?_) #[true,false,false,false,false,false,false,false,false,false,false,false] rfl rfl (any_of HT_.out (by kernel_rfl)) (fun _ _ _ h=>h) (Or.inl ⟨by rfl,?_⟩) ?_ ?_
              rotate_left
              ·
               intro w'
               go_simp
               with_reducible rfl
              rotate_left
              ·
               simp only [Act.put, zz11, zz12, zz13, i64_w, i32_w]
               rfl
              refine pure_ (i:=1) (N:=some 37) (v:=?_) (a':=?_) #[true,true,false,false,false,false,false,false,false,false,false,false] rfl rfl (any_of HT_.out (by kernel_rfl)) (fun _ _ _ h=>h) (Or.inl ⟨by rfl,?_⟩) ?_ ?_
              rotate_left
              ·
               intro w'
               go_simp
               with_reducible rfl
              rotate_left
              ·
               simp only [Act.put, zz11, zz12, zz13, i64_w, i32_w]
               rfl
              refine pure_ (i:=2) (N:=some 38) (v:=?_) (a':=?_) #[true,true,true,false,false,false,false,false,false,false,false,false] rfl rfl (any_of HT_.out (by kernel_rfl)) (fun _ _ _ h=>h) (Or.inl ⟨by rfl,?_⟩) ?_ ?_
              rotate_left
              ·
               intro w'
               go_simp
               with_reducible rfl
              rotate_left
              ·
               simp only [Act.put, zz11, zz12, zz13, i64_w, i32_w]
               rfl
              refine pure_ (i:=3) (N:=some 39) (v:=?_) (a':=?_) #[true,true,true,true,false,false,false,false,false,false,false,false] rfl rfl (any_of HT_.out (by kernel_rfl)) (fun _ _ _ h=>h) (Or.inl ⟨by rfl,?_⟩) ?_ ?_
              rotate_left
              ·
               intro w'
               go_simp
               with_reducible rfl
              rotate_left
              ·
               simp only [Act.put, zz11, zz12, zz13, i64_w, i32_w]
               rfl
              refine pure_ (i:=4) (N:=some 40) (v:=?_) (a':=?_) #[true,true,true,true,true,false,false,false,false,false,false,false] rfl rfl (any_of HT_.out (by kernel_rfl)) (fun _ _ _ h=>h) (Or.inl ⟨by rfl,?_⟩) ?_ ?_
              rotate_left
              ·
               intro w'
               go_simp
               with_reducible rfl
              rotate_left
              ·
               simp only [Act.put, zz11, zz12, zz13, i64_w, i32_w]
               rfl
              refine pure_ (i:=5) (N:=some 41) (v:=?_) (a':=?_) #[true,true,true,true,true,true,false,false,false,false,false,false] rfl rfl (any_of HT_.out (by kernel_rfl)) (fun _ _ _ h=>h) (Or.inl ⟨by rfl,?_⟩) ?_ ?_
              rotate_left
              ·
               intro w'
               go_simp
               with_reducible rfl
              rotate_left
              ·
               simp only [Act.put, zz11, zz12, zz13, i64_w, i32_w]
               rfl
              refine pure_ (i:=9) (N:=some 45) (v:=?_) (a':=?_) #[true,true,true,true,true,true,false,false,false,true,false,false] rfl rfl (any_of HT_.out (by kernel_rfl)) (fun _ _ _ h=>h) (Or.inl ⟨by rfl,?_⟩) ?_ ?_
              rotate_left
              ·
               intro w'
               go_simp
               with_reducible rfl
              rotate_left
              ·
               simp only [Act.put, zz11, zz12, zz13, i64_w, i32_w]
               rfl
              refine take_ (i:=6) (N:=some 42) (v:=?_) (a':=?_) #[true,true,true,true,true,true,true,false,false,true,false,false] rfl rfl (take_ofW HT_.out HW_.out (by kernel_rfl)) (fun _ _ _ h=>h) (Or.inl ⟨by rfl,?_⟩) hHeld ?_ ?_
              rotate_left
              ·
               rintro w' ⟨s0, s1⟩
               go_simp
               with_reducible rfl
              rotate_left
              ·
               simp only [Act.put, zz11, zz12, zz13, i64_w, i32_w]
               rfl
              refine one_ (i := 7) (N := some 43) #[true, true, true, true, true, true, true, true, false, true, false, false] rfl rfl (one_of HT_.out (by kernel_rfl)) (by decide) (fun K hK => ?_)
              refine value_ (w1 := ?_) (v := ?_) (by rfl) rfl ?_ ?_
              rotate_left 2
              ·
               go_simp
               constructor
               ·
                rfl
               ·
                rfl
              refine hK.out _ _ ⟨(World.cell?_alloc_lt _ _ _ (World.block_lt_of_cell? _ _ (((HB.out.cell (World.block_lt_of_cell? w _ hw399_0)).trans hw399_0)))).trans (((HB.out.cell (World.block_lt_of_cell? w _ hw399_0)).trans hw399_0)),(World.cell?_alloc_lt _ _ _ (World.block_lt_of_cell? _ _ (((HB.out.cell (World.block_lt_of_cell? w _ hw399_1)).trans hw399_1)))).trans (((HB.out.cell (World.block_lt_of_cell? w _ hw399_1)).trans hw399_1))⟩ (fun hHeld=>?_)
              clear hK K
              refine norm_ (a' := ?_) ?_ ?_
              rotate_left
              ·
               show Act.put _ (some 43) _ = _
               simp only [Act.put, zz11, zz12, zz13, i64_w, i32_w]
               rfl
              refine one_ (i := 8) (N := some 44) #[true, true, true, true, true, true, true, true, true, true, false, false] rfl rfl (one_of HT_.out (by kernel_rfl)) (by decide) (fun K hK => ?_)
              refine Kd.R_append_step k57 (w0:=w) w.heap.size (by rfl) (.tmp 38) (.tmp 43) 22 57 (.agg #[(.int .i64 0),(.int .i64 0)]) 16 rfl Tryz.underlying22 info57 rfl (by decide) (by omega) (.slice Ao3 y396.length co3) y396 (⟨(rd_T57 l0 x4_1).f0,(rd_T57 l0 x4_1).f1⟩ : S57) [.int .i64 ((rd_T57 l0 x4_1).f0),.int .i64 ((rd_T57 l0 x4_1).f1)] (fun k_=>some k_ ≠ (v394 : Value).ownBlock) (fun _=>False) rfl rfl ?aP (fun _ hk=>hk.elim) ?aF ?aO ?aB ?aS ?aL ?_
              (case aP => exact k57_mkM _ _ _ (⟨(rd_T57 l0 x4_1).f0, (rd_T57 l0 x4_1).f1⟩ : S57))
              (case aB => exact (by repeat (first | (with_reducible first | exact HB.out | apply zz03 | apply zz01 | apply zz02) | exact HB.out)))
              (case aF => exact (fun k_ hk => Kd.fresh' (Kd.R_lt (by (with_reducible repeat (first | apply zz05 | apply zz04 | apply zz06)); exact HO395.out)) k_ hk))
              (case aO => exact (by (with_reducible repeat (first | apply zz05 | apply zz04 | apply zz06)); exact Kd.R_mono HO398.out (fun _ hk => hk.2)))
              (case aS => exact (zz22 (by repeat (first | (with_reducible first | exact HB.out | apply zz03 | apply zz01 | apply zz02) | exact HB.out))))
              (case aL => have := LMc37.out; omega)
              intro v401 w46 ho hb hg hat
              rw [← Ny400.out] at ho
              have n0_:=zz00 (Kd.R_after (ok:=(fun _=>True)) (by (with_reducible repeat (first|apply zz05|apply zz04|apply zz06));exact Kd.R_mono HO395.out (fun _ hk=>⟨trivial,by first|exact hk|(cases A1 <;> exact hk)|(cases A10 <;> exact hk)|(cases A24 <;> exact hk)|(cases A42 <;> exact hk)|(cases Ao3 <;> exact hk)|(cases Ao30 <;> exact hk)⟩)) hg hat)
              have n1_ := zz00 (hb)
              have n2_ := zz00 (ho)
              clear HO395
              clear HB
              clear HO398
              have HO395 := n0_
              have HB := n1_
              have HO402 := n2_
              clear n0_ n1_ n2_
              clear ho hb hg hat
              obtain ⟨Ao48, co48, eo48⟩ := Kd.R_slice HO395.out
              (first | subst eo48 | (injection eo48 with f1_ f2_ f3_; have f4_ := f1_.symm; have f5_ := f3_.symm; clear f1_ f2_ f3_; subst f4_; subst f5_))
              refine hK.out _ _ ⟨((HB.out.cell (World.block_lt_of_cell? w _ hw399_0)).trans hw399_0), ((HB.out.cell (World.block_lt_of_cell? w _ hw399_1)).trans hw399_1)⟩ (fun hHeld => ?_)
              clear hK K
              refine norm_ (a' := ?_) ?_ ?_
              rotate_left
              ·
               show Act.put _ (some 44) _ = _
               simp only [Act.put, zz11, zz12, zz13, i64_w, i32_w]
               rfl
              refine one_ (i := 10) (N := some 46) #[true, true, true, true, true, true, true, true, true, true, true, false] rfl rfl (one_of HT_.out (by kernel_rfl)) (by decide) (fun K hK => ?_)
              refine Kd.R_append_rows_step k57 (w0:=w) w.heap.size (by rfl) (.tmp 44) (.tmp 45) 22 57 (.agg #[(.int .i64 0),(.int .i64 0)]) 16 rfl Tryz.underlying22 info57 rfl (by decide) (by omega) v401 y400 y393 _ _ _ (fun k_=>some k_ ≠ (.slice Ao48 y393.length co48 : Value).ownBlock) (fun _=>False) rfl rfl ?aO ?aR (fun _ _ h=>h) (fun _ h=>h.elim) ?aF ?aB ?aS ?aL ?_
              (case aR => repeat (first | exact (Kd.R_reads' HO395.out).2.2 | (with_reducible refine Kd.C_alloc ?_ _) | (with_reducible refine Kd.C_drewN ?_ _) | (with_reducible refine Kd.C_drew ?_)))
              (case aB => exact (by repeat (first | (with_reducible first | exact HB.out | apply zz03 | apply zz01 | apply zz02) | exact HB.out)))
              (case aF => exact (fun k_ hk => Kd.fresh' (Kd.R_lt (by (with_reducible repeat (first | apply zz05 | apply zz04 | apply zz06)); exact HO395.out)) k_ hk))
              (case aO => exact (by (with_reducible repeat (first | apply zz05 | apply zz04 | apply zz06)); exact HO402.out))
              (case aS => exact (zz22 (by repeat (first | (with_reducible first | exact HB.out | apply zz03 | apply zz01 | apply zz02) | exact HB.out))))
              (case aL => have := LMc38.out; omega)
              intro v404 w47 ho hb hg hat
              rw [← Ny403.out] at ho
              have n0_ := zz00 (Kd.R_after (ok := (fun _ => True)) (by (with_reducible repeat (first | apply zz05 | apply zz04 | apply zz06)); exact HO395.out) hg hat)
              have n1_ := zz00 (hb)
              have n2_ := zz00 (ho)
              clear HO395
              clear HB
              clear HO402
              have HO395 := n0_
              have HB := n1_
              have HO405 := n2_
              clear n0_ n1_ n2_
              clear ho hb hg hat
              refine hK.out _ _ ⟨((HB.out.cell (World.block_lt_of_cell? w _ hw399_0)).trans hw399_0), ((HB.out.cell (World.block_lt_of_cell? w _ hw399_1)).trans hw399_1)⟩ (fun hHeld => ?_)
              clear hK K
              refine norm_ (a' := ?_) ?_ ?_
              rotate_left
              ·
               show Act.put _ (some 46) _ = _
               simp only [Act.put, zz11, zz12, zz13, i64_w, i32_w]
               rfl
              refine pure_ (i:=11) (N:=some 3) (v:=?_) (a':=?_) #[true,true,true,true,true,true,true,true,true,true,true,true] rfl rfl (any_of HT_.out (by kernel_rfl)) (fun _ _ _ h=>h) (Or.inl ⟨by rfl,?_⟩) ?_ ?_
              rotate_left
              ·
               intro w'
               go_simp
               with_reducible rfl
              rotate_left
              ·
               simp only [Act.put, zz11, zz12, zz13, i64_w, i32_w]
               rfl
              refine done_ (done_of HT_.out (by kernel_rfl)) ?_
              try go_wp2
              go_roundg k2
              case measure => have := HK1.out; have := HK2.out; omega
              case rel=>exact ⟨(y403),(wrap64 (x4_1 + 1)),(by first|rfl|(simp;done)|(simp [*];done)),H',⟨by have:=HK1.out;have:=HK2.out;omega⟩,⟨by (with_reducible repeat (first|apply zz05|apply zz04|apply zz06));exact Kd.R_mono HO405.out (fun _ hk=>trivial)⟩,⟨by repeat (first|(with_reducible first|exact HB.out|apply zz03|apply zz01|apply zz02)|exact HB.out)⟩⟩
             ·
              rw [if_neg c38] at H
              exact absurd H (by simp)
            ·
             rw [if_neg c37] at H
             exact absurd H (by simp)
           ·
            rw [if_neg c36] at H
            exact absurd H (by simp)
          ·
           rw [if_neg c35] at H
           exact absurd H (by simp)
         ·
          rw [if_neg c33] at H
          exact absurd H (by simp)
        ·
         rw [if_neg c32] at H
         exact absurd H (by simp)
       ·
        rw [if_neg c31] at H
        exact absurd H (by simp)
   ·
    rw [if_neg c2] at H
    have c2b0 : decide (x4_1 < (l0.length : Int)) = false := decide_eq_false c2
    clear c2
    obtain rfl := Option.some.inj H
    go_wp2
    go_ret
    exact ⟨_,by first|rfl|(simp [errW_none,errW_some] <;> rfl)|(simp [*,errW_none,errW_some] <;> rfl),by (with_reducible repeat (first|apply zz05|apply zz04|apply zz06));exact HO_3.out,by repeat (first|(with_reducible first|exact HB.out|apply zz03|apply zz01|apply zz02)|exact HB.out)⟩

end Go.Proofs.YtflpddhoiafhcaaGreatDoor.S
end

section
-- Written by wip/hprint.py of this repo (holes typed by hand, all else by a program) over the seat YtflpddhoiafhcaaGreatDoor.
namespace Go.Proofs.YtflpddhoiafhcaaGreatDoor.S
open Go.Proofs.YtflpddhoiafhcaaGreatDoor.H
open Go.RowKit Go.Proofs.YtflpddhoiafhcaaGreatDoorW.PrintWords Go.Proofs.YtflpddhoiafhcaaGreatDoorW.PrintLast Go.Proofs.YtflpddhoiafhcaaGreatDoorW.PrintMore
attribute [local go_sem] max2_int min2_int max_two min_two max_three min_three max_four min_four   -- for this text's walks alone
set_option linter.unusedVariables false
set_option linter.unusedSimpArgs false

def almanackerref12_From.l0 : Nat → Int → Int → Option (Int)
  | 0, _, _ => none
  | k + 1, x0, x1 => (almanackerref04_Weekday.f x0).bind fun t407 => (if t407 = x1 then (some x0) else (almanackerref12_From.l0 k (wrap64 (x0 + 1)) x1))
def almanackerref12_From.f (k : Nat) (a0 : Int) (a1 : Int) : Option (Int) := (almanackerref12_is.f a1).bind fun t406 => (if t406 = true then (almanackerref12_From.l0 k a0 a1) else (some a0))
set_option maxHeartbeats 8000000 in
set_option maxRecDepth 100000 in
theorem almanackerref12_From.calls (k : Nat) (a0 : Int) (a1 : Int) (r : Int) (w : World) (h : almanackerref12_From.f k a0 a1 = some r) :
  Calls Tryz.prog 40 #[.int .i64 a0, .int .i64 a1] w fun e w' => e = .returned (.int .i64 r) ∧ Drawn0 w w' := by
 have H : ((almanackerref12_is.f a1).bind fun t406 => (if t406 = true then (almanackerref12_From.l0 k a0 a1) else (some a0))) = some r := h
 clear h
 replace H := zz14.mp H
 obtain ⟨t406, A30, H⟩ := H
 replace H : (if t406 = true then (almanackerref12_From.l0 k a0 a1) else (some a0)) = some r := H
 have A3 := zz00 A30
 clear A30
 by_cases c4 : t406 = true
 ·
  subst c4
  have H1 : (almanackerref12_From.l0 k a0 a1) = some r := by rw [if_pos rfl] at H; exact H
  clear H
  have H := H1
  clear H1
  have H' := zz00 H
  clear H
  go_enter Tryz.func40, Tryz.ntmps40
  go_wp2_with (first|((with_reducible refine zz23 (f:=89) rfl ?_);refine zz25 (some 6) rfl rfl Tryz.func89 (by kernel_rfl) rfl #[.int .i64 a1] rfl (by (try simp only [List.map_toArray,List.map_cons,List.map_nil]);first|done|rfl|(simp only [List.length_drop,List.length_take];rfl)) ?_;(with_reducible refine (almanackerref12_is.calls a1 true _ A3.out).mono ?_);rintro e w' ⟨rfl,⟨nd,rfl⟩⟩;refine ⟨_,rfl,?_⟩))
  go_loopg [0] k (fun kq v0 w' => ∃ (x0_1 : Int), v0 = .int .i64 x0_1 ∧ Aside0 (almanackerref12_From.l0 kq x0_1 a1 = some r) ∧ Aside0 (kq ≤ k) ∧ Drawn0 w w')
  case atStart => exact ⟨(a0), (by first | rfl | (simp; done) | (simp [*]; done)), H', ⟨Nat.le_refl _⟩, by repeat (first | exact Drawn0.refl _ | apply Drawn0.step)⟩
  case round =>
   clear H'
   try clear p2
   try clear c4
   obtain ⟨x0_1, rfl, HA, HK1, ⟨m1, rfl⟩⟩ := hrel
   cases gk with
   | zero => exact absurd HA.out (by simp [almanackerref12_From.l0])
   | succ k1 =>
    have H := HA.out
    clear HA
    simp only [almanackerref12_From.l0] at H
    replace H := zz14.mp H
    obtain ⟨t407, A50, H⟩ := H
    replace H : (if t407 = a1 then (some x0_1) else (almanackerref12_From.l0 k1 (wrap64 (x0_1 + 1)) a1)) = some r := H
    have A5 := zz00 A50
    clear A50
    by_cases c6 : t407 = a1
    ·
     rw [if_pos c6] at H
     have c6b0 : (t407 == a1) = true := zz29.mpr c6
     have c6b1 : (t407 != a1) = false := zz26.mpr c6
     clear c6
     obtain rfl := Option.some.inj H
     go_wp2_with (first|((with_reducible refine zz23 (f:=90) rfl ?_);refine zz25 (some 10) rfl rfl Tryz.func90 (by kernel_rfl) rfl #[.int .i64 x0_1] rfl (by (try simp only [List.map_toArray,List.map_cons,List.map_nil]);first|done|rfl|(simp only [List.length_drop,List.length_take];rfl)) ?_;(with_reducible refine (almanackerref04_Weekday.calls x0_1 t407 _ A5.out).mono ?_);rintro e w' ⟨rfl,⟨nd,rfl⟩⟩;refine ⟨_,rfl,?_⟩))
     go_ret
     exact ⟨by first | rfl | (simp; done) | (simp [*]; done), by repeat (first | exact Drawn0.refl _ | apply Drawn0.step)⟩
    ·
     rw [if_neg c6] at H
     have c6b0 : (t407 == a1) = false := zz27.mpr c6
     have c6b1 : (t407 != a1) = true := zz28.mpr c6
     have H' := zz00 H
     clear H
     go_wp2_with (first|((with_reducible refine zz23 (f:=90) rfl ?_);refine zz25 (some 10) rfl rfl Tryz.func90 (by kernel_rfl) rfl #[.int .i64 x0_1] rfl (by (try simp only [List.map_toArray,List.map_cons,List.map_nil]);first|done|rfl|(simp only [List.length_drop,List.length_take];rfl)) ?_;(with_reducible refine (almanackerref04_Weekday.calls x0_1 t407 _ A5.out).mono ?_);rintro e w' ⟨rfl,⟨nd,rfl⟩⟩;refine ⟨_,rfl,?_⟩))
     go_roundg k1
     case measure => have := HK1.out; omega
     case rel => exact ⟨(wrap64 (x0_1 + 1)), (by first | rfl | (simp; done) | (simp [*]; done)), H', ⟨by have := HK1.out; omega⟩, by repeat (first | exact Drawn0.refl _ | apply Drawn0.step)⟩
 ·
  replace c4 := zz32.mpr c4
  subst c4
  have H1 : (some a0) = some r := by rw [if_neg (show ¬ (false = true) by decide)] at H; exact H
  clear H
  have H := H1
  clear H1
  obtain rfl := Option.some.inj H
  go_enter Tryz.func40, Tryz.ntmps40
  go_wp2_with (first|((with_reducible refine zz23 (f:=89) rfl ?_);refine zz25 (some 6) rfl rfl Tryz.func89 (by kernel_rfl) rfl #[.int .i64 a1] rfl (by (try simp only [List.map_toArray,List.map_cons,List.map_nil]);first|done|rfl|(simp only [List.length_drop,List.length_take];rfl)) ?_;(with_reducible refine (almanackerref12_is.calls a1 false _ A3.out).mono ?_);rintro e w' ⟨rfl,⟨nd,rfl⟩⟩;refine ⟨_,rfl,?_⟩))
  go_ret
  exact ⟨by first | rfl | (simp; done) | (simp [*]; done), by repeat (first | exact Drawn0.refl _ | apply Drawn0.step)⟩

def almanackerref22_Of.f (k : Nat) (a0 : Int) : Option ((List (S57)) × Int) := (almanackerref07_Right.f a0).bind fun t408 => (if t408 = true then ((almanackerref22_upto.f k a0 7 1).bind fun t409 => ((almanackerref22_upto.f k a0 11 9).bind fun t410 => ((almanackerref19_Day.f k a0 1 3).bind fun t411 => ((almanackerref12_From.f k t411 6).bind fun t412 => ((almanackerref22_upto.f k a0 6 1).bind fun t413 => ((almanackerref22_upto.f k a0 6 13).bind fun t414 => ((almanackerref22_upto.f k a0 7 14).bind fun t415 => ((almanackerref19_Sort.f k (([(⟨35, t412⟩ : S57), (⟨30, t413⟩ : S57), (⟨31, t414⟩ : S57), (⟨32, wrap64 (t409 - 7)⟩ : S57), (⟨33, t409⟩ : S57), (⟨34, t415⟩ : S57), (⟨36, t410⟩ : S57), (⟨37, wrap64 (t410 + 7)⟩ : S57)] : List (S57)))).bind fun t419 => (some (t419, 0)))))))))) else (some (([] : List (S57)), 2)))
set_option maxHeartbeats 8000000 in
set_option maxRecDepth 100000 in
theorem almanackerref22_Of.calls (k : Nat) (a0 : Int) (r1 : List (S57)) (r2 : Int) (w : World) (h : almanackerref22_Of.f k a0 = some (r1, r2)) :
  Calls Tryz.prog 10 #[.int .i64 a0] w fun e w' => ∃ v0_ : Value, e = .returned (.tuple #[v0_, .int .i64 r2]) ∧ Kd.R k57 57 w' w.heap.size (fun _ => True) v0_ r1 ∧ Below w.heap.size w w' := by
 have hu57 := Tryz.underlying57
 have HB := zz00 (Below.refl w.heap.size w)
 have H : ((almanackerref07_Right.f a0).bind fun t408=>(if t408 = true then ((almanackerref22_upto.f k a0 7 1).bind fun t409=>((almanackerref22_upto.f k a0 11 9).bind fun t410=>((almanackerref19_Day.f k a0 1 3).bind fun t411=>((almanackerref12_From.f k t411 6).bind fun t412=>((almanackerref22_upto.f k a0 6 1).bind fun t413=>((almanackerref22_upto.f k a0 6 13).bind fun t414=>((almanackerref22_upto.f k a0 7 14).bind fun t415=>((almanackerref19_Sort.f k (([(⟨35,t412⟩ : S57),(⟨30,t413⟩ : S57),(⟨31,t414⟩ : S57),(⟨32,wrap64 (t409 - 7)⟩ : S57),(⟨33,t409⟩ : S57),(⟨34,t415⟩ : S57),(⟨36,t410⟩ : S57),(⟨37,wrap64 (t410 + 7)⟩ : S57)] : List (S57)))).bind fun t419=>(some (t419,0)))))))))) else (some (([] : List (S57)),2)))) = some (r1,r2):=h
 clear h
 replace H := zz14.mp H
 obtain ⟨t408, A20, H⟩ := H
 replace H : (if t408 = true then ((almanackerref22_upto.f k a0 7 1).bind fun t409=>((almanackerref22_upto.f k a0 11 9).bind fun t410=>((almanackerref19_Day.f k a0 1 3).bind fun t411=>((almanackerref12_From.f k t411 6).bind fun t412=>((almanackerref22_upto.f k a0 6 1).bind fun t413=>((almanackerref22_upto.f k a0 6 13).bind fun t414=>((almanackerref22_upto.f k a0 7 14).bind fun t415=>((almanackerref19_Sort.f k (([(⟨35,t412⟩ : S57),(⟨30,t413⟩ : S57),(⟨31,t414⟩ : S57),(⟨32,wrap64 (t409 - 7)⟩ : S57),(⟨33,t409⟩ : S57),(⟨34,t415⟩ : S57),(⟨36,t410⟩ : S57),(⟨37,wrap64 (t410 + 7)⟩ : S57)] : List (S57)))).bind fun t419=>(some (t419,0)))))))))) else (some (([] : List (S57)),2))) = some (r1,r2):=H
 have A2 := zz00 A20
 clear A20
 by_cases c3 : t408 = true
 ·
  subst c3
  have H1 : ((almanackerref22_upto.f k a0 7 1).bind fun t409=>((almanackerref22_upto.f k a0 11 9).bind fun t410=>((almanackerref19_Day.f k a0 1 3).bind fun t411=>((almanackerref12_From.f k t411 6).bind fun t412=>((almanackerref22_upto.f k a0 6 1).bind fun t413=>((almanackerref22_upto.f k a0 6 13).bind fun t414=>((almanackerref22_upto.f k a0 7 14).bind fun t415=>((almanackerref19_Sort.f k (([(⟨35,t412⟩ : S57),(⟨30,t413⟩ : S57),(⟨31,t414⟩ : S57),(⟨32,wrap64 (t409 - 7)⟩ : S57),(⟨33,t409⟩ : S57),(⟨34,t415⟩ : S57),(⟨36,t410⟩ : S57),(⟨37,wrap64 (t410 + 7)⟩ : S57)] : List (S57)))).bind fun t419=>(some (t419,0)))))))))) = some (r1,r2):=by rw [if_pos rfl] at H;exact H
  clear H
  have H := H1
  clear H1
  replace H := zz14.mp H
  obtain ⟨t409, A40, H⟩ := H
  replace H : ((almanackerref22_upto.f k a0 11 9).bind fun t410=>((almanackerref19_Day.f k a0 1 3).bind fun t411=>((almanackerref12_From.f k t411 6).bind fun t412=>((almanackerref22_upto.f k a0 6 1).bind fun t413=>((almanackerref22_upto.f k a0 6 13).bind fun t414=>((almanackerref22_upto.f k a0 7 14).bind fun t415=>((almanackerref19_Sort.f k (([(⟨35,t412⟩ : S57),(⟨30,t413⟩ : S57),(⟨31,t414⟩ : S57),(⟨32,wrap64 (t409 - 7)⟩ : S57),(⟨33,t409⟩ : S57),(⟨34,t415⟩ : S57),(⟨36,t410⟩ : S57),(⟨37,wrap64 (t410 + 7)⟩ : S57)] : List (S57)))).bind fun t419=>(some (t419,0))))))))) = some (r1,r2):=H
  have A4 := zz00 A40
  clear A40
  replace H := zz14.mp H
  obtain ⟨t410, A50, H⟩ := H
  replace H : ((almanackerref19_Day.f k a0 1 3).bind fun t411=>((almanackerref12_From.f k t411 6).bind fun t412=>((almanackerref22_upto.f k a0 6 1).bind fun t413=>((almanackerref22_upto.f k a0 6 13).bind fun t414=>((almanackerref22_upto.f k a0 7 14).bind fun t415=>((almanackerref19_Sort.f k (([(⟨35,t412⟩ : S57),(⟨30,t413⟩ : S57),(⟨31,t414⟩ : S57),(⟨32,wrap64 (t409 - 7)⟩ : S57),(⟨33,t409⟩ : S57),(⟨34,t415⟩ : S57),(⟨36,t410⟩ : S57),(⟨37,wrap64 (t410 + 7)⟩ : S57)] : List (S57)))).bind fun t419=>(some (t419,0)))))))) = some (r1,r2):=H
  have A5 := zz00 A50
  clear A50
  replace H := zz14.mp H
  obtain ⟨t411, A60, H⟩ := H
  replace H : ((almanackerref12_From.f k t411 6).bind fun t412=>((almanackerref22_upto.f k a0 6 1).bind fun t413=>((almanackerref22_upto.f k a0 6 13).bind fun t414=>((almanackerref22_upto.f k a0 7 14).bind fun t415=>((almanackerref19_Sort.f k (([(⟨35,t412⟩ : S57),(⟨30,t413⟩ : S57),(⟨31,t414⟩ : S57),(⟨32,wrap64 (t409 - 7)⟩ : S57),(⟨33,t409⟩ : S57),(⟨34,t415⟩ : S57),(⟨36,t410⟩ : S57),(⟨37,wrap64 (t410 + 7)⟩ : S57)] : List (S57)))).bind fun t419=>(some (t419,0))))))) = some (r1,r2):=H
  have A6 := zz00 A60
  clear A60
  replace H := zz14.mp H
  obtain ⟨t412, A70, H⟩ := H
  replace H : ((almanackerref22_upto.f k a0 6 1).bind fun t413=>((almanackerref22_upto.f k a0 6 13).bind fun t414=>((almanackerref22_upto.f k a0 7 14).bind fun t415=>((almanackerref19_Sort.f k (([(⟨35,t412⟩ : S57),(⟨30,t413⟩ : S57),(⟨31,t414⟩ : S57),(⟨32,wrap64 (t409 - 7)⟩ : S57),(⟨33,t409⟩ : S57),(⟨34,t415⟩ : S57),(⟨36,t410⟩ : S57),(⟨37,wrap64 (t410 + 7)⟩ : S57)] : List (S57)))).bind fun t419=>(some (t419,0)))))) = some (r1,r2):=H
  have A7 := zz00 A70
  clear A70
  replace H := zz14.mp H
  obtain ⟨t413, A80, H⟩ := H
  replace H : ((almanackerref22_upto.f k a0 6 13).bind fun t414=>((almanackerref22_upto.f k a0 7 14).bind fun t415=>((almanackerref19_Sort.f k (([(⟨35,t412⟩ : S57),(⟨30,t413⟩ : S57),(⟨31,t414⟩ : S57),(⟨32,wrap64 (t409 - 7)⟩ : S57),(⟨33,t409⟩ : S57),(⟨34,t415⟩ : S57),(⟨36,t410⟩ : S57),(⟨37,wrap64 (t410 + 7)⟩ : S57)] : List (S57)))).bind fun t419=>(some (t419,0))))) = some (r1,r2):=H
  have A8 := zz00 A80
  clear A80
  replace H := zz14.mp H
  obtain ⟨t414, A90, H⟩ := H
  replace H : ((almanackerref22_upto.f k a0 7 14).bind fun t415=>((almanackerref19_Sort.f k (([(⟨35,t412⟩ : S57),(⟨30,t413⟩ : S57),(⟨31,t414⟩ : S57),(⟨32,wrap64 (t409 - 7)⟩ : S57),(⟨33,t409⟩ : S57),(⟨34,t415⟩ : S57),(⟨36,t410⟩ : S57),(⟨37,wrap64 (t410 + 7)⟩ : S57)] : List (S57)))).bind fun t419=>(some (t419,0)))) = some (r1,r2):=H
  have A9 := zz00 A90
  clear A90
  replace H := zz14.mp H
  obtain ⟨t415, A100, H⟩ := H
  replace H : ((almanackerref19_Sort.f k (([(⟨35,t412⟩ : S57),(⟨30,t413⟩ : S57),(⟨31,t414⟩ : S57),(⟨32,wrap64 (t409 - 7)⟩ : S57),(⟨33,t409⟩ : S57),(⟨34,t415⟩ : S57),(⟨36,t410⟩ : S57),(⟨37,wrap64 (t410 + 7)⟩ : S57)] : List (S57)))).bind fun t419=>(some (t419,0))) = some (r1,r2):=H
  have A10 := zz00 A100
  clear A100
  obtain ⟨y416,hy416⟩ : ∃ y_ : List (S57),y_ = (([(⟨35,t412⟩ : S57),(⟨30,t413⟩ : S57),(⟨31,t414⟩ : S57),(⟨32,wrap64 (t409 - 7)⟩ : S57),(⟨33,t409⟩ : S57),(⟨34,t415⟩ : S57),(⟨36,t410⟩ : S57),(⟨37,wrap64 (t410 + 7)⟩ : S57)] : List (S57))):=⟨_,rfl⟩
  replace H : ((almanackerref19_Sort.f k y416).bind fun t419=>(some (t419,0))) = some (r1,r2):=by first|(rw [hy416];with_reducible exact H)|(have H2_:=(Option.bind_some _ _).symm.trans H;rw [hy416];with_reducible exact H2_)|(have H2_:=(Option.bind_some _ _).symm.trans H;with_reducible exact H2_)|with_reducible exact H|(rw [hy416];exact H)|exact H
  have Ny416 := zz00 hy416
  clear hy416
  replace H := zz14.mp H
  obtain ⟨t419, A110, H⟩ := H
  replace H : (some (t419, 0)) = some (r1, r2) := H
  have A11 := zz00 A110
  clear A110
  simp only [zz15, zz16] at H
  obtain ⟨rfl, rfl⟩ := H
  go_enter Tryz.func10, Tryz.ntmps10
  go_wp2_with (first|((with_reducible refine zz23 (f:=37) rfl ?_);refine zz25 (some 7) rfl rfl Tryz.func37 (by kernel_rfl) rfl #[.int .i64 a0] rfl (by (try simp only [List.map_toArray,List.map_cons,List.map_nil]);first|done|rfl|(simp only [List.length_drop,List.length_take];rfl)) ?_;(with_reducible refine (almanackerref07_Right.calls a0 true _ A2.out).mono ?_);rintro e w' ⟨rfl,⟨nd,rfl⟩⟩;refine ⟨_,rfl,?_⟩)|((with_reducible refine zz23 (f:=38) rfl ?_);refine zz25 (some 10) rfl rfl Tryz.func38 (by kernel_rfl) rfl #[.int .i64 a0,.int .i64 7,.int .i64 1] rfl (by (try simp only [List.map_toArray,List.map_cons,List.map_nil]);first|done|rfl|(simp only [List.length_drop,List.length_take];rfl)) ?_;(with_reducible refine (almanackerref22_upto.calls k a0 7 1 t409 _ A4.out).mono ?_);rintro e w12 ⟨rfl,hb⟩;refine ⟨_,rfl,?_⟩;have n0_:=zz00 (zz21 (by repeat (first|(with_reducible first|exact HB.out|apply zz03|apply zz01|apply zz02)|exact HB.out)) hb);clear HB;have HB:=n0_;clear n0_;(try clear hb);(try clear hb2);(try clear hk);(try clear hi))|((with_reducible refine zz23 (f:=38) rfl ?_);refine zz25 (some 12) rfl rfl Tryz.func38 (by kernel_rfl) rfl #[.int .i64 a0,.int .i64 11,.int .i64 9] rfl (by (try simp only [List.map_toArray,List.map_cons,List.map_nil]);first|done|rfl|(simp only [List.length_drop,List.length_take];rfl)) ?_;(with_reducible refine (almanackerref22_upto.calls k a0 11 9 t410 _ A5.out).mono ?_);rintro e w13 ⟨rfl,hb⟩;refine ⟨_,rfl,?_⟩;have n0_:=zz00 (zz21 (by repeat (first|(with_reducible first|exact HB.out|apply zz03|apply zz01|apply zz02)|exact HB.out)) hb);clear HB;have HB:=n0_;clear n0_;(try clear hb);(try clear hb2);(try clear hk);(try clear hi))|((with_reducible refine zz23 (f:=41) rfl ?_);refine zz25 (some 14) rfl rfl Tryz.func41 (by kernel_rfl) rfl #[.int .i64 a0,.int .i64 1,.int .i64 3] rfl (by (try simp only [List.map_toArray,List.map_cons,List.map_nil]);first|done|rfl|(simp only [List.length_drop,List.length_take];rfl)) ?_;(with_reducible refine (almanackerref19_Day.calls k a0 1 3 t411 _ A6.out).mono ?_);rintro e w14 ⟨rfl,hb⟩;refine ⟨_,rfl,?_⟩;have n0_:=zz00 (zz21 (by repeat (first|(with_reducible first|exact HB.out|apply zz03|apply zz01|apply zz02)|exact HB.out)) hb);clear HB;have HB:=n0_;clear n0_;(try clear hb);(try clear hb2);(try clear hk);(try clear hi))|((with_reducible refine zz23 (f:=40) rfl ?_);refine zz25 (some 15) rfl rfl Tryz.func40 (by kernel_rfl) rfl #[.int .i64 t411,.int .i64 6] rfl (by (try simp only [List.map_toArray,List.map_cons,List.map_nil]);first|done|rfl|(simp only [List.length_drop,List.length_take];rfl)) ?_;(with_reducible refine (almanackerref12_From.calls k t411 6 t412 _ A7.out).mono ?_);rintro e w' ⟨rfl,⟨nd,rfl⟩⟩;refine ⟨_,rfl,?_⟩)|((with_reducible refine zz23 (f:=38) rfl ?_);refine zz25 (some 18) rfl rfl Tryz.func38 (by kernel_rfl) rfl #[.int .i64 a0,.int .i64 6,.int .i64 1] rfl (by (try simp only [List.map_toArray,List.map_cons,List.map_nil]);first|done|rfl|(simp only [List.length_drop,List.length_take];rfl)) ?_;(with_reducible refine (almanackerref22_upto.calls k a0 6 1 t413 _ A8.out).mono ?_);rintro e w15 ⟨rfl,hb⟩;refine ⟨_,rfl,?_⟩;have n0_:=zz00 (zz21 (by repeat (first|(with_reducible first|exact HB.out|apply zz03|apply zz01|apply zz02)|exact HB.out)) hb);clear HB;have HB:=n0_;clear n0_;(try clear hb);(try clear hb2);(try clear hk);(try clear hi))|((with_reducible refine zz23 (f:=38) rfl ?_);refine zz25 (some 21) rfl rfl Tryz.func38 (by kernel_rfl) rfl #[.int .i64 a0,.int .i64 6,.int .i64 13] rfl (by (try simp only [List.map_toArray,List.map_cons,List.map_nil]);first|done|rfl|(simp only [List.length_drop,List.length_take];rfl)) ?_;(with_reducible refine (almanackerref22_upto.calls k a0 6 13 t414 _ A9.out).mono ?_);rintro e w16 ⟨rfl,hb⟩;refine ⟨_,rfl,?_⟩;have n0_:=zz00 (zz21 (by repeat (first|(with_reducible first|exact HB.out|apply zz03|apply zz01|apply zz02)|exact HB.out)) hb);clear HB;have HB:=n0_;clear n0_;(try clear hb);(try clear hb2);(try clear hk);(try clear hi))|((with_reducible refine zz23 (f:=38) rfl ?_);refine zz25 (some 29) rfl rfl Tryz.func38 (by kernel_rfl) rfl #[.int .i64 a0,.int .i64 7,.int .i64 14] rfl (by (try simp only [List.map_toArray,List.map_cons,List.map_nil]);first|done|rfl|(simp only [List.length_drop,List.length_take];rfl)) ?_;(with_reducible refine (almanackerref22_upto.calls k a0 7 14 t415 _ A10.out).mono ?_);rintro e w17 ⟨rfl,hb⟩;refine ⟨_,rfl,?_⟩;have n0_:=zz00 (zz21 (by repeat (first|(with_reducible first|exact HB.out|apply zz03|apply zz01|apply zz02)|exact HB.out)) hb);clear HB;have HB:=n0_;clear n0_;(try clear hb);(try clear hb2);(try clear hk);(try clear hi))|((with_reducible refine zz24 (N:=36) rfl ?_);refine Kd.R_lit k57 _ 57 ?hg (N:=36) ?hd (xs:=([(⟨35,t412⟩ : S57),(⟨30,t413⟩ : S57),(⟨31,t414⟩ : S57),(⟨32,wrap64 (t409 - 7)⟩ : S57),(⟨33,t409⟩ : S57),(⟨34,t415⟩ : S57),(⟨36,t410⟩ : S57),(⟨37,wrap64 (t410 + 7)⟩ : S57)] : List (S57))) (inner:=[.int .i64 35,.int .i64 t412,.int .i64 30,.int .i64 t413,.int .i64 31,.int .i64 t414,.int .i64 32,.int .i64 (wrap64 (t409 - 7)),.int .i64 33,.int .i64 t409,.int .i64 34,.int .i64 t415,.int .i64 36,.int .i64 t410,.int .i64 37,.int .i64 (wrap64 (t410 + 7))]) (ok:=fun _=>True) (okp:=fun _=>True) ?hr ?hp (fun _ hk=>hk) trivial (Below.refl _ _) (Nat.le_refl _) (by simp) ?_;(case hd=>rfl);(case hg=>rfl);(case hr=>first|(go_simp;done)|(go_simp;rfl));(case hp=>exact (Reps.c2 (show Kd.M k57 _ _ _ (⟨35,t412⟩ : S57) [.int .i64 35,.int .i64 t412] from (k57_mkM _ _ _ (⟨35,t412⟩ : S57) )) (Reps.c2 (show Kd.M k57 _ _ _ (⟨30,t413⟩ : S57) [.int .i64 30,.int .i64 t413] from (k57_mkM _ _ _ (⟨30,t413⟩ : S57) )) (Reps.c2 (show Kd.M k57 _ _ _ (⟨31,t414⟩ : S57) [.int .i64 31,.int .i64 t414] from (k57_mkM _ _ _ (⟨31,t414⟩ : S57) )) (Reps.c2 (show Kd.M k57 _ _ _ (⟨32,wrap64 (t409 - 7)⟩ : S57) [.int .i64 32,.int .i64 (wrap64 (t409 - 7))] from (k57_mkM _ _ _ (⟨32,wrap64 (t409 - 7)⟩ : S57) )) (Reps.c2 (show Kd.M k57 _ _ _ (⟨33,t409⟩ : S57) [.int .i64 33,.int .i64 t409] from (k57_mkM _ _ _ (⟨33,t409⟩ : S57) )) (Reps.c2 (show Kd.M k57 _ _ _ (⟨34,t415⟩ : S57) [.int .i64 34,.int .i64 t415] from (k57_mkM _ _ _ (⟨34,t415⟩ : S57) )) (Reps.c2 (show Kd.M k57 _ _ _ (⟨36,t410⟩ : S57) [.int .i64 36,.int .i64 t410] from (k57_mkM _ _ _ (⟨36,t410⟩ : S57) )) (Reps.c2 (show Kd.M k57 _ _ _ (⟨37,wrap64 (t410 + 7)⟩ : S57) [.int .i64 37,.int .i64 (wrap64 (t410 + 7))] from (k57_mkM _ _ _ (⟨37,wrap64 (t410 + 7)⟩ : S57) )) (Reps.none _ _))))))))));intro v417 w18 ho19 hb hg_ hnew_;clear hg_ hnew_;(first|rw [← Ny416.out] at ho19|(simp only [Int.reduceToNat] at ho19;rw [← Ny416.out] at ho19));have n0_:=zz00 (Kd.R_lower ho19 (zz22 (by repeat (first|(with_reducible first|exact HB.out|apply zz03|apply zz01|apply zz02)|exact HB.out))));have n1_:=zz00 (zz21 (by repeat (first|(with_reducible first|exact HB.out|apply zz03|apply zz01|apply zz02)|exact HB.out)) hb);clear HB;have HO418:=n0_;have HB:=n1_;clear n0_ n1_;clear hb ho19;obtain ⟨Ao20,co20,eo20⟩:=Kd.R_slice HO418.out;subst eo20)|((with_reducible refine zz23 (f:=39) rfl ?_);refine zz25 (some 37) rfl rfl Tryz.func39 (by kernel_rfl) rfl #[.slice Ao20 y416.length co20] rfl (by (try simp only [List.map_toArray,List.map_cons,List.map_nil]);first|done|rfl|(simp only [List.length_drop,List.length_take];rfl)) ?_;(with_reducible refine (almanackerref19_Sort.calls k _ _ y416 t419 _ ?side1 ?side2 A11.out).mono ?_);(case side1=>repeat (first|exact (Kd.R_reads' HO418.out).2.2|(with_reducible refine Kd.C_alloc ?_ _)|(with_reducible refine Kd.C_drewN ?_ _)|(with_reducible refine Kd.C_drew ?_)));(case side2=>exact (Kd.R_reads' HO418.out).2.1);rintro e w21 ⟨v420,rfl,ho0,hb⟩;refine ⟨_,rfl,?_⟩;have n0_:=zz00 (zz20 (by (with_reducible repeat (first|apply zz05|apply zz04|apply zz06));exact HO418.out) (Kd.R_base ho0) hb);have n1_:=zz00 (Kd.R_lower (Kd.R_new' ho0 (Kd.R_lt (by (with_reducible repeat (first|apply zz05|apply zz04|apply zz06));exact HO418.out))) (zz22 (by repeat (first|(with_reducible first|exact HB.out|apply zz03|apply zz01|apply zz02)|exact HB.out))));have n2_:=zz00 (zz21 (by repeat (first|(with_reducible first|exact HB.out|apply zz03|apply zz01|apply zz02)|exact HB.out)) hb);clear HO418;clear HB;have HO418:=n0_;have HO421:=n1_;have HB:=n2_;clear n0_ n1_ n2_;(try clear hb);(try clear hb2);(try clear hk);(try clear hi);(try clear ho0)))
  go_ret2
  exact ⟨_,by first|rfl|(simp [errW_none,errW_some] <;> rfl)|(simp [*,errW_none,errW_some] <;> rfl),by (with_reducible repeat (first|apply zz05|apply zz04|apply zz06));exact Kd.R_mono HO421.out (fun _ hk=>trivial),by repeat (first|(with_reducible first|exact HB.out|apply zz03|apply zz01|apply zz02)|exact HB.out)⟩
 ·
  replace c3 := zz32.mpr c3
  subst c3
  have H1 : (some (([] : List (S57)), 2)) = some (r1, r2) := by rw [if_neg (show ¬ (false = true) by decide)] at H; exact H
  clear H
  have H := H1
  clear H1
  simp only [zz15, zz16] at H
  obtain ⟨rfl, rfl⟩ := H
  go_enter Tryz.func10, Tryz.ntmps10
  go_wp2_with (first|((with_reducible refine zz23 (f:=37) rfl ?_);refine zz25 (some 7) rfl rfl Tryz.func37 (by kernel_rfl) rfl #[.int .i64 a0] rfl (by (try simp only [List.map_toArray,List.map_cons,List.map_nil]);first|done|rfl|(simp only [List.length_drop,List.length_take];rfl)) ?_;(with_reducible refine (almanackerref07_Right.calls a0 false _ A2.out).mono ?_);rintro e w' ⟨rfl,⟨nd,rfl⟩⟩;refine ⟨_,rfl,?_⟩))
  go_ret2
  exact ⟨_,by first|rfl|(simp [errW_none,errW_some] <;> rfl)|(simp [*,errW_none,errW_some] <;> rfl),by first|exact Kd.R_nil _ _ _ _ _|exact Kd.N_nil _ _ _ _ _|exact Kd.V_nil _ _ _ _ _|exact Kd.Q_nil _ _ _ _ _|exact Kd.S_nil _ _ _ _ _,by repeat (first|(with_reducible first|exact HB.out|apply zz03|apply zz01|apply zz02)|exact HB.out)⟩

def closed_begins.f (k : Nat) (a0 : Int) : Option (Int) := (newyear_First.f k a0).bind fun bt422 => (some bt422.1)
set_option maxHeartbeats 8000000 in
set_option maxRecDepth 100000 in
theorem closed_begins.calls (k : Nat) (a0 : Int) (r : Int) (w : World) (h : closed_begins.f k a0 = some r) :
  Calls Tryz.prog 142 #[.int .i64 a0] w fun e w' => e = .returned (.int .i64 r) ∧ Below w.heap.size w w' := by
 have HB := zz00 (Below.refl w.heap.size w)
 have H : ((newyear_First.f k a0).bind fun bt422 => (some bt422.1)) = some r := h
 clear h
 replace H := zz14.mp H
 obtain ⟨⟨t422, t423⟩, A20, H⟩ := H
 replace H : (some t422) = some r := H
 have A2 := zz00 A20
 clear A20
 obtain rfl := Option.some.inj H
 go_enter Tryz.func142, Tryz.ntmps142
 go_wp2_with (first|((with_reducible refine zz23 (f:=80) rfl ?_);refine zz25 (some 7) rfl rfl Tryz.func80 (by kernel_rfl) rfl #[.int .i64 a0] rfl (by (try simp only [List.map_toArray,List.map_cons,List.map_nil]);first|done|rfl|(simp only [List.length_drop,List.length_take];rfl)) ?_;(with_reducible refine (newyear_First.calls k a0 t422 t423 _ A2.out).mono ?_);rintro e w3 ⟨rfl,hb⟩;refine ⟨_,rfl,?_⟩;have n0_:=zz00 (zz21 (by repeat (first|(with_reducible first|exact HB.out|apply zz03|apply zz01|apply zz02)|exact HB.out)) hb);clear HB;have HB:=n0_;clear n0_;(try clear hb);(try clear hb2);(try clear hk);(try clear hi)))
 go_ret
 exact ⟨by first|rfl|(simp [errW_none,errW_some] <;> rfl)|(simp [*,errW_none,errW_some] <;> rfl),by repeat (first|(with_reducible first|exact HB.out|apply zz03|apply zz01|apply zz02)|exact HB.out)⟩

def closed_Last.f (k : Nat)  : Option (Int) := (closed_begins.f k 10000).bind fun t424 => (some (wrap64 (t424 - 1)))
set_option maxHeartbeats 8000000 in
set_option maxRecDepth 100000 in
theorem closed_Last.calls (k : Nat)  (r : Int) (w : World) (h : closed_Last.f k  = some r) :
  Calls Tryz.prog 139 #[] w fun e w' => e = .returned (.int .i64 r) ∧ Below w.heap.size w w' := by
 have HB := zz00 (Below.refl w.heap.size w)
 have H : ((closed_begins.f k 10000).bind fun t424 => (some (wrap64 (t424 - 1)))) = some r := h
 clear h
 replace H := zz14.mp H
 obtain ⟨t424, A10, H⟩ := H
 replace H : (some (wrap64 (t424 - 1))) = some r := H
 have A1 := zz00 A10
 clear A10
 obtain rfl := Option.some.inj H
 go_enter Tryz.func139, Tryz.ntmps139
 go_wp2_with (first|((with_reducible refine zz23 (f:=142) rfl ?_);refine zz25 (some 1) rfl rfl Tryz.func142 (by kernel_rfl) rfl #[.int .i64 10000] rfl (by (try simp only [List.map_toArray,List.map_cons,List.map_nil]);first|done|rfl|(simp only [List.length_drop,List.length_take];rfl)) ?_;(with_reducible refine (closed_begins.calls k 10000 t424 _ A1.out).mono ?_);rintro e w2 ⟨rfl,hb⟩;refine ⟨_,rfl,?_⟩;have n0_:=zz00 (zz21 (by repeat (first|(with_reducible first|exact HB.out|apply zz03|apply zz01|apply zz02)|exact HB.out)) hb);clear HB;have HB:=n0_;clear n0_;(try clear hb);(try clear hb2);(try clear hk);(try clear hi)))
 go_ret
 exact ⟨by first|rfl|(simp [errW_none,errW_some] <;> rfl)|(simp [*,errW_none,errW_some] <;> rfl),by repeat (first|(with_reducible first|exact HB.out|apply zz03|apply zz01|apply zz02)|exact HB.out)⟩

def closed_Year.B (a0 h : Int) : Option Bool := (closed_begins.f 20 (wrap64 (h + 1))).bind fun v => some (decide (v > a0))
def closed_Year.f (a0 : Int) : Option (Int × Int) := if a0 < -1373427 then some (0, 2) else (closed_Last.f 20).bind fun t => if a0 > t then some (0, 2) else (searchB (closed_Year.B a0) 20 0 10000).bind fun r => some (r, 0)
theorem wrapYear (x : Int) : IntKind.i64.wrap x = wrap64 x := by unfold IntKind.wrap wrap64; simp [IntKind.signed, IntKind.bits]; split <;> omega
theorem below_two {W V w' : World} (a : Below W.heap.size W V) (b : Below V.heap.size V w') : Below W.heap.size W w' := a.trans (b.mono a.size)
theorem cell_keep {W V : World} {g : Nat} {u : Value} (h : W.cell? ⟨g, 0, none⟩ = some u) (hb : Below W.heap.size W V) : V.cell? ⟨g, 0, none⟩ = some u := by
  by_cases c : g < W.heap.size
  · rw [hb.cell c]; exact h
  · exfalso
    have : W.heap[g]? = none := by simp; omega
    simp [World.cell?, this] at h
set_option maxHeartbeats 4000000 in
set_option maxRecDepth 100000 in
theorem year_closure (n y v : Int) (g : Nat) (W : World) (hc : W.cell? ⟨g, 0, none⟩ = some (.int .i64 n)) (h : closed_begins.f 20 (wrap64 (y + 1)) = some v) :
    Calls Tryz.prog 141 #[.int .i64 y, .pointer (some ⟨g, 0, none⟩)] W fun e w' => e = .returned (.bool (decide (v > n))) ∧ Below W.heap.size W w' := by
  have HB : Aside0 (∀ V, Calls Tryz.prog 142 #[.int .i64 (IntKind.i64.wrap (y + 1))] V fun e w' => e = .returned (.int .i64 v) ∧ Below V.heap.size V w') := ⟨fun V => by rw [wrapYear]; exact closed_begins.calls 20 (wrap64 (y + 1)) v V h⟩
  have HC := Aside0.mk hc
  clear h hc
  go_enter Tryz.func141, Tryz.ntmps141
  go_upto_region 1 with fail
  go_cut [3] (fun v3 wc => v3 = .bool (decide (v > n)) ∧ Aside0 (Below W.heap.size W wc))
  case first =>
    go_region_held3 (fun V => Below W.heap.size W V ∧ V.cell? ⟨g, 0, none⟩ = some (.int .i64 n)) (first | (have hz_ : Below W.heap.size W W.drew := ((Drawn0.refl W).step 1).below; exact ⟨hz_, cell_keep HC.out hz_⟩) | (have hz_ := below_two (And.left (by assumption)) hb; exact ⟨hz_, cell_keep HC.out hz_⟩)) (first | (go_at_call 142; refine (HB.out _).mono ?_; rintro e w' ⟨rfl, hb⟩))
    have HD := Aside0.mk (And.left (‹Below W.heap.size W _ ∧ _›))
    go_wp2_with fail
    go_meet
    case rel => exact ⟨rfl, HD⟩
  case rest =>
    obtain ⟨rfl, HD⟩ := hcut
    go_wp2_with fail
    go_ret
    exact ⟨rfl, HD.out⟩
set_option maxHeartbeats 4000000 in
set_option maxRecDepth 100000 in
theorem closed_Year.calls (a0 r1 r2 : Int) (w : World) (h : closed_Year.f a0 = some (r1, r2)) :
    Calls Tryz.prog 92 #[.int .i64 a0] w fun e w' => e = .returned (.tuple #[.int .i64 r1, .int .i64 r2]) ∧ Below w.heap.size w w' := by
  unfold closed_Year.f at h
  have HB0 := Aside0.mk (below_alloc (Below.refl w.heap.size w) (Obj.cells #[.int .i64 a0] 3))
  have HC0 := Aside0.mk (show (w.alloc (Obj.cells #[.int .i64 a0] 3)).cell? ⟨w.heap.size, 0, none⟩ = some (.int .i64 a0) from (blk_cell (blk_new w (.cells #[.int .i64 a0] 3)) 0).trans rfl)
  have HS0 := Aside0.mk (show w.heap.size ≤ (w.alloc (Obj.cells #[.int .i64 a0] 3)).heap.size from HB0.out.size)
  by_cases h1 : a0 < -1373427
  · rw [if_pos h1] at h
    have h' := Option.some.inj h
    simp only [Prod.mk.injEq] at h'
    obtain ⟨rfl, rfl⟩ := h'
    clear h
    have b1 : decide (a0 < -1373427) = true := decide_eq_true h1
    go_enter Tryz.func92, Tryz.ntmps92
    go_upto_region 1 with fail
    generalize w.alloc (Obj.cells #[.int .i64 a0] 3) = W at HB0 HC0 HS0 ⊢
    go_cut [10] (fun v10 wc => v10 = .bool true ∧ Aside0 (Below W.heap.size W wc))
    case first =>
      refine start_ (n := 7) (S := fun V => Below W.heap.size W V ∧ V.cell? ⟨w.heap.size, 0, none⟩ = some (.int .i64 a0)) (ds := []) #[false, false, false, false, false, false, false] (by kernel_rfl) rfl rfl ⟨((Drawn0.refl W).step 1).below, cell_keep HC0.out ((Drawn0.refl W).step 1).below⟩ (fun hHeld => ?_)
      have HDW : Aside0 (Below W.heap.size W W.drew) := ⟨((Drawn0.refl W).step 1).below⟩
      generalize W.drew = W' at hHeld HDW ⊢
      refine take_ (i := 0) (N := some 4) (v := ?_) (a' := ?_) #[true, false, false, false, false, false, false] rfl rfl (by kernel_rfl) (fun _ _ _ h => h) (Or.inl ⟨by rfl, ?_⟩) hHeld ?_ ?_
      rotate_left
      · rintro w' ⟨s0, s1⟩
        go_simp
        with_reducible rfl
      rotate_left
      · simp only [Act.put, List.setIfInBounds_toArray, List.set_cons_zero, List.set_cons_succ]
        rfl
      refine pure_ (i := 1) (N := some 5) (v := ?_) (a' := ?_) #[true, true, false, false, false, false, false] rfl rfl (by kernel_rfl) (fun _ _ _ h => h) (Or.inl ⟨by rfl, ?_⟩) ?_ ?_
      rotate_left
      · intro w'
        go_simp
        with_reducible rfl
      rotate_left
      · simp only [Act.put, List.setIfInBounds_toArray, List.set_cons_zero, List.set_cons_succ]
        rfl
      refine pure_ (i := 2) (N := some 6) (v := ?_) (a' := ?_) #[true, true, true, false, false, false, false] rfl rfl (by kernel_rfl) (fun _ _ _ h => h) (Or.inl ⟨by rfl, ?_⟩) ?_ ?_
      rotate_left
      · intro w'
        go_simp
        with_reducible rfl
      rotate_left
      · simp only [Act.put, List.setIfInBounds_toArray, List.set_cons_zero, List.set_cons_succ]
        rfl
      refine pure_ (i := 3) (N := some 7) (v := undef) (a' := ?_) #[true, true, true, true, false, false, false] rfl rfl (by kernel_rfl) (fun _ _ _ h => h) (Or.inr ⟨by rfl, rfl⟩) ?_ ?_
      rotate_left
      · simp only [Act.put, List.setIfInBounds_toArray, List.set_cons_zero, List.set_cons_succ]
        rfl
      refine pure_ (i := 4) (N := some 8) (v := undef) (a' := ?_) #[true, true, true, true, true, false, false] rfl rfl (by kernel_rfl) (fun _ _ _ h => h) (Or.inr ⟨by rfl, rfl⟩) ?_ ?_
      rotate_left
      · simp only [Act.put, List.setIfInBounds_toArray, List.set_cons_zero, List.set_cons_succ]
        rfl
      refine pure_ (i := 5) (N := some 9) (v := undef) (a' := ?_) #[true, true, true, true, true, true, false] rfl rfl (by kernel_rfl) (fun _ _ _ h => h) (Or.inr ⟨by rfl, rfl⟩) ?_ ?_
      rotate_left
      · simp only [Act.put, List.setIfInBounds_toArray, List.set_cons_zero, List.set_cons_succ]
        rfl
      refine pure_ (i := 6) (N := some 10) (v := ?_) (a' := ?_) #[true, true, true, true, true, true, true] rfl rfl (by kernel_rfl) (fun _ _ _ h => h) (Or.inl ⟨by rfl, ?_⟩) ?_ ?_
      rotate_left
      · intro w'
        go_simp
        with_reducible rfl
      rotate_left
      · simp only [Act.put, List.setIfInBounds_toArray, List.set_cons_zero, List.set_cons_succ]
        rfl
      refine done_ (by kernel_rfl) ?_
      try go_wp2
      go_meet
      case rel => exact ⟨by first | rfl | simp [b1], HDW⟩
    case rest =>
      obtain ⟨rfl, HD⟩ := hcut
      go_wp2_with fail
      go_ret2
      exact ⟨rfl, HB0.out.trans (HD.out.mono HS0.out)⟩
  · rw [if_neg h1] at h
    obtain ⟨t, ht, h⟩ := Option.bind_eq_some_iff.1 h
    have HL : Aside0 (∀ V, Calls Tryz.prog 139 #[] V fun e w' => e = .returned (.int .i64 t) ∧ Below V.heap.size V w') := ⟨fun V => closed_Last.calls 20 t V ht⟩
    have H := Aside0.mk h
    have b1 : decide (a0 < -1373427) = false := decide_eq_false h1
    clear h ht
    go_enter Tryz.func92, Tryz.ntmps92
    go_upto_region 1 with fail
    generalize w.alloc (Obj.cells #[.int .i64 a0] 3) = W at HB0 HC0 HS0 ⊢
    go_cut [10] (fun v10 wc => v10 = .bool (decide (a0 > t)) ∧ Aside0 (Below W.heap.size W wc))
    case first =>
      go_region_held3 (fun V => Below W.heap.size W V ∧ V.cell? ⟨w.heap.size, 0, none⟩ = some (.int .i64 a0)) (first | (have hz_ : Below W.heap.size W W.drew := ((Drawn0.refl W).step 1).below; exact ⟨hz_, cell_keep HC0.out hz_⟩) | (have hz_ := below_two (And.left (by assumption)) hb; exact ⟨hz_, cell_keep HC0.out hz_⟩)) (first | (go_at_call 139; refine (HL.out _).mono ?_; rintro e w' ⟨rfl, hb⟩))
      have HD := Aside0.mk (And.left (‹Below W.heap.size W _ ∧ _›))
      go_wp2_with fail
      go_meet
      case rel => exact ⟨by first | rfl | simp [b1], HD⟩
    case rest =>
      obtain ⟨rfl, HD⟩ := hcut
      have H2 := H.out
      by_cases h2 : a0 > t
      · rw [if_pos h2] at H2
        have h' := Option.some.inj H2
        simp only [Prod.mk.injEq] at h'
        obtain ⟨rfl, rfl⟩ := h'
        clear H2
        have b2 : decide (a0 > t) = true := decide_eq_true h2
        rw [b2]
        go_wp2_with fail
        go_ret2
        exact ⟨rfl, HB0.out.trans (HD.out.mono HS0.out)⟩
      · rw [if_neg h2] at H2
        obtain ⟨r, hr, H3⟩ := Option.bind_eq_some_iff.1 H2
        have h' := Option.some.inj H3
        simp only [Prod.mk.injEq] at h'
        obtain ⟨rfl, rfl⟩ := h'
        clear H2 H3
        have b2 : decide (a0 > t) = false := decide_eq_false h2
        rw [b2]
        have HX := Aside0.mk (cell_keep HC0.out HD.out)
        have HSR := Aside0.mk (sort_search (closed_Year.B a0) 141 ⟨w.heap.size, 0, none⟩ 10000 r 20 (by decide) (by decide) wc
          (fun args V => Go.Proofs.YtflpddhoiafhcaaGreatDoorW.PrintLast.enters_ Tryz.func141 rfl rfl args V)
          (fun V y b hV hB y0 y1 => by
            obtain ⟨v, hv, hb⟩ := Option.bind_eq_some_iff.1 hB
            obtain rfl := Option.some.inj hb
            exact year_closure a0 y v w.heap.size V (cell_keep HX.out hV) hv) hr)
        clear hr
        go_wp2_with (go_at_call 140; refine HSR.out.mono ?_; rintro e W2 ⟨rfl, hb⟩; have HB2 := Aside0.mk (below_two HD.out hb); clear hb)
        go_ret2
        exact ⟨rfl, HB0.out.trans (HB2.out.mono HS0.out)⟩

def code_Of.j0 : Nat → Int → Bool → Int → Bool → Option (Int × Bool × Bool)
  | 0, _, _, _, _ => none
  | k + 1, x1, x13, x427000, x427001 => if x13 = true then ((code_Right.f (wrap64 (x427000 - 1)) (x1 == 6)).bind fun t427 => (if t427 = true then (some (wrap64 (x427000 - 1), (x1 == 6), true)) else (some (0, false, false)))) else ((code_Right.f x427000 x427001).bind fun t428 => (if t428 = true then (some (x427000, x427001, true)) else (some (0, false, false))))
def code_Of.f (k : Nat) (a0 : Bool) (a1 : Int) : Option (Int × Bool × Bool) := if a0 = true then (code_Of.j0 k a1 (decide (a1 > 5)) a1 false) else (code_Of.j0 k a1 false a1 false)
set_option maxHeartbeats 8000000 in
set_option maxRecDepth 100000 in
theorem code_Of.calls (k : Nat) (a0 : Bool) (a1 : Int) (r1 : Int) (r2 : Bool) (r3 : Bool) (w : World) (h : code_Of.f k a0 a1 = some (r1, r2, r3)) :
  Calls Tryz.prog 95 #[.bool a0, .int .i64 a1] w fun e w' => e = .returned (.tuple #[.agg #[.int .i64 r1, .bool r2], .bool r3]) ∧ Below w.heap.size w w' := by
 have hu32 := Tryz.underlying32
 have HB := zz00 (Below.refl w.heap.size w)
 have H : (if a0 = true then (code_Of.j0 k a1 (decide (a1 > 5)) a1 false) else (code_Of.j0 k a1 false a1 false)) = some (r1, r2, r3) := h
 clear h
 have HC3 := zz00 H
 clear H
 go_enter Tryz.func95, Tryz.ntmps95
 go_upto_region 2 with (first|((with_reducible refine zz24 (N:=4) rfl ?_);refine zz30 ?hg (N:=4) ?hd (cs:=#[.int .i64 0,.bool false]) (t:=32) ?hr ?_;(case hd=>rfl);(case hg=>rfl);(case hr=>first|(go_simp;done)|(go_simp;rfl));intro gb425 hg w4 hbox hb;have n0_:=zz00 (zz21 (by repeat (first|(with_reducible first|exact HB.out|apply zz03|apply zz01|apply zz02)|exact HB.out)) hb);have n1_:=zz00 (hbox);have n2_:=zz00 ((by rw [hg];exact (zz22 (by repeat (first|(with_reducible first|exact HB.out|apply zz03|apply zz01|apply zz02)|exact HB.out))) : w.heap.size ≤ gb425));have n3_:=zz00 ((by rw [hg];exact (zz22 (by repeat (first|(with_reducible first|exact HB.out|apply zz03|apply zz01|apply zz02)|exact HB.out))) : w.heap.size ≤ gb425));clear HB;have HB:=n0_;have BK425:=n1_;have GW425:=n2_;have GE425:=n3_;clear n0_ n1_ n2_ n3_;clear hb hbox hg)|((with_reducible refine zz24 (N:=6) rfl ?_);refine zz30 ?hg (N:=6) ?hd (cs:=#[.int .i64 0,.bool false]) (t:=32) ?hr ?_;(case hd=>rfl);(case hg=>rfl);(case hr=>first|(go_simp;done)|(go_simp;rfl));intro gb426 hg w5 hbox hb;have n0_:=zz00 (zz34 (g:=gb425) (o:=.cells #[.int .i64 0,.bool false] 32 (0,0)) (by (with_reducible repeat (first|refine zz07 ?_ _|refine zz09 ?_|refine zz08 ?_ _));exact BK425.out) hb);have n1_:=zz00 (zz21 (by repeat (first|(with_reducible first|exact HB.out|apply zz03|apply zz01|apply zz02|refine zz10 ?_ GE425.out)|exact HB.out)) hb);have n2_:=zz00 (hbox);have n3_:=zz00 ((by rw [hg];exact (zz22 (by repeat (first|(with_reducible first|exact HB.out|apply zz03|apply zz01|apply zz02|refine zz10 ?_ GE425.out)|exact HB.out))) : w.heap.size ≤ gb426));have n4_:=zz00 ((by rw [hg];exact (zz22 (by repeat (first|(with_reducible first|exact HB.out|apply zz03|apply zz01|apply zz02|refine zz10 ?_ GE425.out)|exact HB.out))) : w.heap.size ≤ gb426));have n5_:=zz00 ((by rw [hg];exact Nat.ne_of_lt (blk_lt (g:=gb425) (o:=.cells #[.int .i64 0,.bool false] 32 (0,0)) (by (with_reducible repeat (first|refine zz07 ?_ _|refine zz09 ?_|refine zz08 ?_ _));exact BK425.out)) : gb425 ≠ gb426));have n6_:=zz00 ((by rw [hg];exact Nat.ne_of_gt (blk_lt (g:=gb425) (o:=.cells #[.int .i64 0,.bool false] 32 (0,0)) (by (with_reducible repeat (first|refine zz07 ?_ _|refine zz09 ?_|refine zz08 ?_ _));exact BK425.out)) : gb426 ≠ gb425));clear BK425;clear HB;have BK425:=n0_;have HB:=n1_;have BK426:=n2_;have GW426:=n3_;have GE426:=n4_;have NB425_426:=n5_;have NB426_425:=n6_;clear n0_ n1_ n2_ n3_ n4_ n5_ n6_;clear hb hbox hg;have hnb6:=NB426_425.out;have hnc6:=NB425_426.out;have hcz7_0 : w5.cell? ⟨gb426,0,none⟩ = some (.int .i64 0):=(zz18 BK426.out 0).trans rfl;have hcz7_1 : w5.cell? ⟨gb426,1,none⟩ = some (.bool false):=(zz18 BK426.out 1).trans rfl;have hfz7_0:=zz17 BK426.out 0;have hfz7_1:=zz17 BK426.out 1))
 (try simp only [Act.put, zz11, zz12, zz13])
 go_cut [13] (fun v13 wc=>∃ (kq : Nat) (x13_2 : Bool),v13 = .bool x13_2 ∧ Aside0 (code_Of.j0 kq a1 x13_2 a1 false = some (r1,r2,r3)) ∧ Aside0 (kq ≤ k) ∧ Aside0 (wc.heap[gb425]? = some (.cells #[.int .i64 0,.bool false] 32 (0,0))) ∧ Aside0 (wc.heap[gb426]? = some (.cells #[.int .i64 a1,.bool false] 32 (0,0))) ∧ Aside0 (Below w.heap.size w wc))
 case first =>
  have H := HC3.out
  clear HC3
  by_cases c8 : a0 = true
  ·
   subst c8
   have H1 : (code_Of.j0 k a1 (decide (a1 > 5)) a1 false) = some (r1, r2, r3) := by rw [if_pos rfl] at H; exact H
   clear H
   have H := H1
   clear H1
   have H' := zz00 H
   clear H
   go_wp2
   go_meet
   case rel=>exact ⟨_,(decide (a1 > 5)),(by first|rfl|(simp;done)|(simp [*];done)),H',⟨by first|omega|exact Nat.le_refl _⟩,⟨by (with_reducible repeat (first|refine zz07 ?_ _|refine zz09 ?_|refine zz08 ?_ _));refine zz33 ?_ NB425_426.out _;(with_reducible repeat (first|refine zz07 ?_ _|refine zz09 ?_|refine zz08 ?_ _));refine zz33 ?_ NB425_426.out _;(with_reducible repeat (first|refine zz07 ?_ _|refine zz09 ?_|refine zz08 ?_ _));exact BK425.out⟩,⟨by (with_reducible repeat (first|refine zz07 ?_ _|refine zz09 ?_|refine zz08 ?_ _));refine zz35 (cs:=#[.int .i64 a1,.bool false]) ?_ 1 _ rfl;(with_reducible repeat (first|refine zz07 ?_ _|refine zz09 ?_|refine zz08 ?_ _));refine zz35 (cs:=#[.int .i64 0,.bool false]) ?_ 0 _ rfl;(with_reducible repeat (first|refine zz07 ?_ _|refine zz09 ?_|refine zz08 ?_ _));exact BK426.out⟩,⟨by repeat (first|(with_reducible first|exact HB.out|apply zz03|apply zz01|apply zz02|refine zz10 ?_ GE425.out|refine zz10 ?_ GE426.out)|exact HB.out)⟩⟩
  ·
   replace c8 := zz32.mpr c8
   subst c8
   have H1 : (code_Of.j0 k a1 false a1 false) = some (r1, r2, r3) := by rw [if_neg (show ¬ (false = true) by decide)] at H; exact H
   clear H
   have H := H1
   clear H1
   have H' := zz00 H
   clear H
   go_wp2
   go_meet
   case rel=>exact ⟨_,(false),(by first|rfl|(simp;done)|(simp [*];done)),H',⟨by first|omega|exact Nat.le_refl _⟩,⟨by (with_reducible repeat (first|refine zz07 ?_ _|refine zz09 ?_|refine zz08 ?_ _));refine zz33 ?_ NB425_426.out _;(with_reducible repeat (first|refine zz07 ?_ _|refine zz09 ?_|refine zz08 ?_ _));refine zz33 ?_ NB425_426.out _;(with_reducible repeat (first|refine zz07 ?_ _|refine zz09 ?_|refine zz08 ?_ _));exact BK425.out⟩,⟨by (with_reducible repeat (first|refine zz07 ?_ _|refine zz09 ?_|refine zz08 ?_ _));refine zz35 (cs:=#[.int .i64 a1,.bool false]) ?_ 1 _ rfl;(with_reducible repeat (first|refine zz07 ?_ _|refine zz09 ?_|refine zz08 ?_ _));refine zz35 (cs:=#[.int .i64 0,.bool false]) ?_ 0 _ rfl;(with_reducible repeat (first|refine zz07 ?_ _|refine zz09 ?_|refine zz08 ?_ _));exact BK426.out⟩,⟨by repeat (first|(with_reducible first|exact HB.out|apply zz03|apply zz01|apply zz02|refine zz10 ?_ GE425.out|refine zz10 ?_ GE426.out)|exact HB.out)⟩⟩
 case rest =>
  clear HC3
  try clear p2
  try clear c6
  try clear c8
  try clear hcz7_0
  try clear hcz7_1
  try clear hfz7_0
  try clear hfz7_1
  obtain ⟨kq, x13_2, rfl, HA, HJ2, BK425, BK426, HB⟩ := hcut
  cases kq with
  | zero => exact absurd HA.out (by simp [code_Of.j0])
  | succ kj2 =>
   have H := HA.out
   clear HA
   simp only [code_Of.j0] at H
   by_cases c9 : x13_2 = true
   ·
    subst c9
    have H1 : ((code_Right.f (wrap64 (a1 - 1)) (a1 == 6)).bind fun t427=>(if t427 = true then (some (wrap64 (a1 - 1),(a1 == 6),true)) else (some (0,false,false)))) = some (r1,r2,r3):=by rw [if_pos rfl] at H;exact H
    clear H
    have H := H1
    clear H1
    replace H := zz14.mp H
    obtain ⟨t427, A100, H⟩ := H
    replace H : (if t427 = true then (some (wrap64 (a1 - 1), (a1 == 6), true)) else (some (0, false, false))) = some (r1, r2, r3) := H
    have A10 := zz00 A100
    clear A100
    by_cases c11 : t427 = true
    ·
     subst c11
     have H1 : (some (wrap64 (a1 - 1), (a1 == 6), true)) = some (r1, r2, r3) := by rw [if_pos rfl] at H; exact H
     clear H
     have H := H1
     clear H1
     simp only [zz15, zz16] at H
     obtain ⟨rfl, rfl, rfl⟩ := H
     have hnb12 := NB426_425.out
     have hnc12 := NB425_426.out
     have hcz13_0 : wc.cell? ⟨gb426, 0, none⟩ = some (.int .i64 a1) := (zz18 BK426.out 0).trans rfl
     have hcz13_1 : wc.cell? ⟨gb426, 1, none⟩ = some (.bool false) := (zz18 BK426.out 1).trans rfl
     have hfz13_0 := zz17 BK426.out 0
     have hfz13_1 := zz17 BK426.out 1
     go_wp2_with (first|((with_reducible refine zz23 (f:=113) rfl ?_);refine zz25 (some 22) rfl rfl Tryz.func113 (by kernel_rfl) rfl #[.agg #[.int .i64 (wrap64 (a1 - 1)),.bool (a1 == 6)]] rfl (by (try simp only [List.map_toArray,List.map_cons,List.map_nil]);first|done|rfl|(simp only [List.length_drop,List.length_take];rfl)) ?_;(with_reducible refine (code_Right.calls (wrap64 (a1 - 1)) (a1 == 6) true _ A10.out).mono ?_);rintro e w14 ⟨rfl,hb⟩;refine ⟨_,rfl,?_⟩;have n0_:=zz00 (zz34 (g:=gb425) (o:=.cells #[.int .i64 0,.bool false] 32 (0,0)) (by (with_reducible repeat (first|refine zz07 ?_ _|refine zz09 ?_|refine zz08 ?_ _));refine zz33 ?_ NB425_426.out _;(with_reducible repeat (first|refine zz07 ?_ _|refine zz09 ?_|refine zz08 ?_ _));refine zz33 ?_ NB425_426.out _;(with_reducible repeat (first|refine zz07 ?_ _|refine zz09 ?_|refine zz08 ?_ _));exact BK425.out) hb);have n1_:=zz00 (zz34 (g:=gb426) (o:=.cells #[.int .i64 (wrap64 (a1 - 1)),.bool (a1 == 6)] 32 (0,0)) (by (with_reducible repeat (first|refine zz07 ?_ _|refine zz09 ?_|refine zz08 ?_ _));refine zz35 (cs:=#[.int .i64 (wrap64 (a1 - 1)),.bool false]) ?_ 1 _ rfl;(with_reducible repeat (first|refine zz07 ?_ _|refine zz09 ?_|refine zz08 ?_ _));refine zz35 (cs:=#[.int .i64 a1,.bool false]) ?_ 0 _ rfl;(with_reducible repeat (first|refine zz07 ?_ _|refine zz09 ?_|refine zz08 ?_ _));exact BK426.out) hb);have n2_:=zz00 (zz21 (by repeat (first|(with_reducible first|exact HB.out|apply zz03|apply zz01|apply zz02|refine zz10 ?_ GE425.out|refine zz10 ?_ GE426.out)|exact HB.out)) hb);clear BK425;clear BK426;clear HB;have BK425:=n0_;have BK426:=n1_;have HB:=n2_;clear n0_ n1_ n2_;(try clear hb);(try clear hb2);(try clear hk);(try clear hi);have hcz15_0 : w14.cell? ⟨gb426,0,none⟩ = some (.int .i64 (wrap64 (a1 - 1))):=(zz18 BK426.out 0).trans rfl;have hcz15_1 : w14.cell? ⟨gb426,1,none⟩ = some (.bool (a1 == 6)):=(zz18 BK426.out 1).trans rfl;have hfz15_0:=zz17 BK426.out 0;have hfz15_1:=zz17 BK426.out 1;have hcz16_0 : w14.cell? ⟨gb425,0,none⟩ = some (.int .i64 0):=(zz18 BK425.out 0).trans rfl;have hcz16_1 : w14.cell? ⟨gb425,1,none⟩ = some (.bool false):=(zz18 BK425.out 1).trans rfl;have hfz16_0:=zz17 BK425.out 0;have hfz16_1:=zz17 BK425.out 1))
     refine bodyPost_ret (results_ct rfl _ _ gb425 32 #[.int .i64 (wrap64 (a1 - 1)),.bool (a1 == 6)] (0,0) _ rfl (by (with_reducible repeat (first|refine zz07 ?_ _|refine zz09 ?_|refine zz08 ?_ _));refine zz35 (cs:=#[.int .i64 (wrap64 (a1 - 1)),.bool false]) ?_ 1 _ rfl;(with_reducible repeat (first|refine zz07 ?_ _|refine zz09 ?_|refine zz08 ?_ _));refine zz35 (cs:=#[.int .i64 0,.bool false]) ?_ 0 _ rfl;(with_reducible repeat (first|refine zz07 ?_ _|refine zz09 ?_|refine zz08 ?_ _));exact BK425.out) Tryz.underlying32 rfl (by kernel_rfl)) rfl ?_
     exact ⟨by first|rfl|(simp [errW_none,errW_some] <;> rfl)|(simp [*,errW_none,errW_some] <;> rfl),by repeat (first|(with_reducible first|exact HB.out|apply zz03|apply zz01|apply zz02|refine zz10 ?_ GE425.out|refine zz10 ?_ GE426.out)|exact HB.out)⟩
    ·
     replace c11 := zz32.mpr c11
     subst c11
     have H1 : (some (0, false, false)) = some (r1, r2, r3) := by rw [if_neg (show ¬ (false = true) by decide)] at H; exact H
     clear H
     have H := H1
     clear H1
     simp only [zz15, zz16] at H
     obtain ⟨rfl, rfl, rfl⟩ := H
     have hnb17 := NB426_425.out
     have hnc17 := NB425_426.out
     have hcz18_0 : wc.cell? ⟨gb426, 0, none⟩ = some (.int .i64 a1) := (zz18 BK426.out 0).trans rfl
     have hcz18_1 : wc.cell? ⟨gb426, 1, none⟩ = some (.bool false) := (zz18 BK426.out 1).trans rfl
     have hfz18_0 := zz17 BK426.out 0
     have hfz18_1 := zz17 BK426.out 1
     go_wp2_with (first|((with_reducible refine zz23 (f:=113) rfl ?_);refine zz25 (some 22) rfl rfl Tryz.func113 (by kernel_rfl) rfl #[.agg #[.int .i64 (wrap64 (a1 - 1)),.bool (a1 == 6)]] rfl (by (try simp only [List.map_toArray,List.map_cons,List.map_nil]);first|done|rfl|(simp only [List.length_drop,List.length_take];rfl)) ?_;(with_reducible refine (code_Right.calls (wrap64 (a1 - 1)) (a1 == 6) false _ A10.out).mono ?_);rintro e w19 ⟨rfl,hb⟩;refine ⟨_,rfl,?_⟩;have n0_:=zz00 (zz34 (g:=gb425) (o:=.cells #[.int .i64 0,.bool false] 32 (0,0)) (by (with_reducible repeat (first|refine zz07 ?_ _|refine zz09 ?_|refine zz08 ?_ _));refine zz33 ?_ NB425_426.out _;(with_reducible repeat (first|refine zz07 ?_ _|refine zz09 ?_|refine zz08 ?_ _));refine zz33 ?_ NB425_426.out _;(with_reducible repeat (first|refine zz07 ?_ _|refine zz09 ?_|refine zz08 ?_ _));exact BK425.out) hb);have n1_:=zz00 (zz34 (g:=gb426) (o:=.cells #[.int .i64 (wrap64 (a1 - 1)),.bool (a1 == 6)] 32 (0,0)) (by (with_reducible repeat (first|refine zz07 ?_ _|refine zz09 ?_|refine zz08 ?_ _));refine zz35 (cs:=#[.int .i64 (wrap64 (a1 - 1)),.bool false]) ?_ 1 _ rfl;(with_reducible repeat (first|refine zz07 ?_ _|refine zz09 ?_|refine zz08 ?_ _));refine zz35 (cs:=#[.int .i64 a1,.bool false]) ?_ 0 _ rfl;(with_reducible repeat (first|refine zz07 ?_ _|refine zz09 ?_|refine zz08 ?_ _));exact BK426.out) hb);have n2_:=zz00 (zz21 (by repeat (first|(with_reducible first|exact HB.out|apply zz03|apply zz01|apply zz02|refine zz10 ?_ GE425.out|refine zz10 ?_ GE426.out)|exact HB.out)) hb);clear BK425;clear BK426;clear HB;have BK425:=n0_;have BK426:=n1_;have HB:=n2_;clear n0_ n1_ n2_;(try clear hb);(try clear hb2);(try clear hk);(try clear hi);have hcz20_0 : w19.cell? ⟨gb425,0,none⟩ = some (.int .i64 0):=(zz18 BK425.out 0).trans rfl;have hcz20_1 : w19.cell? ⟨gb425,1,none⟩ = some (.bool false):=(zz18 BK425.out 1).trans rfl;have hfz20_0:=zz17 BK425.out 0;have hfz20_1:=zz17 BK425.out 1))
     refine bodyPost_ret (results_ct rfl _ _ gb425 32 #[.int .i64 0,.bool false] (0,0) _ rfl (by (with_reducible repeat (first|refine zz07 ?_ _|refine zz09 ?_|refine zz08 ?_ _));refine zz35 (cs:=#[.int .i64 0,.bool false]) ?_ 1 _ rfl;(with_reducible repeat (first|refine zz07 ?_ _|refine zz09 ?_|refine zz08 ?_ _));refine zz35 (cs:=#[.int .i64 0,.bool false]) ?_ 0 _ rfl;(with_reducible repeat (first|refine zz07 ?_ _|refine zz09 ?_|refine zz08 ?_ _));exact BK425.out) Tryz.underlying32 rfl (by kernel_rfl)) rfl ?_
     exact ⟨by first|rfl|(simp [errW_none,errW_some] <;> rfl)|(simp [*,errW_none,errW_some] <;> rfl),by repeat (first|(with_reducible first|exact HB.out|apply zz03|apply zz01|apply zz02|refine zz10 ?_ GE425.out|refine zz10 ?_ GE426.out)|exact HB.out)⟩
   ·
    replace c9 := zz32.mpr c9
    subst c9
    have H1 : ((code_Right.f a1 false).bind fun t428=>(if t428 = true then (some (a1,false,true)) else (some (0,false,false)))) = some (r1,r2,r3):=by rw [if_neg (show ¬ (false = true) by decide)] at H;exact H
    clear H
    have H := H1
    clear H1
    replace H := zz14.mp H
    obtain ⟨t428, A210, H⟩ := H
    replace H : (if t428 = true then (some (a1, false, true)) else (some (0, false, false))) = some (r1, r2, r3) := H
    have A21 := zz00 A210
    clear A210
    by_cases c22 : t428 = true
    ·
     subst c22
     have H1 : (some (a1, false, true)) = some (r1, r2, r3) := by rw [if_pos rfl] at H; exact H
     clear H
     have H := H1
     clear H1
     simp only [zz15, zz16] at H
     obtain ⟨rfl, rfl, rfl⟩ := H
     have hnb23 := NB426_425.out
     have hnc23 := NB425_426.out
     have hcz24_0 : wc.cell? ⟨gb426, 0, none⟩ = some (.int .i64 a1) := (zz18 BK426.out 0).trans rfl
     have hcz24_1 : wc.cell? ⟨gb426, 1, none⟩ = some (.bool false) := (zz18 BK426.out 1).trans rfl
     have hfz24_0 := zz17 BK426.out 0
     have hfz24_1 := zz17 BK426.out 1
     go_wp2_with (first|((with_reducible refine zz23 (f:=113) rfl ?_);refine zz25 (some 22) rfl rfl Tryz.func113 (by kernel_rfl) rfl #[.agg #[.int .i64 a1,.bool false]] rfl (by (try simp only [List.map_toArray,List.map_cons,List.map_nil]);first|done|rfl|(simp only [List.length_drop,List.length_take];rfl)) ?_;(with_reducible refine (code_Right.calls a1 false true _ A21.out).mono ?_);rintro e w25 ⟨rfl,hb⟩;refine ⟨_,rfl,?_⟩;have n0_:=zz00 (zz34 (g:=gb425) (o:=.cells #[.int .i64 0,.bool false] 32 (0,0)) (by (with_reducible repeat (first|refine zz07 ?_ _|refine zz09 ?_|refine zz08 ?_ _));exact BK425.out) hb);have n1_:=zz00 (zz34 (g:=gb426) (o:=.cells #[.int .i64 a1,.bool false] 32 (0,0)) (by (with_reducible repeat (first|refine zz07 ?_ _|refine zz09 ?_|refine zz08 ?_ _));exact BK426.out) hb);have n2_:=zz00 (zz21 (by repeat (first|(with_reducible first|exact HB.out|apply zz03|apply zz01|apply zz02|refine zz10 ?_ GE425.out|refine zz10 ?_ GE426.out)|exact HB.out)) hb);clear BK425;clear BK426;clear HB;have BK425:=n0_;have BK426:=n1_;have HB:=n2_;clear n0_ n1_ n2_;(try clear hb);(try clear hb2);(try clear hk);(try clear hi);have hcz26_0 : w25.cell? ⟨gb426,0,none⟩ = some (.int .i64 a1):=(zz18 BK426.out 0).trans rfl;have hcz26_1 : w25.cell? ⟨gb426,1,none⟩ = some (.bool false):=(zz18 BK426.out 1).trans rfl;have hfz26_0:=zz17 BK426.out 0;have hfz26_1:=zz17 BK426.out 1;have hcz27_0 : w25.cell? ⟨gb425,0,none⟩ = some (.int .i64 0):=(zz18 BK425.out 0).trans rfl;have hcz27_1 : w25.cell? ⟨gb425,1,none⟩ = some (.bool false):=(zz18 BK425.out 1).trans rfl;have hfz27_0:=zz17 BK425.out 0;have hfz27_1:=zz17 BK425.out 1))
     refine bodyPost_ret (results_ct rfl _ _ gb425 32 #[.int .i64 a1,.bool false] (0,0) _ rfl (by (with_reducible repeat (first|refine zz07 ?_ _|refine zz09 ?_|refine zz08 ?_ _));refine zz35 (cs:=#[.int .i64 a1,.bool false]) ?_ 1 _ rfl;(with_reducible repeat (first|refine zz07 ?_ _|refine zz09 ?_|refine zz08 ?_ _));refine zz35 (cs:=#[.int .i64 0,.bool false]) ?_ 0 _ rfl;(with_reducible repeat (first|refine zz07 ?_ _|refine zz09 ?_|refine zz08 ?_ _));exact BK425.out) Tryz.underlying32 rfl (by kernel_rfl)) rfl ?_
     exact ⟨by first|rfl|(simp [errW_none,errW_some] <;> rfl)|(simp [*,errW_none,errW_some] <;> rfl),by repeat (first|(with_reducible first|exact HB.out|apply zz03|apply zz01|apply zz02|refine zz10 ?_ GE425.out|refine zz10 ?_ GE426.out)|exact HB.out)⟩
    ·
     replace c22 := zz32.mpr c22
     subst c22
     have H1 : (some (0, false, false)) = some (r1, r2, r3) := by rw [if_neg (show ¬ (false = true) by decide)] at H; exact H
     clear H
     have H := H1
     clear H1
     simp only [zz15, zz16] at H
     obtain ⟨rfl, rfl, rfl⟩ := H
     have hnb28 := NB426_425.out
     have hnc28 := NB425_426.out
     have hcz29_0 : wc.cell? ⟨gb426, 0, none⟩ = some (.int .i64 a1) := (zz18 BK426.out 0).trans rfl
     have hcz29_1 : wc.cell? ⟨gb426, 1, none⟩ = some (.bool false) := (zz18 BK426.out 1).trans rfl
     have hfz29_0 := zz17 BK426.out 0
     have hfz29_1 := zz17 BK426.out 1
     go_wp2_with (first|((with_reducible refine zz23 (f:=113) rfl ?_);refine zz25 (some 22) rfl rfl Tryz.func113 (by kernel_rfl) rfl #[.agg #[.int .i64 a1,.bool false]] rfl (by (try simp only [List.map_toArray,List.map_cons,List.map_nil]);first|done|rfl|(simp only [List.length_drop,List.length_take];rfl)) ?_;(with_reducible refine (code_Right.calls a1 false false _ A21.out).mono ?_);rintro e w30 ⟨rfl,hb⟩;refine ⟨_,rfl,?_⟩;have n0_:=zz00 (zz34 (g:=gb425) (o:=.cells #[.int .i64 0,.bool false] 32 (0,0)) (by (with_reducible repeat (first|refine zz07 ?_ _|refine zz09 ?_|refine zz08 ?_ _));exact BK425.out) hb);have n1_:=zz00 (zz34 (g:=gb426) (o:=.cells #[.int .i64 a1,.bool false] 32 (0,0)) (by (with_reducible repeat (first|refine zz07 ?_ _|refine zz09 ?_|refine zz08 ?_ _));exact BK426.out) hb);have n2_:=zz00 (zz21 (by repeat (first|(with_reducible first|exact HB.out|apply zz03|apply zz01|apply zz02|refine zz10 ?_ GE425.out|refine zz10 ?_ GE426.out)|exact HB.out)) hb);clear BK425;clear BK426;clear HB;have BK425:=n0_;have BK426:=n1_;have HB:=n2_;clear n0_ n1_ n2_;(try clear hb);(try clear hb2);(try clear hk);(try clear hi);have hcz31_0 : w30.cell? ⟨gb425,0,none⟩ = some (.int .i64 0):=(zz18 BK425.out 0).trans rfl;have hcz31_1 : w30.cell? ⟨gb425,1,none⟩ = some (.bool false):=(zz18 BK425.out 1).trans rfl;have hfz31_0:=zz17 BK425.out 0;have hfz31_1:=zz17 BK425.out 1))
     refine bodyPost_ret (results_ct rfl _ _ gb425 32 #[.int .i64 0,.bool false] (0,0) _ rfl (by (with_reducible repeat (first|refine zz07 ?_ _|refine zz09 ?_|refine zz08 ?_ _));refine zz35 (cs:=#[.int .i64 0,.bool false]) ?_ 1 _ rfl;(with_reducible repeat (first|refine zz07 ?_ _|refine zz09 ?_|refine zz08 ?_ _));refine zz35 (cs:=#[.int .i64 0,.bool false]) ?_ 0 _ rfl;(with_reducible repeat (first|refine zz07 ?_ _|refine zz09 ?_|refine zz08 ?_ _));exact BK425.out) Tryz.underlying32 rfl (by kernel_rfl)) rfl ?_
     exact ⟨by first|rfl|(simp [errW_none,errW_some] <;> rfl)|(simp [*,errW_none,errW_some] <;> rfl),by repeat (first|(with_reducible first|exact HB.out|apply zz03|apply zz01|apply zz02|refine zz10 ?_ GE425.out|refine zz10 ?_ GE426.out)|exact HB.out)⟩

def heb_FromDay.f (k : Nat) (a0 : Int) : Option (Int × Int × Bool × Int × Int) := (closed_Year.f a0).bind fun bt430 => (if bt430.2 = 0 then ((keviah_Of.f k bt430.1).bind fun bt432 => ((newyear_First.f k bt430.1).bind fun bt437 => ((month_Find.f bt432.1 bt432.2.1 bt432.2.2.1 (wrap64 ((wrap64 (a0 - bt437.1)) + 1))).bind fun bt439 => ((code_Of.f k bt432.2.2.1 bt439.1).bind fun bt442 => (some (bt430.1, bt442.1, bt442.2.1, bt439.2.1, 0)))))) else (some (0, 0, false, 0, bt430.2)))
set_option maxHeartbeats 8000000 in
set_option maxRecDepth 100000 in
theorem heb_FromDay.calls (k : Nat) (a0 : Int) (r1 : Int) (r2 : Int) (r3 : Bool) (r4 : Int) (r5 : Int) (w : World) (HGT : GlobT w) (h : heb_FromDay.f k a0 = some (r1, r2, r3, r4, r5)) :
  Calls Tryz.prog 42 #[.int .i64 a0] w fun e w' => e = .returned (.tuple #[.agg #[.int .i64 r1, .int .i64 r2, .bool r3, .int .i64 r4], .int .i64 r5]) ∧ Below w.heap.size w w' := by
 have hu34 := Tryz.underlying34
 have hu93 := Tryz.underlying93
 have hu32 := Tryz.underlying32
 have HB := zz00 (Below.refl w.heap.size w)
 have H : ((closed_Year.f a0).bind fun bt430=>(if bt430.2 = 0 then ((keviah_Of.f k bt430.1).bind fun bt432=>((newyear_First.f k bt430.1).bind fun bt437=>((month_Find.f bt432.1 bt432.2.1 bt432.2.2.1 (wrap64 ((wrap64 (a0 - bt437.1)) + 1))).bind fun bt439=>((code_Of.f k bt432.2.2.1 bt439.1).bind fun bt442=>(some (bt430.1,bt442.1,bt442.2.1,bt439.2.1,0)))))) else (some (0,0,false,0,bt430.2)))) = some (r1,r2,r3,r4,r5):=h
 clear h
 replace H := zz14.mp H
 obtain ⟨⟨t430, t431⟩, A20, H⟩ := H
 replace H : (if t431 = 0 then ((keviah_Of.f k t430).bind fun bt432=>((newyear_First.f k t430).bind fun bt437=>((month_Find.f bt432.1 bt432.2.1 bt432.2.2.1 (wrap64 ((wrap64 (a0 - bt437.1)) + 1))).bind fun bt439=>((code_Of.f k bt432.2.2.1 bt439.1).bind fun bt442=>(some (t430,bt442.1,bt442.2.1,bt439.2.1,0)))))) else (some (0,0,false,0,t431))) = some (r1,r2,r3,r4,r5):=H
 have A2 := zz00 A20
 clear A20
 by_cases c3 : t431 = 0
 ·
  rw [if_pos c3] at H
  have c3b0 : (t431 == 0) = true := zz29.mpr c3
  have c3b1 : (t431 != 0) = false := zz26.mpr c3
  clear c3
  replace H := zz14.mp H
  obtain ⟨⟨t432, t433, t434, t435⟩, A40, H⟩ := H
  replace H : ((newyear_First.f k t430).bind fun bt437=>((month_Find.f t432 t433 t434 (wrap64 ((wrap64 (a0 - bt437.1)) + 1))).bind fun bt439=>((code_Of.f k t434 bt439.1).bind fun bt442=>(some (t430,bt442.1,bt442.2.1,bt439.2.1,0))))) = some (r1,r2,r3,r4,r5):=H
  have A4 := zz00 A40
  clear A40
  replace H := zz14.mp H
  obtain ⟨⟨t437, t438⟩, A50, H⟩ := H
  replace H : ((month_Find.f t432 t433 t434 (wrap64 ((wrap64 (a0 - t437)) + 1))).bind fun bt439=>((code_Of.f k t434 bt439.1).bind fun bt442=>(some (t430,bt442.1,bt442.2.1,bt439.2.1,0)))) = some (r1,r2,r3,r4,r5):=H
  have A5 := zz00 A50
  clear A50
  replace H := zz14.mp H
  obtain ⟨⟨t439, t440, t441⟩, A60, H⟩ := H
  replace H : ((code_Of.f k t434 t439).bind fun bt442 => (some (t430, bt442.1, bt442.2.1, t440, 0))) = some (r1, r2, r3, r4, r5) := H
  have A6 := zz00 A60
  clear A60
  replace H := zz14.mp H
  obtain ⟨⟨t442, t443, t444⟩, A70, H⟩ := H
  replace H : (some (t430, t442, t443, t440, 0)) = some (r1, r2, r3, r4, r5) := H
  have A7 := zz00 A70
  clear A70
  simp only [zz15, zz16] at H
  obtain ⟨rfl, rfl, rfl, rfl, rfl⟩ := H
  go_enter Tryz.func42, Tryz.ntmps42
  go_wp2_with (first|((with_reducible refine zz24 (N:=2) rfl ?_);refine zz30 ?hg (N:=2) ?hd (cs:=#[.int .i64 0,.int .i64 0,.bool false,.int .i64 0]) (t:=34) ?hr ?_;(case hd=>rfl);(case hg=>rfl);(case hr=>first|(go_simp;done)|(go_simp;rfl));intro gb429 hg w8 hbox hb;have n0_:=zz00 (zz21 (by repeat (first|(with_reducible first|exact HB.out|apply zz03|apply zz01|apply zz02)|exact HB.out)) hb);have n1_:=zz00 (hbox);have n2_:=zz00 ((by rw [hg];exact (zz22 (by repeat (first|(with_reducible first|exact HB.out|apply zz03|apply zz01|apply zz02)|exact HB.out))) : w.heap.size ≤ gb429));have n3_:=zz00 ((by rw [hg];exact (zz22 (by repeat (first|(with_reducible first|exact HB.out|apply zz03|apply zz01|apply zz02)|exact HB.out))) : w.heap.size ≤ gb429));clear HB;have HB:=n0_;have BK429:=n1_;have GW429:=n2_;have GE429:=n3_;clear n0_ n1_ n2_ n3_;clear hb hbox hg)|((with_reducible refine zz23 (f:=92) rfl ?_);refine zz25 (some 17) rfl rfl Tryz.func92 (by kernel_rfl) rfl #[.int .i64 a0] rfl (by (try simp only [List.map_toArray,List.map_cons,List.map_nil]);first|done|rfl|(simp only [List.length_drop,List.length_take];rfl)) ?_;(with_reducible refine (closed_Year.calls a0 t430 t431 _ A2.out).mono ?_);rintro e w9 ⟨rfl,hb⟩;refine ⟨_,rfl,?_⟩;have n0_:=zz00 (zz34 (g:=gb429) (o:=.cells #[.int .i64 0,.int .i64 0,.bool false,.int .i64 0] 34 (0,0)) (by (with_reducible repeat (first|refine zz07 ?_ _|refine zz09 ?_|refine zz08 ?_ _));exact BK429.out) hb);have n1_:=zz00 (zz21 (by repeat (first|(with_reducible first|exact HB.out|apply zz03|apply zz01|apply zz02|refine zz10 ?_ GE429.out)|exact HB.out)) hb);clear BK429;clear HB;have BK429:=n0_;have HB:=n1_;clear n0_ n1_;(try clear hb);(try clear hb2);(try clear hk);(try clear hi))|((with_reducible refine zz23 (f:=93) rfl ?_);refine zz25 (some 26) rfl rfl Tryz.func93 (by kernel_rfl) rfl #[.int .i64 t430] rfl (by (try simp only [List.map_toArray,List.map_cons,List.map_nil]);first|done|rfl|(simp only [List.length_drop,List.length_take];rfl)) ?_;(with_reducible refine (keviah_Of.calls k t430 t432 t433 t434 t435 _ A4.out).mono ?_);rintro e w10 ⟨rfl,hb⟩;refine ⟨_,rfl,?_⟩;have n0_:=zz00 (zz34 (g:=gb429) (o:=.cells #[.int .i64 0,.int .i64 0,.bool false,.int .i64 0] 34 (0,0)) (by (with_reducible repeat (first|refine zz07 ?_ _|refine zz09 ?_|refine zz08 ?_ _));exact BK429.out) hb);have n1_:=zz00 (zz21 (by repeat (first|(with_reducible first|exact HB.out|apply zz03|apply zz01|apply zz02|refine zz10 ?_ GE429.out)|exact HB.out)) hb);clear BK429;clear HB;have BK429:=n0_;have HB:=n1_;clear n0_ n1_;(try clear hb);(try clear hb2);(try clear hk);(try clear hi))|((with_reducible refine zz24 (N:=6) rfl ?_);refine zz30 ?hg (N:=6) ?hd (cs:=#[.int .i64 0,.int .i64 0,.bool false]) (t:=93) ?hr ?_;(case hd=>rfl);(case hg=>rfl);(case hr=>first|(go_simp;done)|(go_simp;rfl));intro gb436 hg w11 hbox hb;have n0_:=zz00 (zz34 (g:=gb429) (o:=.cells #[.int .i64 0,.int .i64 0,.bool false,.int .i64 0] 34 (0,0)) (by (with_reducible repeat (first|refine zz07 ?_ _|refine zz09 ?_|refine zz08 ?_ _));exact BK429.out) hb);have n1_:=zz00 (zz21 (by repeat (first|(with_reducible first|exact HB.out|apply zz03|apply zz01|apply zz02|refine zz10 ?_ GE429.out)|exact HB.out)) hb);have n2_:=zz00 (hbox);have n3_:=zz00 ((by rw [hg];exact (zz22 (by repeat (first|(with_reducible first|exact HB.out|apply zz03|apply zz01|apply zz02|refine zz10 ?_ GE429.out)|exact HB.out))) : w.heap.size ≤ gb436));have n4_:=zz00 ((by rw [hg];exact (zz22 (by repeat (first|(with_reducible first|exact HB.out|apply zz03|apply zz01|apply zz02|refine zz10 ?_ GE429.out)|exact HB.out))) : w.heap.size ≤ gb436));have n5_:=zz00 ((by rw [hg];exact Nat.ne_of_lt (blk_lt (g:=gb429) (o:=.cells #[.int .i64 0,.int .i64 0,.bool false,.int .i64 0] 34 (0,0)) (by (with_reducible repeat (first|refine zz07 ?_ _|refine zz09 ?_|refine zz08 ?_ _));exact BK429.out)) : gb429 ≠ gb436));have n6_:=zz00 ((by rw [hg];exact Nat.ne_of_gt (blk_lt (g:=gb429) (o:=.cells #[.int .i64 0,.int .i64 0,.bool false,.int .i64 0] 34 (0,0)) (by (with_reducible repeat (first|refine zz07 ?_ _|refine zz09 ?_|refine zz08 ?_ _));exact BK429.out)) : gb436 ≠ gb429));clear BK429;clear HB;have BK429:=n0_;have HB:=n1_;have BK436:=n2_;have GW436:=n3_;have GE436:=n4_;have NB429_436:=n5_;have NB436_429:=n6_;clear n0_ n1_ n2_ n3_ n4_ n5_ n6_;clear hb hbox hg;have hnb12:=NB436_429.out;have hnc12:=NB429_436.out;have hcz13_0 : w11.cell? ⟨gb436,0,none⟩ = some (.int .i64 0):=(zz18 BK436.out 0).trans rfl;have hcz13_1 : w11.cell? ⟨gb436,1,none⟩ = some (.int .i64 0):=(zz18 BK436.out 1).trans rfl;have hcz13_2 : w11.cell? ⟨gb436,2,none⟩ = some (.bool false):=(zz18 BK436.out 2).trans rfl;have hfz13_0:=zz17 BK436.out 0;have hfz13_1:=zz17 BK436.out 1;have hfz13_2:=zz17 BK436.out 2)|((with_reducible refine zz23 (f:=80) rfl ?_);refine zz25 (some 31) rfl rfl Tryz.func80 (by kernel_rfl) rfl #[.int .i64 t430] rfl (by (try simp only [List.map_toArray,List.map_cons,List.map_nil]);first|done|rfl|(simp only [List.length_drop,List.length_take];rfl)) ?_;(with_reducible refine (newyear_First.calls k t430 t437 t438 _ A5.out).mono ?_);rintro e w14 ⟨rfl,hb⟩;refine ⟨_,rfl,?_⟩;have n0_:=zz00 (zz34 (g:=gb429) (o:=.cells #[.int .i64 0,.int .i64 0,.bool false,.int .i64 0] 34 (0,0)) (by (with_reducible repeat (first|refine zz07 ?_ _|refine zz09 ?_|refine zz08 ?_ _));refine zz33 ?_ NB429_436.out _;(with_reducible repeat (first|refine zz07 ?_ _|refine zz09 ?_|refine zz08 ?_ _));refine zz33 ?_ NB429_436.out _;(with_reducible repeat (first|refine zz07 ?_ _|refine zz09 ?_|refine zz08 ?_ _));refine zz33 ?_ NB429_436.out _;(with_reducible repeat (first|refine zz07 ?_ _|refine zz09 ?_|refine zz08 ?_ _));exact BK429.out) hb);have n1_:=zz00 (zz34 (g:=gb436) (o:=.cells #[.int .i64 t432,.int .i64 t433,.bool t434] 93 (0,0)) (by (with_reducible repeat (first|refine zz07 ?_ _|refine zz09 ?_|refine zz08 ?_ _));refine zz35 (cs:=#[.int .i64 t432,.int .i64 t433,.bool false]) ?_ 2 _ rfl;(with_reducible repeat (first|refine zz07 ?_ _|refine zz09 ?_|refine zz08 ?_ _));refine zz35 (cs:=#[.int .i64 t432,.int .i64 0,.bool false]) ?_ 1 _ rfl;(with_reducible repeat (first|refine zz07 ?_ _|refine zz09 ?_|refine zz08 ?_ _));refine zz35 (cs:=#[.int .i64 0,.int .i64 0,.bool false]) ?_ 0 _ rfl;(with_reducible repeat (first|refine zz07 ?_ _|refine zz09 ?_|refine zz08 ?_ _));exact BK436.out) hb);have n2_:=zz00 (zz21 (by repeat (first|(with_reducible first|exact HB.out|apply zz03|apply zz01|apply zz02|refine zz10 ?_ GE429.out|refine zz10 ?_ GE436.out)|exact HB.out)) hb);clear BK429;clear BK436;clear HB;have BK429:=n0_;have BK436:=n1_;have HB:=n2_;clear n0_ n1_ n2_;(try clear hb);(try clear hb2);(try clear hk);(try clear hi);have hcz15_0 : w14.cell? ⟨gb436,0,none⟩ = some (.int .i64 t432):=(zz18 BK436.out 0).trans rfl;have hcz15_1 : w14.cell? ⟨gb436,1,none⟩ = some (.int .i64 t433):=(zz18 BK436.out 1).trans rfl;have hcz15_2 : w14.cell? ⟨gb436,2,none⟩ = some (.bool t434):=(zz18 BK436.out 2).trans rfl;have hfz15_0:=zz17 BK436.out 0;have hfz15_1:=zz17 BK436.out 1;have hfz15_2:=zz17 BK436.out 2)|((with_reducible refine zz23 (f:=94) rfl ?_);refine zz25 (some 40) rfl rfl Tryz.func94 (by kernel_rfl) rfl #[.agg #[.int .i64 t432,.int .i64 t433,.bool t434],.int .i64 (wrap64 ((wrap64 (a0 - t437)) + 1))] rfl (by (try simp only [List.map_toArray,List.map_cons,List.map_nil]);first|done|rfl|(simp only [List.length_drop,List.length_take];rfl)) ?_;(with_reducible refine (month_Find.calls t432 t433 t434 (wrap64 ((wrap64 (a0 - t437)) + 1)) t439 t440 t441 _ ?side1 A6.out).mono ?_);(case side1=>exact GlobT.below HGT (by repeat (first|(with_reducible first|exact HB.out|apply zz03|apply zz01|apply zz02|refine zz10 ?_ GE429.out|refine zz10 ?_ GE436.out)|exact HB.out)));rintro e w16 ⟨rfl,hb⟩;refine ⟨_,rfl,?_⟩;have n0_:=zz00 (zz34 (g:=gb429) (o:=.cells #[.int .i64 0,.int .i64 0,.bool false,.int .i64 0] 34 (0,0)) (by (with_reducible repeat (first|refine zz07 ?_ _|refine zz09 ?_|refine zz08 ?_ _));exact BK429.out) hb);have n1_:=zz00 (zz34 (g:=gb436) (o:=.cells #[.int .i64 t432,.int .i64 t433,.bool t434] 93 (0,0)) (by (with_reducible repeat (first|refine zz07 ?_ _|refine zz09 ?_|refine zz08 ?_ _));exact BK436.out) hb);have n2_:=zz00 (zz21 (by repeat (first|(with_reducible first|exact HB.out|apply zz03|apply zz01|apply zz02|refine zz10 ?_ GE429.out|refine zz10 ?_ GE436.out)|exact HB.out)) hb);clear BK429;clear BK436;clear HB;have BK429:=n0_;have BK436:=n1_;have HB:=n2_;clear n0_ n1_ n2_;(try clear hb);(try clear hb2);(try clear hk);(try clear hi);have hcz17_0 : w16.cell? ⟨gb436,0,none⟩ = some (.int .i64 t432):=(zz18 BK436.out 0).trans rfl;have hcz17_1 : w16.cell? ⟨gb436,1,none⟩ = some (.int .i64 t433):=(zz18 BK436.out 1).trans rfl;have hcz17_2 : w16.cell? ⟨gb436,2,none⟩ = some (.bool t434):=(zz18 BK436.out 2).trans rfl;have hfz17_0:=zz17 BK436.out 0;have hfz17_1:=zz17 BK436.out 1;have hfz17_2:=zz17 BK436.out 2)|((with_reducible refine zz23 (f:=95) rfl ?_);refine zz25 (some 48) rfl rfl Tryz.func95 (by kernel_rfl) rfl #[.bool t434,.int .i64 t439] rfl (by (try simp only [List.map_toArray,List.map_cons,List.map_nil]);first|done|rfl|(simp only [List.length_drop,List.length_take];rfl)) ?_;(with_reducible refine (code_Of.calls k t434 t439 t442 t443 t444 _ A7.out).mono ?_);rintro e w18 ⟨rfl,hb⟩;refine ⟨_,rfl,?_⟩;have n0_:=zz00 (zz34 (g:=gb429) (o:=.cells #[.int .i64 0,.int .i64 0,.bool false,.int .i64 0] 34 (0,0)) (by (with_reducible repeat (first|refine zz07 ?_ _|refine zz09 ?_|refine zz08 ?_ _));exact BK429.out) hb);have n1_:=zz00 (zz34 (g:=gb436) (o:=.cells #[.int .i64 t432,.int .i64 t433,.bool t434] 93 (0,0)) (by (with_reducible repeat (first|refine zz07 ?_ _|refine zz09 ?_|refine zz08 ?_ _));exact BK436.out) hb);have n2_:=zz00 (zz21 (by repeat (first|(with_reducible first|exact HB.out|apply zz03|apply zz01|apply zz02|refine zz10 ?_ GE429.out|refine zz10 ?_ GE436.out)|exact HB.out)) hb);clear BK429;clear BK436;clear HB;have BK429:=n0_;have BK436:=n1_;have HB:=n2_;clear n0_ n1_ n2_;(try clear hb);(try clear hb2);(try clear hk);(try clear hi))|((with_reducible refine zz24 (N:=13) rfl ?_);refine zz30 ?hg (N:=13) ?hd (cs:=#[.int .i64 0,.bool false]) (t:=32) ?hr ?_;(case hd=>rfl);(case hg=>rfl);(case hr=>first|(go_simp;done)|(go_simp;rfl));intro gb445 hg w19 hbox hb;have n0_:=zz00 (zz34 (g:=gb429) (o:=.cells #[.int .i64 0,.int .i64 0,.bool false,.int .i64 0] 34 (0,0)) (by (with_reducible repeat (first|refine zz07 ?_ _|refine zz09 ?_|refine zz08 ?_ _));exact BK429.out) hb);have n1_:=zz00 (zz34 (g:=gb436) (o:=.cells #[.int .i64 t432,.int .i64 t433,.bool t434] 93 (0,0)) (by (with_reducible repeat (first|refine zz07 ?_ _|refine zz09 ?_|refine zz08 ?_ _));exact BK436.out) hb);have n2_:=zz00 (zz21 (by repeat (first|(with_reducible first|exact HB.out|apply zz03|apply zz01|apply zz02|refine zz10 ?_ GE429.out|refine zz10 ?_ GE436.out)|exact HB.out)) hb);have n3_:=zz00 (hbox);have n4_:=zz00 ((by rw [hg];exact (zz22 (by repeat (first|(with_reducible first|exact HB.out|apply zz03|apply zz01|apply zz02|refine zz10 ?_ GE429.out|refine zz10 ?_ GE436.out)|exact HB.out))) : w.heap.size ≤ gb445));have n5_:=zz00 ((by rw [hg];exact (zz22 (by repeat (first|(with_reducible first|exact HB.out|apply zz03|apply zz01|apply zz02|refine zz10 ?_ GE429.out|refine zz10 ?_ GE436.out)|exact HB.out))) : w.heap.size ≤ gb445));have n6_:=zz00 ((by rw [hg];exact Nat.ne_of_lt (blk_lt (g:=gb429) (o:=.cells #[.int .i64 0,.int .i64 0,.bool false,.int .i64 0] 34 (0,0)) (by (with_reducible repeat (first|refine zz07 ?_ _|refine zz09 ?_|refine zz08 ?_ _));exact BK429.out)) : gb429 ≠ gb445));have n7_:=zz00 ((by rw [hg];exact Nat.ne_of_gt (blk_lt (g:=gb429) (o:=.cells #[.int .i64 0,.int .i64 0,.bool false,.int .i64 0] 34 (0,0)) (by (with_reducible repeat (first|refine zz07 ?_ _|refine zz09 ?_|refine zz08 ?_ _));exact BK429.out)) : gb445 ≠ gb429));have n8_:=zz00 ((by rw [hg];exact Nat.ne_of_lt (blk_lt (g:=gb436) (o:=.cells #[.int .i64 t432,.int .i64 t433,.bool t434] 93 (0,0)) (by (with_reducible repeat (first|refine zz07 ?_ _|refine zz09 ?_|refine zz08 ?_ _));exact BK436.out)) : gb436 ≠ gb445));have n9_:=zz00 ((by rw [hg];exact Nat.ne_of_gt (blk_lt (g:=gb436) (o:=.cells #[.int .i64 t432,.int .i64 t433,.bool t434] 93 (0,0)) (by (with_reducible repeat (first|refine zz07 ?_ _|refine zz09 ?_|refine zz08 ?_ _));exact BK436.out)) : gb445 ≠ gb436));clear BK429;clear BK436;clear HB;have BK429:=n0_;have BK436:=n1_;have HB:=n2_;have BK445:=n3_;have GW445:=n4_;have GE445:=n5_;have NB429_445:=n6_;have NB445_429:=n7_;have NB436_445:=n8_;have NB445_436:=n9_;clear n0_ n1_ n2_ n3_ n4_ n5_ n6_ n7_ n8_ n9_;clear hb hbox hg;have hnb20:=NB445_429.out;have hnc20:=NB429_445.out;have hnb21:=NB445_436.out;have hnc21:=NB436_445.out;have hcz22_0 : w19.cell? ⟨gb445,0,none⟩ = some (.int .i64 0):=(zz18 BK445.out 0).trans rfl;have hcz22_1 : w19.cell? ⟨gb445,1,none⟩ = some (.bool false):=(zz18 BK445.out 1).trans rfl;have hfz22_0:=zz17 BK445.out 0;have hfz22_1:=zz17 BK445.out 1;have hcz23_0 : w19.cell? ⟨gb429,0,none⟩ = some (.int .i64 0):=(zz18 BK429.out 0).trans rfl;have hcz23_1 : w19.cell? ⟨gb429,1,none⟩ = some (.int .i64 0):=(zz18 BK429.out 1).trans rfl;have hcz23_2 : w19.cell? ⟨gb429,2,none⟩ = some (.bool false):=(zz18 BK429.out 2).trans rfl;have hcz23_3 : w19.cell? ⟨gb429,3,none⟩ = some (.int .i64 0):=(zz18 BK429.out 3).trans rfl;have hfz23_0:=zz17 BK429.out 0;have hfz23_1:=zz17 BK429.out 1;have hfz23_2:=zz17 BK429.out 2;have hfz23_3:=zz17 BK429.out 3))
  refine bodyPost_ret (results_ct rfl _ _ gb429 34 #[.int .i64 t430,.int .i64 t442,.bool t443,.int .i64 t440] (0,0) _ rfl (by (with_reducible repeat (first|refine zz07 ?_ _|refine zz09 ?_|refine zz08 ?_ _));refine zz35 (cs:=#[.int .i64 t430,.int .i64 t442,.bool t443,.int .i64 0]) ?_ 3 _ rfl;(with_reducible repeat (first|refine zz07 ?_ _|refine zz09 ?_|refine zz08 ?_ _));refine zz35 (cs:=#[.int .i64 t430,.int .i64 t442,.bool false,.int .i64 0]) ?_ 2 _ rfl;(with_reducible repeat (first|refine zz07 ?_ _|refine zz09 ?_|refine zz08 ?_ _));refine zz35 (cs:=#[.int .i64 t430,.int .i64 0,.bool false,.int .i64 0]) ?_ 1 _ rfl;(with_reducible repeat (first|refine zz07 ?_ _|refine zz09 ?_|refine zz08 ?_ _));refine zz35 (cs:=#[.int .i64 0,.int .i64 0,.bool false,.int .i64 0]) ?_ 0 _ rfl;(with_reducible repeat (first|refine zz07 ?_ _|refine zz09 ?_|refine zz08 ?_ _));refine zz33 ?_ NB429_445.out _;(with_reducible repeat (first|refine zz07 ?_ _|refine zz09 ?_|refine zz08 ?_ _));refine zz33 ?_ NB429_445.out _;(with_reducible repeat (first|refine zz07 ?_ _|refine zz09 ?_|refine zz08 ?_ _));exact BK429.out) Tryz.underlying34 rfl (by kernel_rfl)) rfl ?_
  exact ⟨by first|rfl|(simp [errW_none,errW_some] <;> rfl)|(simp [*,errW_none,errW_some] <;> rfl),by repeat (first|(with_reducible first|exact HB.out|apply zz03|apply zz01|apply zz02|refine zz10 ?_ GE429.out|refine zz10 ?_ GE436.out|refine zz10 ?_ GE445.out)|exact HB.out)⟩
 ·
  rw [if_neg c3] at H
  have c3b0 : (t431 == 0) = false := zz27.mpr c3
  have c3b1 : (t431 != 0) = true := zz28.mpr c3
  simp only [zz15, zz16] at H
  obtain ⟨rfl, rfl, rfl, rfl, rfl⟩ := H
  go_enter Tryz.func42, Tryz.ntmps42
  go_wp2_with (first|((with_reducible refine zz24 (N:=2) rfl ?_);refine zz30 ?hg (N:=2) ?hd (cs:=#[.int .i64 0,.int .i64 0,.bool false,.int .i64 0]) (t:=34) ?hr ?_;(case hd=>rfl);(case hg=>rfl);(case hr=>first|(go_simp;done)|(go_simp;rfl));intro gb429 hg w24 hbox hb;have n0_:=zz00 (zz21 (by repeat (first|(with_reducible first|exact HB.out|apply zz03|apply zz01|apply zz02)|exact HB.out)) hb);have n1_:=zz00 (hbox);have n2_:=zz00 ((by rw [hg];exact (zz22 (by repeat (first|(with_reducible first|exact HB.out|apply zz03|apply zz01|apply zz02)|exact HB.out))) : w.heap.size ≤ gb429));have n3_:=zz00 ((by rw [hg];exact (zz22 (by repeat (first|(with_reducible first|exact HB.out|apply zz03|apply zz01|apply zz02)|exact HB.out))) : w.heap.size ≤ gb429));clear HB;have HB:=n0_;have BK429:=n1_;have GW429:=n2_;have GE429:=n3_;clear n0_ n1_ n2_ n3_;clear hb hbox hg)|((with_reducible refine zz23 (f:=92) rfl ?_);refine zz25 (some 17) rfl rfl Tryz.func92 (by kernel_rfl) rfl #[.int .i64 a0] rfl (by (try simp only [List.map_toArray,List.map_cons,List.map_nil]);first|done|rfl|(simp only [List.length_drop,List.length_take];rfl)) ?_;(with_reducible refine (closed_Year.calls a0 t430 t431 _ A2.out).mono ?_);rintro e w25 ⟨rfl,hb⟩;refine ⟨_,rfl,?_⟩;have n0_:=zz00 (zz34 (g:=gb429) (o:=.cells #[.int .i64 0,.int .i64 0,.bool false,.int .i64 0] 34 (0,0)) (by (with_reducible repeat (first|refine zz07 ?_ _|refine zz09 ?_|refine zz08 ?_ _));exact BK429.out) hb);have n1_:=zz00 (zz21 (by repeat (first|(with_reducible first|exact HB.out|apply zz03|apply zz01|apply zz02|refine zz10 ?_ GE429.out)|exact HB.out)) hb);clear BK429;clear HB;have BK429:=n0_;have HB:=n1_;clear n0_ n1_;(try clear hb);(try clear hb2);(try clear hk);(try clear hi);have hcz26_0 : w25.cell? ⟨gb429,0,none⟩ = some (.int .i64 0):=(zz18 BK429.out 0).trans rfl;have hcz26_1 : w25.cell? ⟨gb429,1,none⟩ = some (.int .i64 0):=(zz18 BK429.out 1).trans rfl;have hcz26_2 : w25.cell? ⟨gb429,2,none⟩ = some (.bool false):=(zz18 BK429.out 2).trans rfl;have hcz26_3 : w25.cell? ⟨gb429,3,none⟩ = some (.int .i64 0):=(zz18 BK429.out 3).trans rfl;have hfz26_0:=zz17 BK429.out 0;have hfz26_1:=zz17 BK429.out 1;have hfz26_2:=zz17 BK429.out 2;have hfz26_3:=zz17 BK429.out 3))
  refine bodyPost_ret (results_ct rfl _ _ gb429 34 #[.int .i64 0,.int .i64 0,.bool false,.int .i64 0] (0,0) _ rfl (by (with_reducible repeat (first|refine zz07 ?_ _|refine zz09 ?_|refine zz08 ?_ _));refine zz35 (cs:=#[.int .i64 0,.int .i64 0,.bool false,.int .i64 0]) ?_ 3 _ rfl;(with_reducible repeat (first|refine zz07 ?_ _|refine zz09 ?_|refine zz08 ?_ _));refine zz35 (cs:=#[.int .i64 0,.int .i64 0,.bool false,.int .i64 0]) ?_ 2 _ rfl;(with_reducible repeat (first|refine zz07 ?_ _|refine zz09 ?_|refine zz08 ?_ _));refine zz35 (cs:=#[.int .i64 0,.int .i64 0,.bool false,.int .i64 0]) ?_ 1 _ rfl;(with_reducible repeat (first|refine zz07 ?_ _|refine zz09 ?_|refine zz08 ?_ _));refine zz35 (cs:=#[.int .i64 0,.int .i64 0,.bool false,.int .i64 0]) ?_ 0 _ rfl;(with_reducible repeat (first|refine zz07 ?_ _|refine zz09 ?_|refine zz08 ?_ _));exact BK429.out) Tryz.underlying34 rfl (by kernel_rfl)) rfl ?_
  exact ⟨by first|rfl|(simp [errW_none,errW_some] <;> rfl)|(simp [*,errW_none,errW_some] <;> rfl),by repeat (first|(with_reducible first|exact HB.out|apply zz03|apply zz01|apply zz02|refine zz10 ?_ GE429.out)|exact HB.out)⟩

end Go.Proofs.YtflpddhoiafhcaaGreatDoor.S
end
