/- Texts of the proof of 'FeastTells', joined by a program (part 5): contracts of functions, plain laws. -/
import Derived.Test.YtflpddhoiafhcaaDoorJFeastTells0
import Derived.Test.YtflpddhoiafhcaaDoorJFeastTells2
import Derived.Test.YtflpddhoiafhcaaDoorJFeastTells4
section
-- Written by wip/hprint.py of this repo (holes typed by hand, all else by a program) over the seat YtflpddhoiafhcaaDoor.
namespace Go.Proofs.YtflpddhoiafhcaaDoor.T
open Go.Proofs.YtflpddhoiafhcaaDoor.H
open Go.RowKit Go.Proofs.YtflpddhoiafhcaaDoorW.PrintWords Go.Proofs.YtflpddhoiafhcaaDoorW.PrintLast Go.Proofs.YtflpddhoiafhcaaDoorW.PrintMore
attribute [local go_sem] max2_int min2_int max_two min_two max_three min_three max_four min_four   -- for this text's walks alone
set_option linter.unusedVariables false
set_option linter.unusedSimpArgs false

mutual
def r19_Sort.l0 : Nat → List (S48) → List (S48) → Int → Option ((List (S48)))
  | 0, _, _, _ => none
  | k + 1, x0, x3, x4 => if x4 < (x0.length : Int) then (r19_Sort.l1 k x0 x3 x4 (x3.length : Int)) else (some x3)
def r19_Sort.l1 : Nat → List (S48) → List (S48) → Int → Int → Option ((List (S48)))
  | 0, _, _, _, _ => none
  | k + 1, x0, x3, x4, x5 => if x5 > 0 then (if 0 ≤ x4 then (if x4 < (x0.length : Int) then (if 0 ≤ (wrap64 (x5 - 1)) then (if (wrap64 (x5 - 1)) < (x3.length : Int) then ((r19_before.f ((rd_T48 x0 x4).f0) ((rd_T48 x0 x4).f1) ((rd_T48 x3 (wrap64 (x5 - 1))).f0) ((rd_T48 x3 (wrap64 (x5 - 1))).f1)).bind fun t260 => (if t260 = true then (r19_Sort.l1 k x0 x3 x4 (wrap64 (x5 - 1))) else ((some (([] : List (S48)) : List (S48))).bind fun y261 => (if 0 ≤ x5 then (if x5 ≤ (x3.length : Int) then ((some (x3.drop (x5 : Int).toNat : List (S48))).bind fun y264 => (if y261.length + y264.length < 8796093022208 then ((some (y261 ++ y264 : List (S48))).bind fun y268 => ((some (x3.take (x5 : Int).toNat : List (S48))).bind fun y271 => (if y271.length < 8796093022208 then ((some (y271 ++ [(⟨(rd_T48 x0 x4).f0, (rd_T48 x0 x4).f1⟩ : S48)] : List (S48))).bind fun y275 => (if y275.length + y268.length < 8796093022208 then (r19_Sort.l0 k x0 (y275 ++ y268) (wrap64 (x4 + 1))) else (none))) else (none)))) else (none))) else (none)) else (none))))) else (none)) else (none)) else (none)) else (none)) else ((some (([] : List (S48)) : List (S48))).bind fun y281 => (if 0 ≤ x5 then (if x5 ≤ (x3.length : Int) then ((some (x3.drop (x5 : Int).toNat : List (S48))).bind fun y284 => (if y281.length + y284.length < 8796093022208 then ((some (y281 ++ y284 : List (S48))).bind fun y288 => ((some (x3.take (x5 : Int).toNat : List (S48))).bind fun y291 => (if 0 ≤ x4 then (if x4 < (x0.length : Int) then (if y291.length < 8796093022208 then ((some (y291 ++ [(⟨(rd_T48 x0 x4).f0, (rd_T48 x0 x4).f1⟩ : S48)] : List (S48))).bind fun y295 => (if y295.length + y288.length < 8796093022208 then (r19_Sort.l0 k x0 (y295 ++ y288) (wrap64 (x4 + 1))) else (none))) else (none)) else (none)) else (none)))) else (none))) else (none)) else (none)))
end
def r19_Sort.f (k : Nat) (l0 : List (S48)) : Option ((List (S48))) := r19_Sort.l0 k l0 ([] : List (S48)) 0
theorem r19_Sort.mono_l : ∀ k, (∀ y0 y1 y2, LeO (r19_Sort.l0 k y0 y1 y2) (r19_Sort.l0 (k + 1) y0 y1 y2)) ∧ (∀ y0 y1 y2 y3, LeO (r19_Sort.l1 k y0 y1 y2 y3) (r19_Sort.l1 (k + 1) y0 y1 y2 y3))
 | 0 => ⟨fun _ _ _ r h => by simp [r19_Sort.l0] at h, fun _ _ _ _ r h => by simp [r19_Sort.l1] at h⟩
 | k + 1 => by
  obtain ⟨ih0, ih1⟩ := r19_Sort.mono_l k
  refine ⟨?_, ?_⟩
  ·
   intro y0 y1 y2
   unfold r19_Sort.l0
   repeat' first
   | (with_reducible exact ih0 _ _ _)
   | (with_reducible exact ih1 _ _ _ _)
   | (with_reducible exact LeO.refl _)
   | (with_reducible exact LeO.none _)
   | (with_reducible refine LeO.ite ?_ ?_)
   | (with_reducible refine LeO.bind ?_ (fun _ => ?_))
   | exact ih0 _ _ _
   | exact ih1 _ _ _ _
   | exact LeO.none _
   | refine LeO.ite ?_ ?_
   | refine LeO.bind ?_ (fun _ => ?_)
  ·
   intro y0 y1 y2 y3
   unfold r19_Sort.l1
   repeat' first
   | (with_reducible exact ih0 _ _ _)
   | (with_reducible exact ih1 _ _ _ _)
   | (with_reducible exact LeO.refl _)
   | (with_reducible exact LeO.none _)
   | (with_reducible refine LeO.ite ?_ ?_)
   | (with_reducible refine LeO.bind ?_ (fun _ => ?_))
   | exact ih0 _ _ _
   | exact ih1 _ _ _ _
   | exact LeO.none _
   | refine LeO.ite ?_ ?_
   | refine LeO.bind ?_ (fun _ => ?_)
def r19_Sort.T6 : Bool × List (List Nat × List Nat) := (true, [([], []), ([0], [0]), ([1], [1]), ([2], [2]), ([2], [2]), ([3, 4, 2], [2, 3, 4]), ([5, 2], [2, 5]), ([2], [2]), ([2], [2]), ([8, 2], [2, 8]), ([7, 9, 2], [2, 7, 9]), ([10, 2], [2, 10]), ([6, 11, 2, 2], [2, 6, 11]), ([2, 12], [2, 12])])
def r19_Sort.B6 : List Nat := [0, 1, 3, 7, 7, 31, 63, 7, 7, 263, 903, 1927, 4095, 8191]
theorem r19_Sort.tab6 : rtab .any (opsOf Tryd.f40 6) = r19_Sort.T6 := by kernel_rfl
theorem r19_Sort.bits6 : waitsOk r19_Sort.T6.2 r19_Sort.B6 = true := by kernel_rfl
def r19_Sort.T9 : Bool × List (List Nat × List Nat) := (true, [([], []), ([], []), ([0, 1], [0, 1]), ([], []), ([], []), ([3, 4], [3, 4]), ([5], [5]), ([6], [6]), ([2, 7], [2, 7]), ([], []), ([8, 9, 8], [8, 9]), ([10, 10, 0, 1, 2, 3, 4, 5, 6, 7, 8, 9, 10], [0, 10])])
def r19_Sort.B9 : List Nat := [0, 0, 3, 0, 0, 24, 56, 120, 255, 0, 1023, 2047]
theorem r19_Sort.tab9 : rtab .any (opsOf Tryd.f40 9) = r19_Sort.T9 := by kernel_rfl
theorem r19_Sort.bits9 : waitsOk r19_Sort.T9.2 r19_Sort.B9 = true := by kernel_rfl
set_option maxHeartbeats 8000000 in
set_option maxRecDepth 100000 in
theorem r19_Sort.calls (k : Nat) (A0 : Option Addr) (c0 : Nat) (l0 : List (S48)) (r : List (S48)) (w : World) (hr0 : Kd.C k48 w A0 l0.length l0) (hc0 : l0.length ≤ c0) (h : r19_Sort.f k l0 = some r) :
  Calls Tryd.prog 40 #[.slice A0 l0.length c0] w fun e w' => ∃ v0_ : Value, e = .returned (v0_) ∧ Kd.R k48 48 w' w.heap.size (fun _ => True) v0_ r ∧ Below w.heap.size w w' := by
 have hu48 := Tryd.underlying48
 have HR0 := zz00 hr0
 have HC0 := zz00 hc0
 clear hr0 hc0
 have HB := zz00 (Below.refl w.heap.size w)
 have H : (r19_Sort.l0 k l0 ([] : List (S48)) 0) = some r := h
 clear h
 have H' := zz00 H
 clear H
 go_enter Tryd.func40, Tryd.ntmps40
 go_wp2
 go_loopg [3,4] k (fun kq v3 v4 w'=>∃ (x3_1 : List (S48)) (x4_1 : Int),v4 = .int .i64 x4_1 ∧ Aside0 (r19_Sort.l0 kq l0 x3_1 x4_1 = some r) ∧ Aside0 (kq ≤ k) ∧ Aside0 (Kd.R k48 48 w' w.heap.size (fun _=>True) v3 x3_1) ∧ Aside0 (Below w.heap.size w w'))
 case atStart=>exact ⟨(([] : List (S48))),(0),(by first|rfl|(simp;done)|(simp [*];done)),H',⟨Nat.le_refl _⟩,⟨by first|exact Kd.R_nil _ _ _ _ _|exact Kd.N_nil _ _ _ _ _|exact Kd.V_nil _ _ _ _ _|exact Kd.Q_nil _ _ _ _ _|exact Kd.S_nil _ _ _ _ _⟩,⟨by repeat (first|(with_reducible first|exact HB.out|apply zz03|apply zz01|apply zz02)|exact HB.out)⟩⟩
 case round =>
  clear H'
  obtain ⟨x3_1, x4_1, rfl, HA, HK1, HO_3, HB⟩ := hrel
  cases gk with
  | zero => exact absurd HA.out (by simp [r19_Sort.l0])
  | succ k1 =>
   have H := HA.out
   clear HA
   simp only [r19_Sort.l0] at H
   by_cases c2 : x4_1 < (l0.length : Int)
   ·
    rw [if_pos c2] at H
    have c2b0 : decide (x4_1 < (l0.length : Int)) = true := decide_eq_true c2
    clear c2
    have H' := zz00 H
    clear H
    obtain ⟨Ao3, co3, eo3⟩ := Kd.R_slice HO_3.out
    subst eo3
    go_wp2
    go_loopg [5] k1 (fun kq v5 w'=>∃ (x5_2 : Int),v5 = .int .i64 x5_2 ∧ Aside0 (r19_Sort.l1 kq l0 x3_1 x4_1 x5_2 = some r) ∧ Aside0 (kq ≤ k1) ∧ Aside0 (Kd.R k48 48 w' w.heap.size (fun _=>True) (.slice Ao3 x3_1.length co3) x3_1) ∧ Aside0 (Below w.heap.size w w'))
    case atStart=>exact ⟨((x3_1.length : Int)),(by first|rfl|(simp;done)|(simp [*];done)),H',⟨Nat.le_refl _⟩,⟨by (with_reducible repeat (first|apply zz05|apply zz04|apply zz06));exact HO_3.out⟩,⟨by repeat (first|(with_reducible first|exact HB.out|apply zz03|apply zz01|apply zz02)|exact HB.out)⟩⟩
    case round =>
     clear H'
     try clear c2
     try clear c2b0
     try clear p2
     obtain ⟨x5_2, rfl, HA, HK2, HO_3, HB⟩ := hrel
     cases gk with
     | zero => exact absurd HA.out (by simp [r19_Sort.l1])
     | succ k2 =>
      have H := HA.out
      clear HA
      simp only [r19_Sort.l1] at H
      by_cases c4 : x5_2 > 0
      ·
       rw [if_pos c4] at H
       have c4b0 : decide (0 < x5_2) = true := decide_eq_true c4
       clear c4
       by_cases c5 : 0 ≤ x4_1
       ·
        rw [if_pos c5] at H
        have c5b0 : decide (0 ≤ x4_1) = true := decide_eq_true c5
        clear c5
        by_cases c6 : x4_1 < (l0.length : Int)
        ·
         rw [if_pos c6] at H
         have c6b0 : decide (x4_1 < (l0.length : Int)) = true := decide_eq_true c6
         clear c6
         obtain ⟨ji7, hji7⟩ : ∃ j_ : Int, (wrap64 (x5_2 - 1)) = j_ := ⟨_, rfl⟩
         replace H : (if 0 ≤ (ji7) then (if (ji7) < (x3_1.length : Int) then ((r19_before.f ((rd_T48 l0 x4_1).f0) ((rd_T48 l0 x4_1).f1) ((rd_T48 x3_1 (ji7)).f0) ((rd_T48 x3_1 (ji7)).f1)).bind fun t260=>(if t260 = true then (r19_Sort.l1 k2 l0 x3_1 x4_1 ji7) else ((some (([] : List (S48)) : List (S48))).bind fun y261=>(if 0 ≤ x5_2 then (if x5_2 ≤ (x3_1.length : Int) then ((some (x3_1.drop (x5_2 : Int).toNat : List (S48))).bind fun y264=>(if y261.length + y264.length < 8796093022208 then ((some (y261 ++ y264 : List (S48))).bind fun y268=>((some (x3_1.take (x5_2 : Int).toNat : List (S48))).bind fun y271=>(if y271.length < 8796093022208 then ((some (y271 ++ [(⟨(rd_T48 l0 x4_1).f0,(rd_T48 l0 x4_1).f1⟩ : S48)] : List (S48))).bind fun y275=>(if y275.length + y268.length < 8796093022208 then (r19_Sort.l0 k2 l0 (y275 ++ y268) (wrap64 (x4_1 + 1))) else (none))) else (none)))) else (none))) else (none)) else (none))))) else (none)) else (none)) = some r:=by first|(rw [hji7] at H;exact H)|(simp only [hji7] at H ⊢;exact H)
         have hji7w : (IntKind.i64.wrap (x5_2 - 1)) = ji7 := (i64_w _).trans hji7
         by_cases c8 : 0 ≤ (ji7)
         ·
          rw [if_pos c8] at H
          have c8b0 : decide (0 ≤ (ji7)) = true := decide_eq_true c8
          clear c8
          by_cases c9 : (ji7) < (x3_1.length : Int)
          ·
           rw [if_pos c9] at H
           have c9b0 : decide ((ji7) < (x3_1.length : Int)) = true := decide_eq_true c9
           clear c9
           replace H := zz14.mp H
           obtain ⟨t260, A100, H⟩ := H
           replace H : (if t260 = true then (r19_Sort.l1 k2 l0 x3_1 x4_1 ji7) else ((some (([] : List (S48)) : List (S48))).bind fun y261=>(if 0 ≤ x5_2 then (if x5_2 ≤ (x3_1.length : Int) then ((some (x3_1.drop (x5_2 : Int).toNat : List (S48))).bind fun y264=>(if y261.length + y264.length < 8796093022208 then ((some (y261 ++ y264 : List (S48))).bind fun y268=>((some (x3_1.take (x5_2 : Int).toNat : List (S48))).bind fun y271=>(if y271.length < 8796093022208 then ((some (y271 ++ [(⟨(rd_T48 l0 x4_1).f0,(rd_T48 l0 x4_1).f1⟩ : S48)] : List (S48))).bind fun y275=>(if y275.length + y268.length < 8796093022208 then (r19_Sort.l0 k2 l0 (y275 ++ y268) (wrap64 (x4_1 + 1))) else (none))) else (none)))) else (none))) else (none)) else (none)))) = some r:=H
           have A10 := zz00 A100
           clear A100
           by_cases c11 : t260 = true
           ·
            subst c11
            have H1 : (r19_Sort.l1 k2 l0 x3_1 x4_1 ji7) = some r := by rw [if_pos rfl] at H; exact H
            clear H
            have H := H1
            clear H1
            have H' := zz00 H
            clear H
            try go_wp2
            have n0_ := zz00 (zz06 HO_3.out)
            have n1_ := zz00 (zz02 HB.out)
            clear HO_3
            clear HB
            have HO_3 := n0_
            have HB := n1_
            clear n0_ n1_
            have p258 : 0 ≤ (x4_1 : Int) := zz31 (by first | (with_reducible assumption) | assumption)
            have q258 : x4_1 < (l0.length : Int) := zz31 (by first | (with_reducible assumption) | assumption)
            obtain ⟨ad258, e258, hx258_0, hx258_1⟩ := at_T48 HR0.out x4_1 p258 q258
            have hw258_1 := hx258_1
            have hw258_0 := hx258_0
            cases e258
            replace hx258_0 := (HB.out.cell (World.block_lt_of_cell? w _ hx258_0)).trans hx258_0
            replace hx258_1 := (HB.out.cell (World.block_lt_of_cell? w _ hx258_1)).trans hx258_1
            replace p258 := eq_true p258
            replace q258 := eq_true q258
            have p259 : 0 ≤ ((ji7) : Int) := zz31 (by first | (with_reducible assumption) | assumption)
            have q259 : (ji7) < (x3_1.length : Int) := zz31 (by first | (with_reducible assumption) | assumption)
            obtain ⟨ad259, e259, hx259_0, hx259_1⟩ := at_T48 (Kd.R_reads' HO_3.out).2.2 (ji7) p259 q259
            cases e259
            replace p259 := eq_true p259
            replace q259 := eq_true q259
            refine start_ (n:=14) (S:=fun w'=>w'.cell? (ad258.add ((x4_1).toNat * 2)) = some (.int .i64 ((rd_T48 l0 x4_1).f0)) ∧ w'.cell? ⟨(ad258.add ((x4_1).toNat * 2)).block,(ad258.add ((x4_1).toNat * 2)).off + 1,none⟩ = some (.int .i64 ((rd_T48 l0 x4_1).f1)) ∧ w'.cell? (ad259.add (((ji7)).toNat * 2)) = some (.int .i64 ((rd_T48 x3_1 (ji7)).f0)) ∧ w'.cell? ⟨(ad259.add (((ji7)).toNat * 2)).block,(ad259.add (((ji7)).toNat * 2)).off + 1,none⟩ = some (.int .i64 ((rd_T48 x3_1 (ji7)).f1))) (ds:=[]) #[false,false,false,false,false,false,false,false,false,false,false,false,false,false] (by kernel_rfl) rfl rfl ⟨((HB.out.cell (World.block_lt_of_cell? w _ hw258_0)).trans hw258_0),((HB.out.cell (World.block_lt_of_cell? w _ hw258_1)).trans hw258_1),hx259_0,hx259_1⟩ (fun hHeld=>?_);refine with_tabW r19_Sort.tab6 r19_Sort.bits6 (fun HT_ HW_=>?_)
            generalize wr.drew = w12 at HO_3 HB hx258_0 hx258_1 hx259_0 hx259_1 hHeld ⊢
            refine pure_ (i:=0) (N:=some 15) (v:=?_) (a':=?_) #[true,false,false,false,false,false,false,false,false,false,false,false,false,false] rfl rfl (any_of HT_.out (by kernel_rfl)) (fun _ _ _ h=>h) (Or.inl ⟨by rfl,?_⟩) ?_ ?_
            rotate_left
            ·
             intro w'
             go_simp
             with_reducible rfl
            rotate_left
            ·
             simp only [Act.put,zz11,zz12,zz13,i64_w,i32_w]
             rfl
            refine pure_ (i:=1) (N:=some 16) (v:=?_) (a':=?_) #[true,true,false,false,false,false,false,false,false,false,false,false,false,false] rfl rfl (any_of HT_.out (by kernel_rfl)) (fun _ _ _ h=>h) (Or.inl ⟨by rfl,?_⟩) ?_ ?_
            rotate_left
            ·
             intro w'
             go_simp
             with_reducible rfl
            rotate_left
            ·
             simp only [Act.put,zz11,zz12,zz13,i64_w,i32_w]
             rfl
            refine pure_ (i:=2) (N:=some 17) (v:=?_) (a':=?_) #[true,true,true,false,false,false,false,false,false,false,false,false,false,false] rfl rfl (any_of HT_.out (by kernel_rfl)) (fun _ _ _ h=>h) (Or.inl ⟨by rfl,?_⟩) ?_ ?_
            rotate_left
            ·
             intro w'
             go_simp
             with_reducible rfl
            rotate_left
            ·
             simp only [Act.put,zz11,zz12,zz13,i64_w,i32_w]
             rfl
            refine pure_ (i:=3) (N:=some 18) (v:=?_) (a':=?_) #[true,true,true,true,false,false,false,false,false,false,false,false,false,false] rfl rfl (any_of HT_.out (by kernel_rfl)) (fun _ _ _ h=>h) (Or.inl ⟨by rfl,?_⟩) ?_ ?_
            rotate_left
            ·
             intro w'
             go_simp
             with_reducible rfl
            rotate_left
            ·
             simp only [Act.put,zz11,zz12,zz13,i64_w,i32_w]
             rfl
            refine pure_ (i:=4) (N:=some 19) (v:=?_) (a':=?_) #[true,true,true,true,true,false,false,false,false,false,false,false,false,false] rfl rfl (any_of HT_.out (by kernel_rfl)) (fun _ _ _ h=>h) (Or.inl ⟨by rfl,?_⟩) ?_ ?_
            rotate_left
            ·
             intro w'
             go_simp
             with_reducible rfl
            rotate_left
            ·
             simp only [Act.put,zz11,zz12,zz13,i64_w,i32_w]
             rfl
            refine pure_ (i:=5) (N:=some 20) (v:=?_) (a':=?_) #[true,true,true,true,true,true,false,false,false,false,false,false,false,false] rfl rfl (any_of HT_.out (by kernel_rfl)) (fun _ _ _ h=>h) (Or.inl ⟨by rfl,?_⟩) ?_ ?_
            rotate_left
            ·
             intro w'
             go_simp
             with_reducible rfl
            rotate_left
            ·
             simp only [Act.put,zz11,zz12,zz13,i64_w,i32_w]
             rfl
            refine pure_ (i:=7) (N:=some 22) (v:=?_) (a':=?_) #[true,true,true,true,true,true,false,true,false,false,false,false,false,false] rfl rfl (any_of HT_.out (by kernel_rfl)) (fun _ _ _ h=>h) (Or.inl ⟨by rfl,?_⟩) ?_ ?_
            rotate_left
            ·
             intro w'
             go_simp
             with_reducible rfl
            rotate_left
            ·
             simp only [Act.put,zz11,zz12,zz13,i64_w,i32_w]
             rfl
            refine pure_ (i:=8) (N:=some 23) (v:=?_) (a':=?_) #[true,true,true,true,true,true,false,true,true,false,false,false,false,false] rfl rfl (any_of HT_.out (by kernel_rfl)) (fun _ _ _ h=>h) (Or.inl ⟨by rfl,?_⟩) ?_ ?_
            rotate_left
            ·
             intro w'
             go_simp
             with_reducible rfl
            rotate_left
            ·
             simp only [Act.put,zz11,zz12,zz13,i64_w,i32_w]
             rfl
            refine pure_ (i:=9) (N:=some 24) (v:=?_) (a':=?_) #[true,true,true,true,true,true,false,true,true,true,false,false,false,false] rfl rfl (any_of HT_.out (by kernel_rfl)) (fun _ _ _ h=>h) (Or.inl ⟨by rfl,?_⟩) ?_ ?_
            rotate_left
            ·
             intro w'
             go_simp
             with_reducible rfl
            rotate_left
            ·
             simp only [Act.put,zz11,zz12,zz13,i64_w,i32_w]
             rfl
            refine pure_ (i:=10) (N:=some 25) (v:=?_) (a':=?_) #[true,true,true,true,true,true,false,true,true,true,true,false,false,false] rfl rfl (any_of HT_.out (by kernel_rfl)) (fun _ _ _ h=>h) (Or.inl ⟨by rfl,?_⟩) ?_ ?_
            rotate_left
            ·
             intro w'
             go_simp
             with_reducible rfl
            rotate_left
            ·
             simp only [Act.put,zz11,zz12,zz13,i64_w,i32_w]
             rfl
            refine take_ (i:=6) (N:=some 21) (v:=?_) (a':=?_) #[true,true,true,true,true,true,true,true,true,true,true,false,false,false] rfl rfl (take_ofW HT_.out HW_.out (by kernel_rfl)) (fun _ _ _ h=>h) (Or.inl ⟨by rfl,?_⟩) hHeld ?_ ?_
            rotate_left
            ·
             rintro w' ⟨s0, s1, s2, s3⟩
             go_simp
             with_reducible rfl
            rotate_left
            ·
             simp only [Act.put,zz11,zz12,zz13,i64_w,i32_w]
             rfl
            refine take_ (i:=11) (N:=some 26) (v:=?_) (a':=?_) #[true,true,true,true,true,true,true,true,true,true,true,true,false,false] rfl rfl (take_ofW HT_.out HW_.out (by kernel_rfl)) (fun _ _ _ h=>h) (Or.inl ⟨by rfl,?_⟩) hHeld ?_ ?_
            rotate_left
            ·
             rintro w' ⟨s0, s1, s2, s3⟩
             go_simp
             with_reducible rfl
            rotate_left
            ·
             simp only [Act.put,zz11,zz12,zz13,i64_w,i32_w]
             rfl
            refine one_ (i:=12) (N:=some 27) #[true,true,true,true,true,true,true,true,true,true,true,true,true,false] rfl rfl (one_of HT_.out (by kernel_rfl)) (by decide) (fun K hK=>?_)
            refine goes_ Tryd.func69 (by kernel_rfl) rfl #[.agg #[.int .i64 ((rd_T48 l0 x4_1).f0),.int .i64 ((rd_T48 l0 x4_1).f1)],.agg #[.int .i64 ((rd_T48 x3_1 (ji7)).f0),.int .i64 ((rd_T48 x3_1 (ji7)).f1)]] (by rfl) rfl rfl (by (try simp only [List.map_toArray,List.map_cons,List.map_nil]);first|done|(simp only [hji7];rfl)|rfl|(simp only [List.length_drop,List.length_take];rfl)) ?_
            with_reducible refine (r19_before.calls ((rd_T48 l0 x4_1).f0) ((rd_T48 l0 x4_1).f1) ((rd_T48 x3_1 (ji7)).f0) ((rd_T48 x3_1 (ji7)).f1) true _ A10.out).mono ?_
            rintro e w13 ⟨rfl, hb⟩
            have HS2_ := (hb.cell (World.block_lt_of_cell? _ _ (hHeld.2.2.1))).trans (hHeld.2.2.1)
            have HS3_ := (hb.cell (World.block_lt_of_cell? _ _ (hHeld.2.2.2))).trans (hHeld.2.2.2)
            refine ⟨_, rfl, ?_⟩
            have n0_ := zz00 (zz19 (by (with_reducible repeat (first | apply zz05 | apply zz04 | apply zz06)); exact HO_3.out) hb)
            have n1_ := zz00 (zz21 (by repeat (first | (with_reducible first | exact HB.out | apply zz03 | apply zz01 | apply zz02) | exact HB.out)) hb)
            clear HO_3
            clear HB
            have HO_3 := n0_
            have HB := n1_
            clear n0_ n1_
            (try clear hb)
            (try clear hb2)
            (try clear hk)
            (try clear hi)
            refine hK.out _ _ ⟨((HB.out.cell (World.block_lt_of_cell? w _ hw258_0)).trans hw258_0), ((HB.out.cell (World.block_lt_of_cell? w _ hw258_1)).trans hw258_1), HS2_, HS3_⟩ (fun hHeld => ?_)
            clear hK K
            refine norm_ (a' := ?_) ?_ ?_
            rotate_left
            ·
             show Act.put _ (some 27) _ = _
             simp only [Act.put,zz11,zz12,zz13,i64_w,i32_w]
             rfl
            refine pure_ (i:=13) (N:=some 28) (v:=?_) (a':=?_) #[true,true,true,true,true,true,true,true,true,true,true,true,true,true] rfl rfl (any_of HT_.out (by kernel_rfl)) (fun _ _ _ h=>h) (Or.inl ⟨by rfl,?_⟩) ?_ ?_
            rotate_left
            ·
             intro w'
             go_simp
             with_reducible rfl
            rotate_left
            ·
             simp only [Act.put,zz11,zz12,zz13,i64_w,i32_w]
             rfl
            refine done_ (done_of HT_.out (by kernel_rfl)) ?_
            try go_wp2
            go_roundg k2
            case measure => have := HK1.out; have := HK2.out; omega
            case rel=>exact ⟨(ji7),(by first|rfl|(simp;done)|(simp only [← hji7] <;> (first|rfl|simp))|(simp [*];done)),H',⟨by have:=HK1.out;have:=HK2.out;omega⟩,⟨by (with_reducible repeat (first|apply zz05|apply zz04|apply zz06));exact HO_3.out⟩,⟨by repeat (first|(with_reducible first|exact HB.out|apply zz03|apply zz01|apply zz02)|exact HB.out)⟩⟩
           ·
            replace c11 := zz32.mpr c11
            subst c11
            have H1 : ((some (([] : List (S48)) : List (S48))).bind fun y261=>(if 0 ≤ x5_2 then (if x5_2 ≤ (x3_1.length : Int) then ((some (x3_1.drop (x5_2 : Int).toNat : List (S48))).bind fun y264=>(if y261.length + y264.length < 8796093022208 then ((some (y261 ++ y264 : List (S48))).bind fun y268=>((some (x3_1.take (x5_2 : Int).toNat : List (S48))).bind fun y271=>(if y271.length < 8796093022208 then ((some (y271 ++ [(⟨(rd_T48 l0 x4_1).f0,(rd_T48 l0 x4_1).f1⟩ : S48)] : List (S48))).bind fun y275=>(if y275.length + y268.length < 8796093022208 then (r19_Sort.l0 k2 l0 (y275 ++ y268) (wrap64 (x4_1 + 1))) else (none))) else (none)))) else (none))) else (none)) else (none))) = some r:=by rw [if_neg (show ¬ (false = true) by decide)] at H;exact H
            clear H
            have H := H1
            clear H1
            obtain ⟨y261, hy261⟩ : ∃ y_ : List (S48), y_ = (([] : List (S48))) := ⟨_, rfl⟩
            replace H : (if 0 ≤ x5_2 then (if x5_2 ≤ (x3_1.length : Int) then ((some (x3_1.drop (x5_2 : Int).toNat : List (S48))).bind fun y264=>(if y261.length + y264.length < 8796093022208 then ((some (y261 ++ y264 : List (S48))).bind fun y268=>((some (x3_1.take (x5_2 : Int).toNat : List (S48))).bind fun y271=>(if y271.length < 8796093022208 then ((some (y271 ++ [(⟨(rd_T48 l0 x4_1).f0,(rd_T48 l0 x4_1).f1⟩ : S48)] : List (S48))).bind fun y275=>(if y275.length + y268.length < 8796093022208 then (r19_Sort.l0 k2 l0 (y275 ++ y268) (wrap64 (x4_1 + 1))) else (none))) else (none)))) else (none))) else (none)) else (none)) = some r:=by first|(rw [hy261];with_reducible exact H)|(have H2_:=(Option.bind_some _ _).symm.trans H;rw [hy261];with_reducible exact H2_)|(have H2_:=(Option.bind_some _ _).symm.trans H;with_reducible exact H2_)|with_reducible exact H|(rw [hy261];exact H)|exact H
            have Ny261 := zz00 hy261
            clear hy261
            by_cases c14 : 0 ≤ x5_2
            ·
             rw [if_pos c14] at H
             have c14b0 := eq_true c14
             have c14b1 : decide (0 ≤ x5_2) = true := decide_eq_true c14
             clear c14
             by_cases c15 : x5_2 ≤ (x3_1.length : Int)
             ·
              rw [if_pos c15] at H
              have c15b0 := eq_true c15
              have c15b1 : decide (x5_2 ≤ (x3_1.length : Int)) = true := decide_eq_true c15
              clear c15
              obtain ⟨y264, hy264⟩ : ∃ y_ : List (S48), y_ = (x3_1.drop (x5_2 : Int).toNat) := ⟨_, rfl⟩
              replace H : (if y261.length + y264.length < 8796093022208 then ((some (y261 ++ y264 : List (S48))).bind fun y268=>((some (x3_1.take (x5_2 : Int).toNat : List (S48))).bind fun y271=>(if y271.length < 8796093022208 then ((some (y271 ++ [(⟨(rd_T48 l0 x4_1).f0,(rd_T48 l0 x4_1).f1⟩ : S48)] : List (S48))).bind fun y275=>(if y275.length + y268.length < 8796093022208 then (r19_Sort.l0 k2 l0 (y275 ++ y268) (wrap64 (x4_1 + 1))) else (none))) else (none)))) else (none)) = some r:=by first|(rw [hy264];with_reducible exact H)|(have H2_:=(Option.bind_some _ _).symm.trans H;rw [hy264];with_reducible exact H2_)|(have H2_:=(Option.bind_some _ _).symm.trans H;with_reducible exact H2_)|with_reducible exact H|(rw [hy264];exact H)|exact H
              have Ny264 := zz00 hy264
              clear hy264
              by_cases c16 : y261.length + y264.length < 8796093022208
              ·
               rw [if_pos c16] at H
               have LMc16 := zz00 c16
               clear c16
               obtain ⟨y268, hy268⟩ : ∃ y_ : List (S48), y_ = (y261 ++ y264) := ⟨_, rfl⟩
               replace H : ((some (x3_1.take (x5_2 : Int).toNat : List (S48))).bind fun y271=>(if y271.length < 8796093022208 then ((some (y271 ++ [(⟨(rd_T48 l0 x4_1).f0,(rd_T48 l0 x4_1).f1⟩ : S48)] : List (S48))).bind fun y275=>(if y275.length + y268.length < 8796093022208 then (r19_Sort.l0 k2 l0 (y275 ++ y268) (wrap64 (x4_1 + 1))) else (none))) else (none))) = some r:=by first|(rw [hy268];with_reducible exact H)|(have H2_:=(Option.bind_some _ _).symm.trans H;rw [hy268];with_reducible exact H2_)|(have H2_:=(Option.bind_some _ _).symm.trans H;with_reducible exact H2_)|with_reducible exact H|(rw [hy268];exact H)|exact H
               have Ny268 := zz00 hy268
               clear hy268
               have c17b0 := eq_true (zz31 (by first | (with_reducible assumption) | assumption) : x5_2 ≤ (x3_1.length : Int))
               obtain ⟨y271, hy271⟩ : ∃ y_ : List (S48), y_ = (x3_1.take (x5_2 : Int).toNat) := ⟨_, rfl⟩
               replace H : (if y271.length < 8796093022208 then ((some (y271 ++ [(⟨(rd_T48 l0 x4_1).f0,(rd_T48 l0 x4_1).f1⟩ : S48)] : List (S48))).bind fun y275=>(if y275.length + y268.length < 8796093022208 then (r19_Sort.l0 k2 l0 (y275 ++ y268) (wrap64 (x4_1 + 1))) else (none))) else (none)) = some r:=by first|(rw [hy271];with_reducible exact H)|(have H2_:=(Option.bind_some _ _).symm.trans H;rw [hy271];with_reducible exact H2_)|(have H2_:=(Option.bind_some _ _).symm.trans H;with_reducible exact H2_)|with_reducible exact H|(rw [hy271];exact H)|exact H
               have Ny271 := zz00 hy271
               clear hy271
               by_cases c18 : y271.length < 8796093022208
               ·
                rw [if_pos c18] at H
                have LMc18 := zz00 c18
                clear c18
                obtain ⟨y275, hy275⟩ : ∃ y_ : List (S48), y_ = (y271 ++ [(⟨(rd_T48 l0 x4_1).f0, (rd_T48 l0 x4_1).f1⟩ : S48)]) := ⟨_, rfl⟩
                replace H : (if y275.length + y268.length < 8796093022208 then (r19_Sort.l0 k2 l0 (y275 ++ y268) (wrap64 (x4_1 + 1))) else (none)) = some r:=by first|(rw [hy275];with_reducible exact H)|(have H2_:=(Option.bind_some _ _).symm.trans H;rw [hy275];with_reducible exact H2_)|(have H2_:=(Option.bind_some _ _).symm.trans H;with_reducible exact H2_)|with_reducible exact H|(rw [hy275];exact H)|exact H
                have Ny275 := zz00 hy275
                clear hy275
                by_cases c19 : y275.length + y268.length < 8796093022208
                ·
                 rw [if_pos c19] at H
                 have LMc19 := zz00 c19
                 clear c19
                 obtain ⟨y278, hy278⟩ : ∃ y_ : List (S48), y_ = (y275 ++ y268) := ⟨_, rfl⟩
                 replace H : (r19_Sort.l0 k2 l0 y278 (wrap64 (x4_1 + 1))) = some r:=by first|(rw [hy278];with_reducible exact H)|(have H2_:=(Option.bind_some _ _).symm.trans H;rw [hy278];with_reducible exact H2_)|(have H2_:=(Option.bind_some _ _).symm.trans H;with_reducible exact H2_)|with_reducible exact H|(rw [hy278];exact H)|exact H
                 have Ny278 := zz00 hy278
                 clear hy278
                 have H' := zz00 H
                 clear H
                 try go_wp2
                 have n0_ := zz00 (zz06 HO_3.out)
                 have n1_ := zz00 (zz02 HB.out)
                 clear HO_3
                 clear HB
                 have HO_3 := n0_
                 have HB := n1_
                 clear n0_ n1_
                 have p258 : 0 ≤ (x4_1 : Int) := zz31 (by first | (with_reducible assumption) | assumption)
                 have q258 : x4_1 < (l0.length : Int) := zz31 (by first | (with_reducible assumption) | assumption)
                 obtain ⟨ad258, e258, hx258_0, hx258_1⟩ := at_T48 HR0.out x4_1 p258 q258
                 have hw258_1 := hx258_1
                 have hw258_0 := hx258_0
                 cases e258
                 replace hx258_0 := (HB.out.cell (World.block_lt_of_cell? w _ hx258_0)).trans hx258_0
                 replace hx258_1 := (HB.out.cell (World.block_lt_of_cell? w _ hx258_1)).trans hx258_1
                 replace p258 := eq_true p258
                 replace q258 := eq_true q258
                 have p259 : 0 ≤ ((ji7) : Int) := zz31 (by first | (with_reducible assumption) | assumption)
                 have q259 : (ji7) < (x3_1.length : Int) := zz31 (by first | (with_reducible assumption) | assumption)
                 obtain ⟨ad259, e259, hx259_0, hx259_1⟩ := at_T48 (Kd.R_reads' HO_3.out).2.2 (ji7) p259 q259
                 cases e259
                 replace p259 := eq_true p259
                 replace q259 := eq_true q259
                 refine start_ (n:=14) (S:=fun w'=>w'.cell? (ad258.add ((x4_1).toNat * 2)) = some (.int .i64 ((rd_T48 l0 x4_1).f0)) ∧ w'.cell? ⟨(ad258.add ((x4_1).toNat * 2)).block,(ad258.add ((x4_1).toNat * 2)).off + 1,none⟩ = some (.int .i64 ((rd_T48 l0 x4_1).f1)) ∧ w'.cell? (ad259.add (((ji7)).toNat * 2)) = some (.int .i64 ((rd_T48 x3_1 (ji7)).f0)) ∧ w'.cell? ⟨(ad259.add (((ji7)).toNat * 2)).block,(ad259.add (((ji7)).toNat * 2)).off + 1,none⟩ = some (.int .i64 ((rd_T48 x3_1 (ji7)).f1))) (ds:=[]) #[false,false,false,false,false,false,false,false,false,false,false,false,false,false] (by kernel_rfl) rfl rfl ⟨((HB.out.cell (World.block_lt_of_cell? w _ hw258_0)).trans hw258_0),((HB.out.cell (World.block_lt_of_cell? w _ hw258_1)).trans hw258_1),hx259_0,hx259_1⟩ (fun hHeld=>?_);refine with_tabW r19_Sort.tab6 r19_Sort.bits6 (fun HT_ HW_=>?_)
                 generalize wr.drew = w20 at HO_3 HB hx258_0 hx258_1 hx259_0 hx259_1 hHeld ⊢
                 refine pure_ (i:=0) (N:=some 15) (v:=?_) (a':=?_) #[true,false,false,false,false,false,false,false,false,false,false,false,false,false] rfl rfl (any_of HT_.out (by kernel_rfl)) (fun _ _ _ h=>h) (Or.inl ⟨by rfl,?_⟩) ?_ ?_
                 rotate_left
                 ·
                  intro w'
                  go_simp
                  with_reducible rfl
                 rotate_left
                 ·
                  simp only [Act.put,zz11,zz12,zz13,i64_w,i32_w]
                  rfl
                 refine pure_ (i:=1) (N:=some 16) (v:=?_) (a':=?_) #[true,true,false,false,false,false,false,false,false,false,false,false,false,false] rfl rfl (any_of HT_.out (by kernel_rfl)) (fun _ _ _ h=>h) (Or.inl ⟨by rfl,?_⟩) ?_ ?_
                 rotate_left
                 ·
                  intro w'
                  go_simp
                  with_reducible rfl
                 rotate_left
                 ·
                  simp only [Act.put,zz11,zz12,zz13,i64_w,i32_w]
                  rfl
                 refine pure_ (i:=2) (N:=some 17) (v:=?_) (a':=?_) #[true,true,true,false,false,false,false,false,false,false,false,false,false,false] rfl rfl (any_of HT_.out (by kernel_rfl)) (fun _ _ _ h=>h) (Or.inl ⟨by rfl,?_⟩) ?_ ?_
                 rotate_left
                 ·
                  intro w'
                  go_simp
                  with_reducible rfl
                 rotate_left
                 ·
                  simp only [Act.put,zz11,zz12,zz13,i64_w,i32_w]
                  rfl
                 refine pure_ (i:=3) (N:=some 18) (v:=?_) (a':=?_) #[true,true,true,true,false,false,false,false,false,false,false,false,false,false] rfl rfl (any_of HT_.out (by kernel_rfl)) (fun _ _ _ h=>h) (Or.inl ⟨by rfl,?_⟩) ?_ ?_
                 rotate_left
                 ·
                  intro w'
                  go_simp
                  with_reducible rfl
                 rotate_left
                 ·
                  simp only [Act.put,zz11,zz12,zz13,i64_w,i32_w]
                  rfl
                 refine pure_ (i:=4) (N:=some 19) (v:=?_) (a':=?_) #[true,true,true,true,true,false,false,false,false,false,false,false,false,false] rfl rfl (any_of HT_.out (by kernel_rfl)) (fun _ _ _ h=>h) (Or.inl ⟨by rfl,?_⟩) ?_ ?_
                 rotate_left
                 ·
                  intro w'
                  go_simp
                  with_reducible rfl
                 rotate_left
                 ·
                  simp only [Act.put,zz11,zz12,zz13,i64_w,i32_w]
                  rfl
                 refine pure_ (i:=5) (N:=some 20) (v:=?_) (a':=?_) #[true,true,true,true,true,true,false,false,false,false,false,false,false,false] rfl rfl (any_of HT_.out (by kernel_rfl)) (fun _ _ _ h=>h) (Or.inl ⟨by rfl,?_⟩) ?_ ?_
                 rotate_left
                 ·
                  intro w'
                  go_simp
                  with_reducible rfl
                 rotate_left
                 ·
                  simp only [Act.put,zz11,zz12,zz13,i64_w,i32_w]
                  rfl
                 refine pure_ (i:=7) (N:=some 22) (v:=?_) (a':=?_) #[true,true,true,true,true,true,false,true,false,false,false,false,false,false] rfl rfl (any_of HT_.out (by kernel_rfl)) (fun _ _ _ h=>h) (Or.inl ⟨by rfl,?_⟩) ?_ ?_
                 rotate_left
                 ·
                  intro w'
                  go_simp
                  with_reducible rfl
                 rotate_left
                 ·
                  simp only [Act.put,zz11,zz12,zz13,i64_w,i32_w]
                  rfl
                 refine pure_ (i:=8) (N:=some 23) (v:=?_) (a':=?_) #[true,true,true,true,true,true,false,true,true,false,false,false,false,false] rfl rfl (any_of HT_.out (by kernel_rfl)) (fun _ _ _ h=>h) (Or.inl ⟨by rfl,?_⟩) ?_ ?_
                 rotate_left
                 ·
                  intro w'
                  go_simp
                  with_reducible rfl
                 rotate_left
                 ·
                  simp only [Act.put,zz11,zz12,zz13,i64_w,i32_w]
                  rfl
                 refine pure_ (i:=9) (N:=some 24) (v:=?_) (a':=?_) #[true,true,true,true,true,true,false,true,true,true,false,false,false,false] rfl rfl (any_of HT_.out (by kernel_rfl)) (fun _ _ _ h=>h) (Or.inl ⟨by rfl,?_⟩) ?_ ?_
                 rotate_left
                 ·
                  intro w'
                  go_simp
                  with_reducible rfl
                 rotate_left
                 ·
                  simp only [Act.put,zz11,zz12,zz13,i64_w,i32_w]
                  rfl
                 refine pure_ (i:=10) (N:=some 25) (v:=?_) (a':=?_) #[true,true,true,true,true,true,false,true,true,true,true,false,false,false] rfl rfl (any_of HT_.out (by kernel_rfl)) (fun _ _ _ h=>h) (Or.inl ⟨by rfl,?_⟩) ?_ ?_
                 rotate_left
                 ·
                  intro w'
                  go_simp
                  with_reducible rfl
                 rotate_left
                 ·
                  simp only [Act.put,zz11,zz12,zz13,i64_w,i32_w]
                  rfl
                 refine take_ (i:=6) (N:=some 21) (v:=?_) (a':=?_) #[true,true,true,true,true,true,true,true,true,true,true,false,false,false] rfl rfl (take_ofW HT_.out HW_.out (by kernel_rfl)) (fun _ _ _ h=>h) (Or.inl ⟨by rfl,?_⟩) hHeld ?_ ?_
                 rotate_left
                 ·
                  rintro w' ⟨s0, s1, s2, s3⟩
                  go_simp
                  with_reducible rfl
                 rotate_left
                 ·
                  simp only [Act.put,zz11,zz12,zz13,i64_w,i32_w]
                  rfl
                 refine take_ (i:=11) (N:=some 26) (v:=?_) (a':=?_) #[true,true,true,true,true,true,true,true,true,true,true,true,false,false] rfl rfl (take_ofW HT_.out HW_.out (by kernel_rfl)) (fun _ _ _ h=>h) (Or.inl ⟨by rfl,?_⟩) hHeld ?_ ?_
                 rotate_left
                 ·
                  rintro w' ⟨s0, s1, s2, s3⟩
                  go_simp
                  with_reducible rfl
                 rotate_left
                 ·
                  simp only [Act.put,zz11,zz12,zz13,i64_w,i32_w]
                  rfl
                 refine one_ (i:=12) (N:=some 27) #[true,true,true,true,true,true,true,true,true,true,true,true,true,false] rfl rfl (one_of HT_.out (by kernel_rfl)) (by decide) (fun K hK=>?_)
                 refine goes_ Tryd.func69 (by kernel_rfl) rfl #[.agg #[.int .i64 ((rd_T48 l0 x4_1).f0),.int .i64 ((rd_T48 l0 x4_1).f1)],.agg #[.int .i64 ((rd_T48 x3_1 (ji7)).f0),.int .i64 ((rd_T48 x3_1 (ji7)).f1)]] (by rfl) rfl rfl (by (try simp only [List.map_toArray,List.map_cons,List.map_nil]);first|done|(simp only [hji7];rfl)|rfl|(simp only [List.length_drop,List.length_take];rfl)) ?_
                 with_reducible refine (r19_before.calls ((rd_T48 l0 x4_1).f0) ((rd_T48 l0 x4_1).f1) ((rd_T48 x3_1 (ji7)).f0) ((rd_T48 x3_1 (ji7)).f1) false _ A10.out).mono ?_
                 rintro e w21 ⟨rfl, hb⟩
                 have HS2_ := (hb.cell (World.block_lt_of_cell? _ _ (hHeld.2.2.1))).trans (hHeld.2.2.1)
                 have HS3_ := (hb.cell (World.block_lt_of_cell? _ _ (hHeld.2.2.2))).trans (hHeld.2.2.2)
                 refine ⟨_, rfl, ?_⟩
                 have n0_ := zz00 (zz19 (by (with_reducible repeat (first | apply zz05 | apply zz04 | apply zz06)); exact HO_3.out) hb)
                 have n1_ := zz00 (zz21 (by repeat (first | (with_reducible first | exact HB.out | apply zz03 | apply zz01 | apply zz02) | exact HB.out)) hb)
                 clear HO_3
                 clear HB
                 have HO_3 := n0_
                 have HB := n1_
                 clear n0_ n1_
                 (try clear hb)
                 (try clear hb2)
                 (try clear hk)
                 (try clear hi)
                 refine hK.out _ _ ⟨((HB.out.cell (World.block_lt_of_cell? w _ hw258_0)).trans hw258_0),((HB.out.cell (World.block_lt_of_cell? w _ hw258_1)).trans hw258_1),HS2_,HS3_⟩ (fun hHeld=>?_)
                 clear hK K
                 refine norm_ (a' := ?_) ?_ ?_
                 rotate_left
                 ·
                  show Act.put _ (some 27) _ = _
                  simp only [Act.put,zz11,zz12,zz13,i64_w,i32_w]
                  rfl
                 refine pure_ (i:=13) (N:=some 28) (v:=?_) (a':=?_) #[true,true,true,true,true,true,true,true,true,true,true,true,true,true] rfl rfl (any_of HT_.out (by kernel_rfl)) (fun _ _ _ h=>h) (Or.inl ⟨by rfl,?_⟩) ?_ ?_
                 rotate_left
                 ·
                  intro w'
                  go_simp
                  with_reducible rfl
                 rotate_left
                 ·
                  simp only [Act.put,zz11,zz12,zz13,i64_w,i32_w]
                  rfl
                 refine done_ (done_of HT_.out (by kernel_rfl)) ?_
                 try go_wp2_with (first|((with_reducible refine zz24 (N:=31) rfl ?_);refine Kd.R_lit k48 _ 48 ?hg (N:=31) ?hd (xs:=([] : List (S48))) (inner:=[]) (ok:=fun _=>True) (okp:=fun _=>True) ?hr ?hp (fun _ hk=>hk) trivial (Below.refl _ _) (Nat.le_refl _) (by simp) ?_;(case hd=>rfl);(case hg=>rfl);(case hr=>first|(go_simp;done)|(go_simp;rfl));(case hp=>exact (Reps.none _ _));intro v262 w22 ho23 hb hg_ hnew_;clear hg_ hnew_;(first|rw [← Ny261.out] at ho23|(simp only [Int.reduceToNat] at ho23;rw [← Ny261.out] at ho23));have n0_:=zz00 (zz20 (by (with_reducible repeat (first|apply zz05|apply zz04|apply zz06));exact HO_3.out) (Kd.R_base ho23) hb);have n1_:=zz00 (Kd.R_lower (Kd.R_new' ho23 (Kd.R_lt (by (with_reducible repeat (first|apply zz05|apply zz04|apply zz06));exact HO_3.out))) (zz22 (by repeat (first|(with_reducible first|exact HB.out|apply zz03|apply zz01|apply zz02)|exact HB.out))));have n2_:=zz00 (zz21 (by repeat (first|(with_reducible first|exact HB.out|apply zz03|apply zz01|apply zz02)|exact HB.out)) hb);clear HO_3;clear HB;have HO_3:=n0_;have HO263:=n1_;have HB:=n2_;clear n0_ n1_ n2_;clear hb ho23;have q24 : (x5_2 : Int) ≤ ((x3_1.length : Int) : Int):=zz31 (by first|(with_reducible assumption)|assumption);obtain ⟨i024,hi024,_,hsz24,_⟩:=info_parts info48;have hroom24 : x3_1.length ≤ co3:=(Kd.R_reads' HO_3.out).2.1;have hC24 : Kd.C k48 _ (some ad259) x3_1.length x3_1:=(Kd.R_reads' HO_3.out).2.2;have q024 : (0 : Int) ≤ (x5_2 : Int):=zz31 (by first|(with_reducible assumption)|assumption);have hcut24:=cut_from (P:=Tryd.prog) 38 48 .i64 Tryd.underlying38 hi024 2 hsz24 (some ad259) x3_1.length co3 x5_2 q024 q24;have hr24:=Kd.C_drop (m:=(x5_2 : Int).toNat) (c:=co3) hC24 (by omega) hroom24;obtain ⟨A24,hA24⟩ : ∃ A1,A1 = (if co3 = (x5_2 : Int).toNat then (some ad259) else ((some ad259) : Option Addr).map (·.add ((x5_2 : Int).toNat * 2))):=⟨_,rfl⟩;obtain ⟨c24,hc24⟩ : ∃ c1,c1 = co3 - (x5_2 : Int).toNat:=⟨_,rfl⟩;have hy24 : y264.length = x3_1.length - (x5_2 : Int).toNat:=(by rw [Ny264.out,List.length_drop] <;> omega);rw [show (x3_1).drop (x5_2 : Int).toNat = y264 from Ny264.out.symm] at hr24;replace hr24 : Kd.C k48 _ A24 y264.length y264:=(by rw [hA24];exact hr24);rw [← hy24,← hA24,← hc24] at hcut24;have HR267:=zz00 hr24;have HC267:=zz00 (show y264.length ≤ c24 from by rw [hy24,hc24];exact Nat.sub_le_sub_right hroom24 _);clear hr24 hC24 hroom24 hi024 hsz24 hc24;have KY24:=zz00 hy24;have KA24:=zz00 hA24;clear hy24 hA24;have KL24:=zz00 (show (x5_2 : Int).toNat ≤ x3_1.length from by omega);replace q24:=eq_true q24)|((with_reducible refine gate_builtin (b:=.append) (xs:=#[.tmp 31,.tmp 34]) rfl ?_);at_builtin;refine Kd.R_append_rows k48 (w0:=w) w.heap.size rfl (.tmp 31) (.tmp 34) 38 48 (.agg #[(.int .i64 0),(.int .i64 0)]) 16 rfl Tryd.underlying38 info48 rfl (by decide) (by omega) v262 y261 y264 _ _ _ (fun k_=>some k_ ≠ (.slice (some ad259) x3_1.length co3 : Value).ownBlock) (fun _=>False) rfl rfl ?aO ?aR (fun _ _ h=>h) (fun _ h=>h.elim) ?aF ?aB ?aS ?aL ?_;(case aR=>repeat (first|exact (by repeat (first|(with_reducible exact HR267.out)|(with_reducible refine Kd.C_alloc ?_ _)|(with_reducible refine Kd.C_drewN ?_ _)|(with_reducible refine Kd.C_drew ?_)|exact HR267.out))|(with_reducible refine Kd.C_alloc ?_ _)|(with_reducible refine Kd.C_drewN ?_ _)|(with_reducible refine Kd.C_drew ?_)));(case aB=>exact (by repeat (first|(with_reducible first|exact HB.out|apply zz03|apply zz01|apply zz02)|exact HB.out)));(case aF=>exact (fun k_ hk=>Kd.fresh' (Kd.R_lt (by (with_reducible repeat (first|apply zz05|apply zz04|apply zz06));exact HO_3.out)) k_ hk));(case aO=>exact (by (with_reducible repeat (first|apply zz05|apply zz04|apply zz06));exact Kd.R_mono HO263.out (fun _ hk=>hk.2)));(case aS=>exact (zz22 (by repeat (first|(with_reducible first|exact HB.out|apply zz03|apply zz01|apply zz02)|exact HB.out))));(case aL=>have:=LMc16.out;omega);intro v269 w25 ho hb hg hat;rw [← Ny268.out] at ho;have n0_:=zz00 (Kd.R_after (ok:=(fun _=>True)) (by (with_reducible repeat (first|apply zz05|apply zz04|apply zz06));exact HO_3.out) hg hat);have n1_:=zz00 (hb);have n2_:=zz00 ((show Kd.C k48 w25 A24 y264.length y264 from by rw [Ny264.out,KA24.out];exact Kd.C_drop (m:=(x5_2 : Int).toNat) (c:=co3) ((Kd.R_reads' (Kd.R_after (ok:=(fun _=>True)) (by (with_reducible repeat (first|apply zz05|apply zz04|apply zz06));exact HO_3.out) hg hat)).2.2) KL24.out ((Kd.R_reads' (Kd.R_after (ok:=(fun _=>True)) (by (with_reducible repeat (first|apply zz05|apply zz04|apply zz06));exact HO_3.out) hg hat)).2.1)));have n3_:=zz00 (ho);clear HO_3;clear HB;clear HR267;clear HO263;have HO_3:=n0_;have HB:=n1_;have HR267:=n2_;have HO270:=n3_;clear n0_ n1_ n2_ n3_;clear ho hb hg hat))
                 have n0_ := zz00 (zz06 HO_3.out)
                 have n1_ := zz00 (zz06 HO270.out)
                 have n2_ := zz00 (Kd.C_drew HR267.out)
                 have n3_ := zz00 (zz02 HB.out)
                 clear HO_3
                 clear HO270
                 clear HR267
                 clear HB
                 have HO_3 := n0_
                 have HO270 := n1_
                 have HR267 := n2_
                 have HB := n3_
                 clear n0_ n1_ n2_ n3_
                 have q27 : (x5_2 : Int) ≤ ((x3_1.length : Int) : Int) := zz31 (by first | (with_reducible assumption) | assumption)
                 obtain ⟨i027, hi027, _, hsz27, _⟩ := info_parts info48
                 have hcut27:=cut_to (P:=Tryd.prog) 38 48 .i64 Tryd.underlying38 hi027 (some ad259) x3_1.length co3 x5_2 (zz31 (by first|(with_reducible assumption)|assumption)) q27 (Kd.R_reads' HO_3.out).2.1
                 have hr27 := Kd.R_take (m := (x5_2 : Int).toNat) HO_3.out (by omega)
                 have hy27 : y271.length = (x5_2 : Int).toNat := (by rw [Ny271.out, List.length_take]; omega)
                 rw [← Ny271.out] at hr27
                 rw [← hy27] at hr27 hcut27
                 clear hy27 hi027 hsz27 HO_3
                 have HO273 := zz00 hr27
                 clear hr27
                 replace q27 := eq_true q27
                 have p274 : 0 ≤ (x4_1 : Int) := zz31 (by first | (with_reducible assumption) | assumption)
                 have q274 : x4_1 < (l0.length : Int) := zz31 (by first | (with_reducible assumption) | assumption)
                 obtain ⟨ad274, e274, hx274_0, hx274_1⟩ := at_T48 HR0.out x4_1 p274 q274
                 have hw274_1 := hx274_1
                 have hw274_0 := hx274_0
                 obtain rfl : ad258 = ad274 := (by injection e274)
                 replace hx274_0 := (HB.out.cell (World.block_lt_of_cell? w _ hx274_0)).trans hx274_0
                 replace hx274_1 := (HB.out.cell (World.block_lt_of_cell? w _ hx274_1)).trans hx274_1
                 replace p274 := eq_true p274
                 replace q274 := eq_true q274
                 refine start_ (n:=12) (S:=fun w'=>w'.cell? (ad258.add ((x4_1).toNat * 2)) = some (.int .i64 ((rd_T48 l0 x4_1).f0)) ∧ w'.cell? ⟨(ad258.add ((x4_1).toNat * 2)).block,(ad258.add ((x4_1).toNat * 2)).off + 1,none⟩ = some (.int .i64 ((rd_T48 l0 x4_1).f1))) (ds:=[]) #[false,false,false,false,false,false,false,false,false,false,false,false] (by kernel_rfl) rfl rfl ⟨((HB.out.cell (World.block_lt_of_cell? w _ hw274_0)).trans hw274_0),((HB.out.cell (World.block_lt_of_cell? w _ hw274_1)).trans hw274_1)⟩ (fun hHeld=>?_);refine with_tabW r19_Sort.tab9 r19_Sort.bits9 (fun HT_ HW_=>?_)
                 generalize w25.drew = w26 at HO_3 HO270 HR267 HB HO273 hx274_0 hx274_1 hHeld ⊢
                 refine pure_ (i:=0) (N:=some 36) (v:=?_) (a':=?_) #[true,false,false,false,false,false,false,false,false,false,false,false] rfl rfl (any_of HT_.out (by kernel_rfl)) (fun _ _ _ h=>h) (Or.inl ⟨by rfl,?_⟩) ?_ ?_
                 rotate_left
                 ·
                  intro w'
                  go_simp
                  with_reducible rfl
                 rotate_left
                 ·
                  simp only [Act.put,zz11,zz12,zz13,i64_w,i32_w]
                  rfl
                 refine pure_ (i:=1) (N:=some 37) (v:=?_) (a':=?_) #[true,true,false,false,false,false,false,false,false,false,false,false] rfl rfl (any_of HT_.out (by kernel_rfl)) (fun _ _ _ h=>h) (Or.inl ⟨by rfl,?_⟩) ?_ ?_
                 rotate_left
                 ·
                  intro w'
                  go_simp
                  with_reducible rfl
                 rotate_left
                 ·
                  simp only [Act.put,zz11,zz12,zz13,i64_w,i32_w]
                  rfl
                 refine pure_ (i:=2) (N:=some 38) (v:=?_) (a':=?_) #[true,true,true,false,false,false,false,false,false,false,false,false] rfl rfl (any_of HT_.out (by kernel_rfl)) (fun _ _ _ h=>h) (Or.inl ⟨by rfl,?_⟩) ?_ ?_
                 rotate_left
                 ·
                  intro w'
                  go_simp
                  with_reducible rfl
                 rotate_left
                 ·
                  simp only [Act.put,zz11,zz12,zz13,i64_w,i32_w]
                  rfl
                 refine pure_ (i:=3) (N:=some 39) (v:=?_) (a':=?_) #[true,true,true,true,false,false,false,false,false,false,false,false] rfl rfl (any_of HT_.out (by kernel_rfl)) (fun _ _ _ h=>h) (Or.inl ⟨by rfl,?_⟩) ?_ ?_
                 rotate_left
                 ·
                  intro w'
                  go_simp
                  with_reducible rfl
                 rotate_left
                 ·
                  simp only [Act.put,zz11,zz12,zz13,i64_w,i32_w]
                  rfl
                 refine pure_ (i:=4) (N:=some 40) (v:=?_) (a':=?_) #[true,true,true,true,true,false,false,false,false,false,false,false] rfl rfl (any_of HT_.out (by kernel_rfl)) (fun _ _ _ h=>h) (Or.inl ⟨by rfl,?_⟩) ?_ ?_
                 rotate_left
                 ·
                  intro w'
                  go_simp
                  with_reducible rfl
                 rotate_left
                 ·
                  simp only [Act.put,zz11,zz12,zz13,i64_w,i32_w]
                  rfl
                 refine pure_ (i:=5) (N:=some 41) (v:=?_) (a':=?_) #[true,true,true,true,true,true,false,false,false,false,false,false] rfl rfl (any_of HT_.out (by kernel_rfl)) (fun _ _ _ h=>h) (Or.inl ⟨by rfl,?_⟩) ?_ ?_
                 rotate_left
                 ·
                  intro w'
                  go_simp
                  with_reducible rfl
                 rotate_left
                 ·
                  simp only [Act.put,zz11,zz12,zz13,i64_w,i32_w]
                  rfl
                 refine pure_ (i:=9) (N:=some 45) (v:=?_) (a':=?_) #[true,true,true,true,true,true,false,false,false,true,false,false] rfl rfl (any_of HT_.out (by kernel_rfl)) (fun _ _ _ h=>h) (Or.inl ⟨by rfl,?_⟩) ?_ ?_
                 rotate_left
                 ·
                  intro w'
                  go_simp
                  with_reducible rfl
                 rotate_left
                 ·
                  simp only [Act.put,zz11,zz12,zz13,i64_w,i32_w]
                  rfl
                 refine take_ (i:=6) (N:=some 42) (v:=?_) (a':=?_) #[true,true,true,true,true,true,true,false,false,true,false,false] rfl rfl (take_ofW HT_.out HW_.out (by kernel_rfl)) (fun _ _ _ h=>h) (Or.inl ⟨by rfl,?_⟩) hHeld ?_ ?_
                 rotate_left
                 ·
                  rintro w' ⟨s0, s1⟩
                  go_simp
                  with_reducible rfl
                 rotate_left
                 ·
                  simp only [Act.put,zz11,zz12,zz13,i64_w,i32_w]
                  rfl
                 refine one_ (i := 7) (N := some 43) #[true, true, true, true, true, true, true, true, false, true, false, false] rfl rfl (one_of HT_.out (by kernel_rfl)) (by decide) (fun K hK => ?_)
                 refine value_ (w1 := ?_) (v := ?_) (by rfl) rfl ?_ ?_
                 rotate_left 2
                 ·
                  go_simp
                  constructor
                  ·
                   rfl
                  ·
                   rfl
                 refine hK.out _ _ ⟨(World.cell?_alloc_lt _ _ _ (World.block_lt_of_cell? _ _ (((HB.out.cell (World.block_lt_of_cell? w _ hw274_0)).trans hw274_0)))).trans (((HB.out.cell (World.block_lt_of_cell? w _ hw274_0)).trans hw274_0)),(World.cell?_alloc_lt _ _ _ (World.block_lt_of_cell? _ _ (((HB.out.cell (World.block_lt_of_cell? w _ hw274_1)).trans hw274_1)))).trans (((HB.out.cell (World.block_lt_of_cell? w _ hw274_1)).trans hw274_1))⟩ (fun hHeld=>?_)
                 clear hK K
                 refine norm_ (a' := ?_) ?_ ?_
                 rotate_left
                 ·
                  show Act.put _ (some 43) _ = _
                  simp only [Act.put,zz11,zz12,zz13,i64_w,i32_w]
                  rfl
                 refine one_ (i := 8) (N := some 44) #[true, true, true, true, true, true, true, true, true, true, false, false] rfl rfl (one_of HT_.out (by kernel_rfl)) (by decide) (fun K hK => ?_)
                 refine Kd.R_append_step k48 (w0:=w) w.heap.size (by rfl) (.tmp 38) (.tmp 43) 38 48 (.agg #[(.int .i64 0),(.int .i64 0)]) 16 rfl Tryd.underlying38 info48 rfl (by decide) (by omega) (.slice (some ad259) y271.length co3) y271 (⟨(rd_T48 l0 x4_1).f0,(rd_T48 l0 x4_1).f1⟩ : S48) [.int .i64 ((rd_T48 l0 x4_1).f0),.int .i64 ((rd_T48 l0 x4_1).f1)] (fun k_=>some k_ ≠ (v269 : Value).ownBlock) (fun _=>False) rfl rfl ?aP (fun _ hk=>hk.elim) ?aF ?aO ?aB ?aS ?aL ?_
                 (case aP => exact k48_mkM _ _ _ (⟨(rd_T48 l0 x4_1).f0, (rd_T48 l0 x4_1).f1⟩ : S48))
                 (case aB => exact (by repeat (first | (with_reducible first | exact HB.out | apply zz03 | apply zz01 | apply zz02) | exact HB.out)))
                 (case aF => exact (fun k_ hk => Kd.fresh' (Kd.R_lt (by (with_reducible repeat (first | apply zz05 | apply zz04 | apply zz06)); exact HO270.out)) k_ hk))
                 (case aO => exact (by (with_reducible repeat (first | apply zz05 | apply zz04 | apply zz06)); exact Kd.R_mono HO273.out (fun _ hk => hk.2)))
                 (case aS => exact (zz22 (by repeat (first | (with_reducible first | exact HB.out | apply zz03 | apply zz01 | apply zz02) | exact HB.out))))
                 (case aL => have := LMc18.out; omega)
                 intro v276 w28 ho hb hg hat
                 rw [← Ny275.out] at ho
                 have n0_:=zz00 (Kd.R_after (ok:=(fun _=>True)) (by (with_reducible repeat (first|apply zz05|apply zz04|apply zz06));exact Kd.R_mono HO270.out (fun _ hk=>⟨trivial,by first|exact hk|(cases A1 <;> exact hk)|(cases A10 <;> exact hk)|(cases A24 <;> exact hk)⟩)) hg hat)
                 have n1_ := zz00 (hb)
                 have n2_ := zz00 (ho)
                 clear HO270
                 clear HB
                 clear HO273
                 have HO270 := n0_
                 have HB := n1_
                 have HO277 := n2_
                 clear n0_ n1_ n2_
                 clear ho hb hg hat
                 obtain ⟨Ao30, co30, eo30⟩ := Kd.R_slice HO270.out
                 (first | subst eo30 | (injection eo30 with f1_ f2_ f3_; have f4_ := f1_.symm; have f5_ := f3_.symm; clear f1_ f2_ f3_; subst f4_; subst f5_))
                 refine hK.out _ _ ⟨((HB.out.cell (World.block_lt_of_cell? w _ hw274_0)).trans hw274_0), ((HB.out.cell (World.block_lt_of_cell? w _ hw274_1)).trans hw274_1)⟩ (fun hHeld => ?_)
                 clear hK K
                 refine norm_ (a' := ?_) ?_ ?_
                 rotate_left
                 ·
                  show Act.put _ (some 44) _ = _
                  simp only [Act.put,zz11,zz12,zz13,i64_w,i32_w]
                  rfl
                 refine one_ (i := 10) (N := some 46) #[true, true, true, true, true, true, true, true, true, true, true, false] rfl rfl (one_of HT_.out (by kernel_rfl)) (by decide) (fun K hK => ?_)
                 refine Kd.R_append_rows_step k48 (w0:=w) w.heap.size (by rfl) (.tmp 44) (.tmp 45) 38 48 (.agg #[(.int .i64 0),(.int .i64 0)]) 16 rfl Tryd.underlying38 info48 rfl (by decide) (by omega) v276 y275 y268 _ _ _ (fun k_=>some k_ ≠ (.slice Ao30 y268.length co30 : Value).ownBlock) (fun _=>False) rfl rfl ?aO ?aR (fun _ _ h=>h) (fun _ h=>h.elim) ?aF ?aB ?aS ?aL ?_
                 (case aR=>repeat (first|exact (Kd.R_reads' HO270.out).2.2|(with_reducible refine Kd.C_alloc ?_ _)|(with_reducible refine Kd.C_drewN ?_ _)|(with_reducible refine Kd.C_drew ?_)))
                 (case aB => exact (by repeat (first | (with_reducible first | exact HB.out | apply zz03 | apply zz01 | apply zz02) | exact HB.out)))
                 (case aF => exact (fun k_ hk => Kd.fresh' (Kd.R_lt (by (with_reducible repeat (first | apply zz05 | apply zz04 | apply zz06)); exact HO270.out)) k_ hk))
                 (case aO => exact (by (with_reducible repeat (first | apply zz05 | apply zz04 | apply zz06)); exact HO277.out))
                 (case aS => exact (zz22 (by repeat (first | (with_reducible first | exact HB.out | apply zz03 | apply zz01 | apply zz02) | exact HB.out))))
                 (case aL => have := LMc19.out; omega)
                 intro v279 w29 ho hb hg hat
                 rw [← Ny278.out] at ho
                 have n0_ := zz00 (Kd.R_after (ok := (fun _ => True)) (by (with_reducible repeat (first | apply zz05 | apply zz04 | apply zz06)); exact HO270.out) hg hat)
                 have n1_ := zz00 (hb)
                 have n2_ := zz00 (ho)
                 clear HO270
                 clear HB
                 clear HO277
                 have HO270 := n0_
                 have HB := n1_
                 have HO280 := n2_
                 clear n0_ n1_ n2_
                 clear ho hb hg hat
                 refine hK.out _ _ ⟨((HB.out.cell (World.block_lt_of_cell? w _ hw274_0)).trans hw274_0), ((HB.out.cell (World.block_lt_of_cell? w _ hw274_1)).trans hw274_1)⟩ (fun hHeld => ?_)
                 clear hK K
                 refine norm_ (a' := ?_) ?_ ?_
                 rotate_left
                 ·
                  show Act.put _ (some 46) _ = _
                  simp only [Act.put,zz11,zz12,zz13,i64_w,i32_w]
                  rfl
                 refine pure_ (i:=11) (N:=some 3) (v:=?_) (a':=?_) #[true,true,true,true,true,true,true,true,true,true,true,true] rfl rfl (any_of HT_.out (by kernel_rfl)) (fun _ _ _ h=>h) (Or.inl ⟨by rfl,?_⟩) ?_ ?_
                 rotate_left
                 ·
                  intro w'
                  go_simp
                  with_reducible rfl
                 rotate_left
                 ·
                  simp only [Act.put,zz11,zz12,zz13,i64_w,i32_w]
                  rfl
                 refine done_ (done_of HT_.out (by kernel_rfl)) ?_
                 try go_wp2
                 go_roundg k2
                 case measure => have := HK1.out; have := HK2.out; omega
                 case rel=>exact ⟨(y278),(wrap64 (x4_1 + 1)),(by first|rfl|(simp;done)|(simp [*];done)),H',⟨by have:=HK1.out;have:=HK2.out;omega⟩,⟨by (with_reducible repeat (first|apply zz05|apply zz04|apply zz06));exact Kd.R_mono HO280.out (fun _ hk=>trivial)⟩,⟨by repeat (first|(with_reducible first|exact HB.out|apply zz03|apply zz01|apply zz02)|exact HB.out)⟩⟩
                ·
                 rw [if_neg c19] at H
                 exact absurd H (by simp)
               ·
                rw [if_neg c18] at H
                exact absurd H (by simp)
              ·
               rw [if_neg c16] at H
               exact absurd H (by simp)
             ·
              rw [if_neg c15] at H
              exact absurd H (by simp)
            ·
             rw [if_neg c14] at H
             exact absurd H (by simp)
          ·
           rw [if_neg c9] at H
           exact absurd H (by simp)
         ·
          rw [if_neg c8] at H
          exact absurd H (by simp)
        ·
         rw [if_neg c6] at H
         exact absurd H (by simp)
       ·
        rw [if_neg c5] at H
        exact absurd H (by simp)
      ·
       rw [if_neg c4] at H
       have c4b0 : decide (0 < x5_2) = false := decide_eq_false c4
       clear c4
       obtain ⟨y281, hy281⟩ : ∃ y_ : List (S48), y_ = (([] : List (S48))) := ⟨_, rfl⟩
       replace H : (if 0 ≤ x5_2 then (if x5_2 ≤ (x3_1.length : Int) then ((some (x3_1.drop (x5_2 : Int).toNat : List (S48))).bind fun y284=>(if y281.length + y284.length < 8796093022208 then ((some (y281 ++ y284 : List (S48))).bind fun y288=>((some (x3_1.take (x5_2 : Int).toNat : List (S48))).bind fun y291=>(if 0 ≤ x4_1 then (if x4_1 < (l0.length : Int) then (if y291.length < 8796093022208 then ((some (y291 ++ [(⟨(rd_T48 l0 x4_1).f0,(rd_T48 l0 x4_1).f1⟩ : S48)] : List (S48))).bind fun y295=>(if y295.length + y288.length < 8796093022208 then (r19_Sort.l0 k2 l0 (y295 ++ y288) (wrap64 (x4_1 + 1))) else (none))) else (none)) else (none)) else (none)))) else (none))) else (none)) else (none)) = some r:=by first|(rw [hy281];with_reducible exact H)|(have H2_:=(Option.bind_some _ _).symm.trans H;rw [hy281];with_reducible exact H2_)|(have H2_:=(Option.bind_some _ _).symm.trans H;with_reducible exact H2_)|with_reducible exact H|(rw [hy281];exact H)|exact H
       have Ny281 := zz00 hy281
       clear hy281
       by_cases c31 : 0 ≤ x5_2
       ·
        rw [if_pos c31] at H
        have c31b0 := eq_true c31
        have c31b1 : decide (0 ≤ x5_2) = true := decide_eq_true c31
        clear c31
        by_cases c32 : x5_2 ≤ (x3_1.length : Int)
        ·
         rw [if_pos c32] at H
         have c32b0 := eq_true c32
         have c32b1 : decide (x5_2 ≤ (x3_1.length : Int)) = true := decide_eq_true c32
         clear c32
         obtain ⟨y284, hy284⟩ : ∃ y_ : List (S48), y_ = (x3_1.drop (x5_2 : Int).toNat) := ⟨_, rfl⟩
         replace H : (if y281.length + y284.length < 8796093022208 then ((some (y281 ++ y284 : List (S48))).bind fun y288=>((some (x3_1.take (x5_2 : Int).toNat : List (S48))).bind fun y291=>(if 0 ≤ x4_1 then (if x4_1 < (l0.length : Int) then (if y291.length < 8796093022208 then ((some (y291 ++ [(⟨(rd_T48 l0 x4_1).f0,(rd_T48 l0 x4_1).f1⟩ : S48)] : List (S48))).bind fun y295=>(if y295.length + y288.length < 8796093022208 then (r19_Sort.l0 k2 l0 (y295 ++ y288) (wrap64 (x4_1 + 1))) else (none))) else (none)) else (none)) else (none)))) else (none)) = some r:=by first|(rw [hy284];with_reducible exact H)|(have H2_:=(Option.bind_some _ _).symm.trans H;rw [hy284];with_reducible exact H2_)|(have H2_:=(Option.bind_some _ _).symm.trans H;with_reducible exact H2_)|with_reducible exact H|(rw [hy284];exact H)|exact H
         have Ny284 := zz00 hy284
         clear hy284
         by_cases c33 : y281.length + y284.length < 8796093022208
         ·
          rw [if_pos c33] at H
          have LMc33 := zz00 c33
          clear c33
          obtain ⟨y288, hy288⟩ : ∃ y_ : List (S48), y_ = (y281 ++ y284) := ⟨_, rfl⟩
          replace H : ((some (x3_1.take (x5_2 : Int).toNat : List (S48))).bind fun y291=>(if 0 ≤ x4_1 then (if x4_1 < (l0.length : Int) then (if y291.length < 8796093022208 then ((some (y291 ++ [(⟨(rd_T48 l0 x4_1).f0,(rd_T48 l0 x4_1).f1⟩ : S48)] : List (S48))).bind fun y295=>(if y295.length + y288.length < 8796093022208 then (r19_Sort.l0 k2 l0 (y295 ++ y288) (wrap64 (x4_1 + 1))) else (none))) else (none)) else (none)) else (none))) = some r:=by first|(rw [hy288];with_reducible exact H)|(have H2_:=(Option.bind_some _ _).symm.trans H;rw [hy288];with_reducible exact H2_)|(have H2_:=(Option.bind_some _ _).symm.trans H;with_reducible exact H2_)|with_reducible exact H|(rw [hy288];exact H)|exact H
          have Ny288 := zz00 hy288
          clear hy288
          have c34b0 := eq_true (zz31 (by first | (with_reducible assumption) | assumption) : x5_2 ≤ (x3_1.length : Int))
          obtain ⟨y291, hy291⟩ : ∃ y_ : List (S48), y_ = (x3_1.take (x5_2 : Int).toNat) := ⟨_, rfl⟩
          replace H : (if 0 ≤ x4_1 then (if x4_1 < (l0.length : Int) then (if y291.length < 8796093022208 then ((some (y291 ++ [(⟨(rd_T48 l0 x4_1).f0,(rd_T48 l0 x4_1).f1⟩ : S48)] : List (S48))).bind fun y295=>(if y295.length + y288.length < 8796093022208 then (r19_Sort.l0 k2 l0 (y295 ++ y288) (wrap64 (x4_1 + 1))) else (none))) else (none)) else (none)) else (none)) = some r:=by first|(rw [hy291];with_reducible exact H)|(have H2_:=(Option.bind_some _ _).symm.trans H;rw [hy291];with_reducible exact H2_)|(have H2_:=(Option.bind_some _ _).symm.trans H;with_reducible exact H2_)|with_reducible exact H|(rw [hy291];exact H)|exact H
          have Ny291 := zz00 hy291
          clear hy291
          by_cases c35 : 0 ≤ x4_1
          ·
           rw [if_pos c35] at H
           have c35b0 : decide (0 ≤ x4_1) = true := decide_eq_true c35
           clear c35
           by_cases c36 : x4_1 < (l0.length : Int)
           ·
            rw [if_pos c36] at H
            have c36b0 : decide (x4_1 < (l0.length : Int)) = true := decide_eq_true c36
            clear c36
            by_cases c37 : y291.length < 8796093022208
            ·
             rw [if_pos c37] at H
             have LMc37 := zz00 c37
             clear c37
             obtain ⟨y295, hy295⟩ : ∃ y_ : List (S48), y_ = (y291 ++ [(⟨(rd_T48 l0 x4_1).f0, (rd_T48 l0 x4_1).f1⟩ : S48)]) := ⟨_, rfl⟩
             replace H : (if y295.length + y288.length < 8796093022208 then (r19_Sort.l0 k2 l0 (y295 ++ y288) (wrap64 (x4_1 + 1))) else (none)) = some r:=by first|(rw [hy295];with_reducible exact H)|(have H2_:=(Option.bind_some _ _).symm.trans H;rw [hy295];with_reducible exact H2_)|(have H2_:=(Option.bind_some _ _).symm.trans H;with_reducible exact H2_)|with_reducible exact H|(rw [hy295];exact H)|exact H
             have Ny295 := zz00 hy295
             clear hy295
             by_cases c38 : y295.length + y288.length < 8796093022208
             ·
              rw [if_pos c38] at H
              have LMc38 := zz00 c38
              clear c38
              obtain ⟨y298, hy298⟩ : ∃ y_ : List (S48), y_ = (y295 ++ y288) := ⟨_, rfl⟩
              replace H : (r19_Sort.l0 k2 l0 y298 (wrap64 (x4_1 + 1))) = some r:=by first|(rw [hy298];with_reducible exact H)|(have H2_:=(Option.bind_some _ _).symm.trans H;rw [hy298];with_reducible exact H2_)|(have H2_:=(Option.bind_some _ _).symm.trans H;with_reducible exact H2_)|with_reducible exact H|(rw [hy298];exact H)|exact H
              have Ny298 := zz00 hy298
              clear hy298
              have H' := zz00 H
              clear H
              try go_wp2
              have n0_ := zz00 (zz06 HO_3.out)
              have n1_ := zz00 (zz02 HB.out)
              clear HO_3
              clear HB
              have HO_3 := n0_
              have HB := n1_
              clear n0_ n1_
              refine start_ (n:=14) (S:=fun w'=>True) (ds:=[]) #[false,false,false,false,false,false,false,false,false,false,false,false,false,false] (by kernel_rfl) rfl rfl trivial (fun hHeld=>?_);refine with_tabW r19_Sort.tab6 r19_Sort.bits6 (fun HT_ HW_=>?_)
              generalize wr.drew = w39 at HO_3 HB hHeld ⊢
              refine pure_ (i:=0) (N:=some 15) (v:=?_) (a':=?_) #[true,false,false,false,false,false,false,false,false,false,false,false,false,false] rfl rfl (any_of HT_.out (by kernel_rfl)) (fun _ _ _ h=>h) (Or.inl ⟨by rfl,?_⟩) ?_ ?_
              rotate_left
              ·
               intro w'
               go_simp
               with_reducible rfl
              rotate_left
              ·
               simp only [Act.put,zz11,zz12,zz13,i64_w,i32_w]
               rfl
              refine pure_ (i:=1) (N:=some 16) (v:=?_) (a':=?_) #[true,true,false,false,false,false,false,false,false,false,false,false,false,false] rfl rfl (any_of HT_.out (by kernel_rfl)) (fun _ _ _ h=>h) (Or.inl ⟨by rfl,?_⟩) ?_ ?_
              rotate_left
              ·
               intro w'
               go_simp
               with_reducible rfl
              rotate_left
              ·
               simp only [Act.put,zz11,zz12,zz13,i64_w,i32_w]
               rfl
              refine pure_ (i:=2) (N:=some 17) (v:=?_) (a':=?_) #[true,true,true,false,false,false,false,false,false,false,false,false,false,false] rfl rfl (any_of HT_.out (by kernel_rfl)) (fun _ _ _ h=>h) (Or.inl ⟨by rfl,?_⟩) ?_ ?_
              rotate_left
              ·
               intro w'
               go_simp
               with_reducible rfl
              rotate_left
              ·
               simp only [Act.put,zz11,zz12,zz13,i64_w,i32_w]
               rfl
              refine pure_ (i:=3) (N:=some 18) (v:=undef) (a':=?_) #[true,true,true,true,false,false,false,false,false,false,false,false,false,false] rfl rfl (any_of HT_.out (by kernel_rfl)) (fun _ _ _ h=>h) (Or.inr ⟨by rfl,rfl⟩) ?_ ?_
              rotate_left
              ·
               simp only [Act.put,zz11,zz12,zz13,i64_w,i32_w]
               rfl
              refine pure_ (i:=4) (N:=some 19) (v:=undef) (a':=?_) #[true,true,true,true,true,false,false,false,false,false,false,false,false,false] rfl rfl (any_of HT_.out (by kernel_rfl)) (fun _ _ _ h=>h) (Or.inr ⟨by rfl,rfl⟩) ?_ ?_
              rotate_left
              ·
               simp only [Act.put,zz11,zz12,zz13,i64_w,i32_w]
               rfl
              refine pure_ (i:=5) (N:=some 20) (v:=undef) (a':=?_) #[true,true,true,true,true,true,false,false,false,false,false,false,false,false] rfl rfl (any_of HT_.out (by kernel_rfl)) (fun _ _ _ h=>h) (Or.inr ⟨by rfl,rfl⟩) ?_ ?_
              rotate_left
              ·
               simp only [Act.put,zz11,zz12,zz13,i64_w,i32_w]
               rfl
              refine pure_ (i:=6) (N:=some 21) (v:=undef) (a':=?_) #[true,true,true,true,true,true,true,false,false,false,false,false,false,false] rfl rfl (any_of HT_.out (by kernel_rfl)) (fun _ _ _ h=>h) (Or.inr ⟨by rfl,rfl⟩) ?_ ?_
              rotate_left
              ·
               simp only [Act.put,zz11,zz12,zz13,i64_w,i32_w]
               rfl
              refine pure_ (i:=7) (N:=some 22) (v:=undef) (a':=?_) #[true,true,true,true,true,true,true,true,false,false,false,false,false,false] rfl rfl (any_of HT_.out (by kernel_rfl)) (fun _ _ _ h=>h) (Or.inr ⟨by rfl,rfl⟩) ?_ ?_
              rotate_left
              ·
               simp only [Act.put,zz11,zz12,zz13,i64_w,i32_w]
               rfl
              refine pure_ (i:=8) (N:=some 23) (v:=undef) (a':=?_) #[true,true,true,true,true,true,true,true,true,false,false,false,false,false] rfl rfl (any_of HT_.out (by kernel_rfl)) (fun _ _ _ h=>h) (Or.inr ⟨by rfl,rfl⟩) ?_ ?_
              rotate_left
              ·
               simp only [Act.put,zz11,zz12,zz13,i64_w,i32_w]
               rfl
              refine pure_ (i:=9) (N:=some 24) (v:=undef) (a':=?_) #[true,true,true,true,true,true,true,true,true,true,false,false,false,false] rfl rfl (any_of HT_.out (by kernel_rfl)) (fun _ _ _ h=>h) (Or.inr ⟨by rfl,rfl⟩) ?_ ?_
              rotate_left
              ·
               simp only [Act.put,zz11,zz12,zz13,i64_w,i32_w]
               rfl
              refine pure_ (i:=10) (N:=some 25) (v:=undef) (a':=?_) #[true,true,true,true,true,true,true,true,true,true,true,false,false,false] rfl rfl (any_of HT_.out (by kernel_rfl)) (fun _ _ _ h=>h) (Or.inr ⟨by rfl,rfl⟩) ?_ ?_
              rotate_left
              ·
               simp only [Act.put,zz11,zz12,zz13,i64_w,i32_w]
               rfl
              refine pure_ (i:=11) (N:=some 26) (v:=undef) (a':=?_) #[true,true,true,true,true,true,true,true,true,true,true,true,false,false] rfl rfl (any_of HT_.out (by kernel_rfl)) (fun _ _ _ h=>h) (Or.inr ⟨by rfl,rfl⟩) ?_ ?_
              rotate_left
              ·
               simp only [Act.put,zz11,zz12,zz13,i64_w,i32_w]
               rfl
              refine pure_ (i:=12) (N:=some 27) (v:=undef) (a':=?_) #[true,true,true,true,true,true,true,true,true,true,true,true,true,false] rfl rfl (any_of HT_.out (by kernel_rfl)) (fun _ _ _ h=>h) (Or.inr ⟨by rfl,rfl⟩) ?_ ?_
              rotate_left
              ·
               simp only [Act.put,zz11,zz12,zz13,i64_w,i32_w]
               rfl
              refine pure_ (i:=13) (N:=some 28) (v:=?_) (a':=?_) #[true,true,true,true,true,true,true,true,true,true,true,true,true,true] rfl rfl (any_of HT_.out (by kernel_rfl)) (fun _ _ _ h=>h) (Or.inl ⟨by rfl,?_⟩) ?_ ?_
              rotate_left
              ·
               intro w'
               go_simp
               with_reducible rfl
              rotate_left
              ·
               simp only [Act.put,zz11,zz12,zz13,i64_w,i32_w]
               rfl
              refine done_ (done_of HT_.out (by kernel_rfl)) ?_
              try go_wp2_with (first|((with_reducible refine zz24 (N:=31) rfl ?_);refine Kd.R_lit k48 _ 48 ?hg (N:=31) ?hd (xs:=([] : List (S48))) (inner:=[]) (ok:=fun _=>True) (okp:=fun _=>True) ?hr ?hp (fun _ hk=>hk) trivial (Below.refl _ _) (Nat.le_refl _) (by simp) ?_;(case hd=>rfl);(case hg=>rfl);(case hr=>first|(go_simp;done)|(go_simp;rfl));(case hp=>exact (Reps.none _ _));intro v282 w40 ho41 hb hg_ hnew_;clear hg_ hnew_;(first|rw [← Ny281.out] at ho41|(simp only [Int.reduceToNat] at ho41;rw [← Ny281.out] at ho41));have n0_:=zz00 (zz20 (by (with_reducible repeat (first|apply zz05|apply zz04|apply zz06));exact HO_3.out) (Kd.R_base ho41) hb);have n1_:=zz00 (Kd.R_lower (Kd.R_new' ho41 (Kd.R_lt (by (with_reducible repeat (first|apply zz05|apply zz04|apply zz06));exact HO_3.out))) (zz22 (by repeat (first|(with_reducible first|exact HB.out|apply zz03|apply zz01|apply zz02)|exact HB.out))));have n2_:=zz00 (zz21 (by repeat (first|(with_reducible first|exact HB.out|apply zz03|apply zz01|apply zz02)|exact HB.out)) hb);clear HO_3;clear HB;have HO_3:=n0_;have HO283:=n1_;have HB:=n2_;clear n0_ n1_ n2_;clear hb ho41;have q42 : (x5_2 : Int) ≤ ((x3_1.length : Int) : Int):=zz31 (by first|(with_reducible assumption)|assumption);obtain ⟨i042,hi042,_,hsz42,_⟩:=info_parts info48;have hroom42 : x3_1.length ≤ co3:=(Kd.R_reads' HO_3.out).2.1;have hC42 : Kd.C k48 _ Ao3 x3_1.length x3_1:=(Kd.R_reads' HO_3.out).2.2;have q042 : (0 : Int) ≤ (x5_2 : Int):=zz31 (by first|(with_reducible assumption)|assumption);have hcut42:=cut_from (P:=Tryd.prog) 38 48 .i64 Tryd.underlying38 hi042 2 hsz42 Ao3 x3_1.length co3 x5_2 q042 q42;have hr42:=Kd.C_drop (m:=(x5_2 : Int).toNat) (c:=co3) hC42 (by omega) hroom42;obtain ⟨A42,hA42⟩ : ∃ A1,A1 = (if co3 = (x5_2 : Int).toNat then Ao3 else (Ao3 : Option Addr).map (·.add ((x5_2 : Int).toNat * 2))):=⟨_,rfl⟩;obtain ⟨c42,hc42⟩ : ∃ c1,c1 = co3 - (x5_2 : Int).toNat:=⟨_,rfl⟩;have hy42 : y284.length = x3_1.length - (x5_2 : Int).toNat:=(by rw [Ny284.out,List.length_drop] <;> omega);rw [show (x3_1).drop (x5_2 : Int).toNat = y284 from Ny284.out.symm] at hr42;replace hr42 : Kd.C k48 _ A42 y284.length y284:=(by rw [hA42];exact hr42);rw [← hy42,← hA42,← hc42] at hcut42;have HR287:=zz00 hr42;have HC287:=zz00 (show y284.length ≤ c42 from by rw [hy42,hc42];exact Nat.sub_le_sub_right hroom42 _);clear hr42 hC42 hroom42 hi042 hsz42 hc42;have KY42:=zz00 hy42;have KA42:=zz00 hA42;clear hy42 hA42;have KL42:=zz00 (show (x5_2 : Int).toNat ≤ x3_1.length from by omega);replace q42:=eq_true q42)|((with_reducible refine gate_builtin (b:=.append) (xs:=#[.tmp 31,.tmp 34]) rfl ?_);at_builtin;refine Kd.R_append_rows k48 (w0:=w) w.heap.size rfl (.tmp 31) (.tmp 34) 38 48 (.agg #[(.int .i64 0),(.int .i64 0)]) 16 rfl Tryd.underlying38 info48 rfl (by decide) (by omega) v282 y281 y284 _ _ _ (fun k_=>some k_ ≠ (.slice Ao3 x3_1.length co3 : Value).ownBlock) (fun _=>False) rfl rfl ?aO ?aR (fun _ _ h=>h) (fun _ h=>h.elim) ?aF ?aB ?aS ?aL ?_;(case aR=>repeat (first|exact (by repeat (first|(with_reducible exact HR287.out)|(with_reducible refine Kd.C_alloc ?_ _)|(with_reducible refine Kd.C_drewN ?_ _)|(with_reducible refine Kd.C_drew ?_)|exact HR287.out))|(with_reducible refine Kd.C_alloc ?_ _)|(with_reducible refine Kd.C_drewN ?_ _)|(with_reducible refine Kd.C_drew ?_)));(case aB=>exact (by repeat (first|(with_reducible first|exact HB.out|apply zz03|apply zz01|apply zz02)|exact HB.out)));(case aF=>exact (fun k_ hk=>Kd.fresh' (Kd.R_lt (by (with_reducible repeat (first|apply zz05|apply zz04|apply zz06));exact HO_3.out)) k_ hk));(case aO=>exact (by (with_reducible repeat (first|apply zz05|apply zz04|apply zz06));exact Kd.R_mono HO283.out (fun _ hk=>hk.2)));(case aS=>exact (zz22 (by repeat (first|(with_reducible first|exact HB.out|apply zz03|apply zz01|apply zz02)|exact HB.out))));(case aL=>have:=LMc33.out;omega);intro v289 w43 ho hb hg hat;rw [← Ny288.out] at ho;have n0_:=zz00 (Kd.R_after (ok:=(fun _=>True)) (by (with_reducible repeat (first|apply zz05|apply zz04|apply zz06));exact HO_3.out) hg hat);have n1_:=zz00 (hb);have n2_:=zz00 ((show Kd.C k48 w43 A42 y284.length y284 from by rw [Ny284.out,KA42.out];exact Kd.C_drop (m:=(x5_2 : Int).toNat) (c:=co3) ((Kd.R_reads' (Kd.R_after (ok:=(fun _=>True)) (by (with_reducible repeat (first|apply zz05|apply zz04|apply zz06));exact HO_3.out) hg hat)).2.2) KL42.out ((Kd.R_reads' (Kd.R_after (ok:=(fun _=>True)) (by (with_reducible repeat (first|apply zz05|apply zz04|apply zz06));exact HO_3.out) hg hat)).2.1)));have n3_:=zz00 (ho);clear HO_3;clear HB;clear HR287;clear HO283;have HO_3:=n0_;have HB:=n1_;have HR287:=n2_;have HO290:=n3_;clear n0_ n1_ n2_ n3_;clear ho hb hg hat))
              have n0_ := zz00 (zz06 HO_3.out)
              have n1_ := zz00 (zz06 HO290.out)
              have n2_ := zz00 (Kd.C_drew HR287.out)
              have n3_ := zz00 (zz02 HB.out)
              clear HO_3
              clear HO290
              clear HR287
              clear HB
              have HO_3 := n0_
              have HO290 := n1_
              have HR287 := n2_
              have HB := n3_
              clear n0_ n1_ n2_ n3_
              have q45 : (x5_2 : Int) ≤ ((x3_1.length : Int) : Int) := zz31 (by first | (with_reducible assumption) | assumption)
              obtain ⟨i045, hi045, _, hsz45, _⟩ := info_parts info48
              have hcut45:=cut_to (P:=Tryd.prog) 38 48 .i64 Tryd.underlying38 hi045 Ao3 x3_1.length co3 x5_2 (zz31 (by first|(with_reducible assumption)|assumption)) q45 (Kd.R_reads' HO_3.out).2.1
              have hr45 := Kd.R_take (m := (x5_2 : Int).toNat) HO_3.out (by omega)
              have hy45 : y291.length = (x5_2 : Int).toNat := (by rw [Ny291.out, List.length_take]; omega)
              rw [← Ny291.out] at hr45
              rw [← hy45] at hr45 hcut45
              clear hy45 hi045 hsz45 HO_3
              have HO293 := zz00 hr45
              clear hr45
              replace q45 := eq_true q45
              have p294 : 0 ≤ (x4_1 : Int) := zz31 (by first | (with_reducible assumption) | assumption)
              have q294 : x4_1 < (l0.length : Int) := zz31 (by first | (with_reducible assumption) | assumption)
              obtain ⟨ad294, e294, hx294_0, hx294_1⟩ := at_T48 HR0.out x4_1 p294 q294
              have hw294_1 := hx294_1
              have hw294_0 := hx294_0
              cases e294
              replace hx294_0 := (HB.out.cell (World.block_lt_of_cell? w _ hx294_0)).trans hx294_0
              replace hx294_1 := (HB.out.cell (World.block_lt_of_cell? w _ hx294_1)).trans hx294_1
              replace p294 := eq_true p294
              replace q294 := eq_true q294
              refine start_ (n:=12) (S:=fun w'=>w'.cell? (ad294.add ((x4_1).toNat * 2)) = some (.int .i64 ((rd_T48 l0 x4_1).f0)) ∧ w'.cell? ⟨(ad294.add ((x4_1).toNat * 2)).block,(ad294.add ((x4_1).toNat * 2)).off + 1,none⟩ = some (.int .i64 ((rd_T48 l0 x4_1).f1))) (ds:=[]) #[false,false,false,false,false,false,false,false,false,false,false,false] (by kernel_rfl) rfl rfl ⟨((HB.out.cell (World.block_lt_of_cell? w _ hw294_0)).trans hw294_0),((HB.out.cell (World.block_lt_of_cell? w _ hw294_1)).trans hw294_1)⟩ (fun hHeld=>?_);refine with_tabW r19_Sort.tab9 r19_Sort.bits9 (fun HT_ HW_=>?_)
              generalize w43.drew = w44 at HO_3 HO290 HR287 HB HO293 hx294_0 hx294_1 hHeld ⊢
              refine pure_ (i:=0) (N:=some 36) (v:=?_) (a':=?_) #[true,false,false,false,false,false,false,false,false,false,false,false] rfl rfl (any_of HT_.out (by kernel_rfl)) (fun _ _ _ h=>h) (Or.inl ⟨by rfl,?_⟩) ?_ ?_
              rotate_left
              ·
               intro w'
               go_simp
               with_reducible rfl
              rotate_left
              ·
               simp only [Act.put,zz11,zz12,zz13,i64_w,i32_w]
               rfl
              refine pure_ (i:=1) (N:=some 37) (v:=?_) (a':=?_) #[true,true,false,false,false,false,false,false,false,false,false,false] rfl rfl (any_of HT_.out (by kernel_rfl)) (fun _ _ _ h=>h) (Or.inl ⟨by rfl,?_⟩) ?_ ?_
              rotate_left
              ·
               intro w'
               go_simp
               with_reducible rfl
              rotate_left
              ·
               simp only [Act.put,zz11,zz12,zz13,i64_w,i32_w]
               rfl
              refine pure_ (i:=2) (N:=some 38) (v:=?_) (a':=?_) #[true,true,true,false,false,false,false,false,false,false,false,false] rfl rfl (any_of HT_.out (by kernel_rfl)) (fun _ _ _ h=>h) (Or.inl ⟨by rfl,?_⟩) ?_ ?_
              rotate_left
              ·
               intro w'
               go_simp
               with_reducible rfl
              rotate_left
              ·
               simp only [Act.put,zz11,zz12,zz13,i64_w,i32_w]
               rfl
              refine pure_ (i:=3) (N:=some 39) (v:=?_) (a':=?_) #[true,true,true,true,false,false,false,false,false,false,false,false] rfl rfl (any_of HT_.out (by kernel_rfl)) (fun _ _ _ h=>h) (Or.inl ⟨by rfl,?_⟩) ?_ ?_
              rotate_left
              ·
               intro w'
               go_simp
               with_reducible rfl
              rotate_left
              ·
               simp only [Act.put,zz11,zz12,zz13,i64_w,i32_w]
               rfl
              refine pure_ (i:=4) (N:=some 40) (v:=?_) (a':=?_) #[true,true,true,true,true,false,false,false,false,false,false,false] rfl rfl (any_of HT_.out (by kernel_rfl)) (fun _ _ _ h=>h) (Or.inl ⟨by rfl,?_⟩) ?_ ?_
              rotate_left
              ·
               intro w'
               go_simp
               with_reducible rfl
              rotate_left
              ·
               simp only [Act.put,zz11,zz12,zz13,i64_w,i32_w]
               rfl
              refine pure_ (i:=5) (N:=some 41) (v:=?_) (a':=?_) #[true,true,true,true,true,true,false,false,false,false,false,false] rfl rfl (any_of HT_.out (by kernel_rfl)) (fun _ _ _ h=>h) (Or.inl ⟨by rfl,?_⟩) ?_ ?_
              rotate_left
              ·
               intro w'
               go_simp
               with_reducible rfl
              rotate_left
              ·
               simp only [Act.put,zz11,zz12,zz13,i64_w,i32_w]
               rfl
              refine pure_ (i:=9) (N:=some 45) (v:=?_) (a':=?_) #[true,true,true,true,true,true,false,false,false,true,false,false] rfl rfl (any_of HT_.out (by kernel_rfl)) (fun _ _ _ h=>h) (Or.inl ⟨by rfl,?_⟩) ?_ ?_
              rotate_left
              ·
               intro w'
               go_simp
               with_reducible rfl
              rotate_left
              ·
               simp only [Act.put,zz11,zz12,zz13,i64_w,i32_w]
               rfl
              refine take_ (i:=6) (N:=some 42) (v:=?_) (a':=?_) #[true,true,true,true,true,true,true,false,false,true,false,false] rfl rfl (take_ofW HT_.out HW_.out (by kernel_rfl)) (fun _ _ _ h=>h) (Or.inl ⟨by rfl,?_⟩) hHeld ?_ ?_
              rotate_left
              ·
               rintro w' ⟨s0, s1⟩
               go_simp
               with_reducible rfl
              rotate_left
              ·
               simp only [Act.put,zz11,zz12,zz13,i64_w,i32_w]
               rfl
              refine one_ (i := 7) (N := some 43) #[true, true, true, true, true, true, true, true, false, true, false, false] rfl rfl (one_of HT_.out (by kernel_rfl)) (by decide) (fun K hK => ?_)
              refine value_ (w1 := ?_) (v := ?_) (by rfl) rfl ?_ ?_
              rotate_left 2
              ·
               go_simp
               constructor
               ·
                rfl
               ·
                rfl
              refine hK.out _ _ ⟨(World.cell?_alloc_lt _ _ _ (World.block_lt_of_cell? _ _ (((HB.out.cell (World.block_lt_of_cell? w _ hw294_0)).trans hw294_0)))).trans (((HB.out.cell (World.block_lt_of_cell? w _ hw294_0)).trans hw294_0)),(World.cell?_alloc_lt _ _ _ (World.block_lt_of_cell? _ _ (((HB.out.cell (World.block_lt_of_cell? w _ hw294_1)).trans hw294_1)))).trans (((HB.out.cell (World.block_lt_of_cell? w _ hw294_1)).trans hw294_1))⟩ (fun hHeld=>?_)
              clear hK K
              refine norm_ (a' := ?_) ?_ ?_
              rotate_left
              ·
               show Act.put _ (some 43) _ = _
               simp only [Act.put,zz11,zz12,zz13,i64_w,i32_w]
               rfl
              refine one_ (i := 8) (N := some 44) #[true, true, true, true, true, true, true, true, true, true, false, false] rfl rfl (one_of HT_.out (by kernel_rfl)) (by decide) (fun K hK => ?_)
              refine Kd.R_append_step k48 (w0:=w) w.heap.size (by rfl) (.tmp 38) (.tmp 43) 38 48 (.agg #[(.int .i64 0),(.int .i64 0)]) 16 rfl Tryd.underlying38 info48 rfl (by decide) (by omega) (.slice Ao3 y291.length co3) y291 (⟨(rd_T48 l0 x4_1).f0,(rd_T48 l0 x4_1).f1⟩ : S48) [.int .i64 ((rd_T48 l0 x4_1).f0),.int .i64 ((rd_T48 l0 x4_1).f1)] (fun k_=>some k_ ≠ (v289 : Value).ownBlock) (fun _=>False) rfl rfl ?aP (fun _ hk=>hk.elim) ?aF ?aO ?aB ?aS ?aL ?_
              (case aP => exact k48_mkM _ _ _ (⟨(rd_T48 l0 x4_1).f0, (rd_T48 l0 x4_1).f1⟩ : S48))
              (case aB => exact (by repeat (first | (with_reducible first | exact HB.out | apply zz03 | apply zz01 | apply zz02) | exact HB.out)))
              (case aF => exact (fun k_ hk => Kd.fresh' (Kd.R_lt (by (with_reducible repeat (first | apply zz05 | apply zz04 | apply zz06)); exact HO290.out)) k_ hk))
              (case aO => exact (by (with_reducible repeat (first | apply zz05 | apply zz04 | apply zz06)); exact Kd.R_mono HO293.out (fun _ hk => hk.2)))
              (case aS => exact (zz22 (by repeat (first | (with_reducible first | exact HB.out | apply zz03 | apply zz01 | apply zz02) | exact HB.out))))
              (case aL => have := LMc37.out; omega)
              intro v296 w46 ho hb hg hat
              rw [← Ny295.out] at ho
              have n0_:=zz00 (Kd.R_after (ok:=(fun _=>True)) (by (with_reducible repeat (first|apply zz05|apply zz04|apply zz06));exact Kd.R_mono HO290.out (fun _ hk=>⟨trivial,by first|exact hk|(cases A1 <;> exact hk)|(cases A10 <;> exact hk)|(cases A24 <;> exact hk)|(cases A42 <;> exact hk)|(cases Ao3 <;> exact hk)|(cases Ao30 <;> exact hk)⟩)) hg hat)
              have n1_ := zz00 (hb)
              have n2_ := zz00 (ho)
              clear HO290
              clear HB
              clear HO293
              have HO290 := n0_
              have HB := n1_
              have HO297 := n2_
              clear n0_ n1_ n2_
              clear ho hb hg hat
              obtain ⟨Ao48, co48, eo48⟩ := Kd.R_slice HO290.out
              (first | subst eo48 | (injection eo48 with f1_ f2_ f3_; have f4_ := f1_.symm; have f5_ := f3_.symm; clear f1_ f2_ f3_; subst f4_; subst f5_))
              refine hK.out _ _ ⟨((HB.out.cell (World.block_lt_of_cell? w _ hw294_0)).trans hw294_0), ((HB.out.cell (World.block_lt_of_cell? w _ hw294_1)).trans hw294_1)⟩ (fun hHeld => ?_)
              clear hK K
              refine norm_ (a' := ?_) ?_ ?_
              rotate_left
              ·
               show Act.put _ (some 44) _ = _
               simp only [Act.put,zz11,zz12,zz13,i64_w,i32_w]
               rfl
              refine one_ (i := 10) (N := some 46) #[true, true, true, true, true, true, true, true, true, true, true, false] rfl rfl (one_of HT_.out (by kernel_rfl)) (by decide) (fun K hK => ?_)
              refine Kd.R_append_rows_step k48 (w0:=w) w.heap.size (by rfl) (.tmp 44) (.tmp 45) 38 48 (.agg #[(.int .i64 0),(.int .i64 0)]) 16 rfl Tryd.underlying38 info48 rfl (by decide) (by omega) v296 y295 y288 _ _ _ (fun k_=>some k_ ≠ (.slice Ao48 y288.length co48 : Value).ownBlock) (fun _=>False) rfl rfl ?aO ?aR (fun _ _ h=>h) (fun _ h=>h.elim) ?aF ?aB ?aS ?aL ?_
              (case aR => repeat (first | exact (Kd.R_reads' HO290.out).2.2 | (with_reducible refine Kd.C_alloc ?_ _) | (with_reducible refine Kd.C_drewN ?_ _) | (with_reducible refine Kd.C_drew ?_)))
              (case aB => exact (by repeat (first | (with_reducible first | exact HB.out | apply zz03 | apply zz01 | apply zz02) | exact HB.out)))
              (case aF => exact (fun k_ hk => Kd.fresh' (Kd.R_lt (by (with_reducible repeat (first | apply zz05 | apply zz04 | apply zz06)); exact HO290.out)) k_ hk))
              (case aO => exact (by (with_reducible repeat (first | apply zz05 | apply zz04 | apply zz06)); exact HO297.out))
              (case aS => exact (zz22 (by repeat (first | (with_reducible first | exact HB.out | apply zz03 | apply zz01 | apply zz02) | exact HB.out))))
              (case aL => have := LMc38.out; omega)
              intro v299 w47 ho hb hg hat
              rw [← Ny298.out] at ho
              have n0_ := zz00 (Kd.R_after (ok := (fun _ => True)) (by (with_reducible repeat (first | apply zz05 | apply zz04 | apply zz06)); exact HO290.out) hg hat)
              have n1_ := zz00 (hb)
              have n2_ := zz00 (ho)
              clear HO290
              clear HB
              clear HO297
              have HO290 := n0_
              have HB := n1_
              have HO300 := n2_
              clear n0_ n1_ n2_
              clear ho hb hg hat
              refine hK.out _ _ ⟨((HB.out.cell (World.block_lt_of_cell? w _ hw294_0)).trans hw294_0), ((HB.out.cell (World.block_lt_of_cell? w _ hw294_1)).trans hw294_1)⟩ (fun hHeld => ?_)
              clear hK K
              refine norm_ (a' := ?_) ?_ ?_
              rotate_left
              ·
               show Act.put _ (some 46) _ = _
               simp only [Act.put,zz11,zz12,zz13,i64_w,i32_w]
               rfl
              refine pure_ (i:=11) (N:=some 3) (v:=?_) (a':=?_) #[true,true,true,true,true,true,true,true,true,true,true,true] rfl rfl (any_of HT_.out (by kernel_rfl)) (fun _ _ _ h=>h) (Or.inl ⟨by rfl,?_⟩) ?_ ?_
              rotate_left
              ·
               intro w'
               go_simp
               with_reducible rfl
              rotate_left
              ·
               simp only [Act.put,zz11,zz12,zz13,i64_w,i32_w]
               rfl
              refine done_ (done_of HT_.out (by kernel_rfl)) ?_
              try go_wp2
              go_roundg k2
              case measure => have := HK1.out; have := HK2.out; omega
              case rel=>exact ⟨(y298),(wrap64 (x4_1 + 1)),(by first|rfl|(simp;done)|(simp [*];done)),H',⟨by have:=HK1.out;have:=HK2.out;omega⟩,⟨by (with_reducible repeat (first|apply zz05|apply zz04|apply zz06));exact Kd.R_mono HO300.out (fun _ hk=>trivial)⟩,⟨by repeat (first|(with_reducible first|exact HB.out|apply zz03|apply zz01|apply zz02)|exact HB.out)⟩⟩
             ·
              rw [if_neg c38] at H
              exact absurd H (by simp)
            ·
             rw [if_neg c37] at H
             exact absurd H (by simp)
           ·
            rw [if_neg c36] at H
            exact absurd H (by simp)
          ·
           rw [if_neg c35] at H
           exact absurd H (by simp)
         ·
          rw [if_neg c33] at H
          exact absurd H (by simp)
        ·
         rw [if_neg c32] at H
         exact absurd H (by simp)
       ·
        rw [if_neg c31] at H
        exact absurd H (by simp)
   ·
    rw [if_neg c2] at H
    have c2b0 : decide (x4_1 < (l0.length : Int)) = false := decide_eq_false c2
    clear c2
    obtain rfl := Option.some.inj H
    go_wp2
    go_ret
    exact ⟨_,by first|rfl|(simp [errW_none,errW_some] <;> rfl)|(simp [*,errW_none,errW_some] <;> rfl),by (with_reducible repeat (first|apply zz05|apply zz04|apply zz06));exact HO_3.out,by repeat (first|(with_reducible first|exact HB.out|apply zz03|apply zz01|apply zz02)|exact HB.out)⟩

end Go.Proofs.YtflpddhoiafhcaaDoor.T
end

section
-- Written by wip/hprint.py of this repo (holes typed by hand, all else by a program) over the seat YtflpddhoiafhcaaDoor.
namespace Go.Proofs.YtflpddhoiafhcaaDoor.T
open Go.Proofs.YtflpddhoiafhcaaDoor.H
open Go.RowKit Go.Proofs.YtflpddhoiafhcaaDoorW.PrintWords Go.Proofs.YtflpddhoiafhcaaDoorW.PrintLast Go.Proofs.YtflpddhoiafhcaaDoorW.PrintMore
attribute [local go_sem] max2_int min2_int max_two min_two max_three min_three max_four min_four   -- for this text's walks alone
set_option linter.unusedVariables false
set_option linter.unusedSimpArgs false

theorem eqA23 (d : Nat) (w : World) (x0 y0 : Int) (x1 y1 : Bool) :
    (Op.equalIn (d + 2) 23 (.agg #[.int .i64 x0, .bool x1]) (.agg #[.int .i64 y0, .bool y1])).run Tryd.prog w = .ok (x0 == y0 && (x1 == y1)) w := by
  refine eqA_of Tryd.underlying23 (by kernel_rfl) ?_
  refine eqf_cons (by rfl) (by go_simp; rfl) (by go_simp; rfl) (by go_simp) ?_
  exact eqf_last (by rfl) (by go_simp; rfl) (by go_simp; rfl) (by go_simp)
end Go.Proofs.YtflpddhoiafhcaaDoor.T
end

section
-- Written by wip/hprint.py of this repo (holes typed by hand, all else by a program) over the seat YtflpddhoiafhcaaDoor.
namespace Go.Proofs.YtflpddhoiafhcaaDoor.T
open Go.Proofs.YtflpddhoiafhcaaDoor.H
open Go.RowKit Go.Proofs.YtflpddhoiafhcaaDoorW.PrintWords Go.Proofs.YtflpddhoiafhcaaDoorW.PrintLast Go.Proofs.YtflpddhoiafhcaaDoorW.PrintMore
attribute [local go_sem] max2_int min2_int max_two min_two max_three min_three max_four min_four   -- for this text's walks alone
set_option linter.unusedVariables false
set_option linter.unusedSimpArgs false

attribute [local go_sem high] eqA23
def r07_Right.f (a0 : Int) : Option (Bool) := if a0 ≥ 1 then (some (decide (a0 ≤ 9999))) else (some false)
set_option maxHeartbeats 8000000 in
set_option maxRecDepth 100000 in
theorem r07_Right.calls (a0 : Int) (r : Bool) (w : World) (h : r07_Right.f a0 = some r) :
    Calls Tryd.prog 54 #[.int .i64 a0] w fun e w' => e = .returned (.bool r) ∧ Drawn0 w w' := by
  have H : (if a0 ≥ 1 then (some (decide (a0 ≤ 9999))) else (some false)) = some r := h
  clear h
  by_cases c2 : a0 ≥ 1
  · rw [if_pos c2] at H
    have c2b0 : decide (1 ≤ a0) = true := decide_eq_true c2
    clear c2
    obtain rfl := Option.some.inj H
    go_enter Tryd.func54, Tryd.ntmps54
    go_wp2
    go_ret
    exact ⟨by first | rfl | (simp; done) | (simp [*]; done), by repeat (first | exact Drawn0.refl _ | apply Drawn0.step)⟩
  · rw [if_neg c2] at H
    have c2b0 : decide (1 ≤ a0) = false := decide_eq_false c2
    clear c2
    obtain rfl := Option.some.inj H
    go_enter Tryd.func54, Tryd.ntmps54
    go_wp2
    go_ret
    exact ⟨by first | rfl | (simp; done) | (simp [*]; done), by repeat (first | exact Drawn0.refl _ | apply Drawn0.step)⟩

def r01_Left.f (a0 : Int) (a1 : Int) : Option (Int) := if a1 = 0 then (none) else (if (Int.tmod a0 a1) < 0 then (some (wrap64 ((Int.tmod a0 a1) + a1))) else (some (Int.tmod a0 a1)))
set_option maxHeartbeats 8000000 in
set_option maxRecDepth 100000 in
theorem r01_Left.calls (a0 : Int) (a1 : Int) (r : Int) (w : World) (h : r01_Left.f a0 a1 = some r) :
    Calls Tryd.prog 56 #[.int .i64 a0, .int .i64 a1] w fun e w' => e = .returned (.int .i64 r) ∧ Drawn0 w w' := by
  have H : (if a1 = 0 then (none) else (if (Int.tmod a0 a1) < 0 then (some (wrap64 ((Int.tmod a0 a1) + a1))) else (some (Int.tmod a0 a1)))) = some r := h
  clear h
  by_cases c3 : a1 = 0
  · rw [if_pos c3] at H
    exact absurd H (by simp)
  · rw [if_neg c3] at H
    have c3b0 : (a1 == 0) = false := zz27.mpr c3
    have c3b1 : (a1 != 0) = true := zz28.mpr c3
    by_cases c4 : (Int.tmod a0 a1) < 0
    · rw [if_pos c4] at H
      have c4b0 : decide ((Int.tmod a0 a1) < 0) = true := decide_eq_true c4
      clear c4
      obtain rfl := Option.some.inj H
      go_enter Tryd.func56, Tryd.ntmps56
      go_wp2
      go_ret
      exact ⟨by first | rfl | (simp; done) | (simp [*]; done), by repeat (first | exact Drawn0.refl _ | apply Drawn0.step)⟩
    · rw [if_neg c4] at H
      have c4b0 : decide ((Int.tmod a0 a1) < 0) = false := decide_eq_false c4
      clear c4
      obtain rfl := Option.some.inj H
      go_enter Tryd.func56, Tryd.ntmps56
      go_wp2
      go_ret
      exact ⟨by first | rfl | (simp; done) | (simp [*]; done), by repeat (first | exact Drawn0.refl _ | apply Drawn0.step)⟩

def r03_Is.f (a0 : Int) : Option (Bool) := (r01_Left.f (wrap64 ((wrap64 (7 * a0)) + 1)) 19).bind fun t301 => (some (decide (t301 < 7)))
set_option maxHeartbeats 8000000 in
set_option maxRecDepth 100000 in
theorem r03_Is.calls (a0 : Int) (r : Bool) (w : World) (h : r03_Is.f a0 = some r) :
  Calls Tryd.prog 60 #[.int .i64 a0] w fun e w' => e = .returned (.bool r) ∧ Drawn0 w w' := by
 have H : ((r01_Left.f (wrap64 ((wrap64 (7 * a0)) + 1)) 19).bind fun t301 => (some (decide (t301 < 7)))) = some r := h
 clear h
 replace H := zz14.mp H
 obtain ⟨t301, A20, H⟩ := H
 replace H : (some (decide (t301 < 7))) = some r := H
 have A2 := zz00 A20
 clear A20
 obtain rfl := Option.some.inj H
 go_enter Tryd.func60, Tryd.ntmps60
 go_wp2_with (first|((with_reducible refine zz23 (f:=56) rfl ?_);refine zz25 (some 6) rfl rfl Tryd.func56 (by kernel_rfl) rfl #[.int .i64 (wrap64 ((wrap64 (7 * a0)) + 1)),.int .i64 19] rfl (by (try simp only [List.map_toArray,List.map_cons,List.map_nil]);first|done|rfl|(simp only [List.length_drop,List.length_take];rfl)) ?_;(with_reducible refine (r01_Left.calls (wrap64 ((wrap64 (7 * a0)) + 1)) 19 t301 _ A2.out).mono ?_);rintro e w' ⟨rfl,⟨nd,rfl⟩⟩;refine ⟨_,rfl,?_⟩))
 go_ret
 exact ⟨by first | rfl | (simp; done) | (simp [*]; done), by repeat (first | exact Drawn0.refl _ | apply Drawn0.step)⟩

def r19_Place.f (a0 : Int) : Option (Bool) := if a0 = 0 then (some true) else (some (a0 == 1))
set_option maxHeartbeats 8000000 in
set_option maxRecDepth 100000 in
theorem r19_Place.calls (a0 : Int) (r : Bool) (w : World) (h : r19_Place.f a0 = some r) :
    Calls Tryd.prog 61 #[.int .i64 a0] w fun e w' => e = .returned (.bool r) ∧ Drawn0 w w' := by
  have H : (if a0 = 0 then (some true) else (some (a0 == 1))) = some r := h
  clear h
  by_cases c2 : a0 = 0
  · rw [if_pos c2] at H
    have c2b0 : (a0 == 0) = true := zz29.mpr c2
    have c2b1 : (a0 != 0) = false := zz26.mpr c2
    clear c2
    obtain rfl := Option.some.inj H
    go_enter Tryd.func61, Tryd.ntmps61
    go_wp2
    go_ret
    exact ⟨by first | rfl | (simp; done) | (simp [*]; done), by repeat (first | exact Drawn0.refl _ | apply Drawn0.step)⟩
  · rw [if_neg c2] at H
    have c2b0 : (a0 == 0) = false := zz27.mpr c2
    have c2b1 : (a0 != 0) = true := zz28.mpr c2
    obtain rfl := Option.some.inj H
    go_enter Tryd.func61, Tryd.ntmps61
    go_wp2
    go_ret
    exact ⟨by first | rfl | (simp; done) | (simp [*]; done), by repeat (first | exact Drawn0.refl _ | apply Drawn0.step)⟩

def r09_codes.l0 : Nat → Bool → List (S23) → Int → Option ((List (S23)))
  | 0, _, _, _ => none
  | k + 1, x0, x3, x4 => if x4 ≤ 12 then (if x3.length < 8796093022208 then ((some (x3 ++ [(⟨x4, false⟩ : S23)] : List (S23))).bind fun y302 => (if x4 = 5 then (if x0 = true then (if y302.length < 8796093022208 then (r09_codes.l0 k x0 (y302 ++ [(⟨5, true⟩ : S23)]) (wrap64 (x4 + 1))) else (none)) else (r09_codes.l0 k x0 y302 (wrap64 (x4 + 1)))) else (r09_codes.l0 k x0 y302 (wrap64 (x4 + 1))))) else (none)) else (some x3)
def r09_codes.f (k : Nat) (a0 : Bool) : Option ((List (S23))) := r09_codes.l0 k a0 ([] : List (S23)) 1
theorem r09_codes.mono_l : ∀ k, (∀ y0 y1 y2, LeO (r09_codes.l0 k y0 y1 y2) (r09_codes.l0 (k + 1) y0 y1 y2))
 | 0 => fun _ _ _ r h => by simp [r09_codes.l0] at h
 | k + 1 => by
  have ih0 := r09_codes.mono_l k
  ·
   intro y0 y1 y2
   unfold r09_codes.l0
   repeat' first
   | (with_reducible exact ih0 _ _ _)
   | (with_reducible exact LeO.refl _)
   | (with_reducible exact LeO.none _)
   | (with_reducible refine LeO.ite ?_ ?_)
   | (with_reducible refine LeO.bind ?_ (fun _ => ?_))
   | exact ih0 _ _ _
   | exact LeO.none _
   | refine LeO.ite ?_ ?_
   | refine LeO.bind ?_ (fun _ => ?_)
theorem r09_codes.mono : ∀ a0 k, LeO (r09_codes.f k a0) (r09_codes.f (k + 1) a0) := by
 intro a0 k
 have ih0 := r09_codes.mono_l k
 unfold r09_codes.f
 repeat' first
   | (with_reducible exact ih0 _ _ _)
   | (with_reducible exact LeO.refl _)
   | (with_reducible exact LeO.none _)
   | (with_reducible refine LeO.ite ?_ ?_)
   | (with_reducible refine LeO.bind ?_ (fun _ => ?_))
   | exact ih0 _ _ _
   | exact LeO.none _
   | refine LeO.ite ?_ ?_
   | refine LeO.bind ?_ (fun _ => ?_)
set_option maxHeartbeats 8000000 in
set_option maxRecDepth 100000 in
theorem r09_codes.calls (k : Nat) (a0 : Bool) (r : List (S23)) (w : World) (h : r09_codes.f k a0 = some r) :
  Calls Tryd.prog 51 #[.bool a0] w fun e w' => ∃ v0_ : Value, e = .returned (v0_) ∧ Kd.R k23 23 w' w.heap.size (fun _ => True) v0_ r ∧ Below w.heap.size w w' := by
 have hu23 := Tryd.underlying23
 have HB := zz00 (Below.refl w.heap.size w)
 have H : (r09_codes.l0 k a0 ([] : List (S23)) 1) = some r := h
 clear h
 have H' := zz00 H
 clear H
 go_enter Tryd.func51, Tryd.ntmps51
 go_wp2
 go_loopg [3,4] k (fun kq v3 v4 w'=>∃ (x3_1 : List (S23)) (x4_1 : Int),v4 = .int .i64 x4_1 ∧ Aside0 (r09_codes.l0 kq a0 x3_1 x4_1 = some r) ∧ Aside0 (kq ≤ k) ∧ Aside0 (Kd.R k23 23 w' w.heap.size (fun _=>True) v3 x3_1) ∧ Aside0 (Below w.heap.size w w'))
 case atStart=>exact ⟨(([] : List (S23))),(1),(by first|rfl|(simp;done)|(simp [*];done)),H',⟨Nat.le_refl _⟩,⟨by first|exact Kd.R_nil _ _ _ _ _|exact Kd.N_nil _ _ _ _ _|exact Kd.V_nil _ _ _ _ _|exact Kd.Q_nil _ _ _ _ _|exact Kd.S_nil _ _ _ _ _⟩,⟨by repeat (first|(with_reducible first|exact HB.out|apply zz03|apply zz01|apply zz02)|exact HB.out)⟩⟩
 case round =>
  clear H'
  obtain ⟨x3_1, x4_1, rfl, HA, HK1, HO_3, HB⟩ := hrel
  cases gk with
  | zero => exact absurd HA.out (by simp [r09_codes.l0])
  | succ k1 =>
   have H := HA.out
   clear HA
   simp only [r09_codes.l0] at H
   by_cases c2 : x4_1 ≤ 12
   ·
    rw [if_pos c2] at H
    have c2b0 : decide (x4_1 ≤ 12) = true := decide_eq_true c2
    clear c2
    by_cases c3 : x3_1.length < 8796093022208
    ·
     rw [if_pos c3] at H
     have LMc3 := zz00 c3
     clear c3
     obtain ⟨y302, hy302⟩ : ∃ y_ : List (S23), y_ = (x3_1 ++ [(⟨x4_1, false⟩ : S23)]) := ⟨_, rfl⟩
     replace H : (if x4_1 = 5 then (if a0 = true then (if y302.length < 8796093022208 then (r09_codes.l0 k1 a0 (y302 ++ [(⟨5,true⟩ : S23)]) (wrap64 (x4_1 + 1))) else (none)) else (r09_codes.l0 k1 a0 y302 (wrap64 (x4_1 + 1)))) else (r09_codes.l0 k1 a0 y302 (wrap64 (x4_1 + 1)))) = some r:=by first|(rw [hy302];with_reducible exact H)|(have H2_:=(Option.bind_some _ _).symm.trans H;rw [hy302];with_reducible exact H2_)|(have H2_:=(Option.bind_some _ _).symm.trans H;with_reducible exact H2_)|with_reducible exact H|(rw [hy302];exact H)|exact H
     have Ny302 := zz00 hy302
     clear hy302
     by_cases c4 : x4_1 = 5
     ·
      rw [if_pos c4] at H
      have c4b0 : (x4_1 == 5) = true := zz29.mpr c4
      have c4b1 : (x4_1 != 5) = false := zz26.mpr c4
      clear c4
      by_cases c5 : a0 = true
      ·
       subst c5
       have H1 : (if y302.length < 8796093022208 then (r09_codes.l0 k1 true (y302 ++ [(⟨5, true⟩ : S23)]) (wrap64 (x4_1 + 1))) else (none)) = some r := by rw [if_pos rfl] at H; exact H
       clear H
       have H := H1
       clear H1
       by_cases c6 : y302.length < 8796093022208
       ·
        rw [if_pos c6] at H
        have LMc6 := zz00 c6
        clear c6
        obtain ⟨y305, hy305⟩ : ∃ y_ : List (S23), y_ = (y302 ++ [(⟨5, true⟩ : S23)]) := ⟨_, rfl⟩
        replace H : (r09_codes.l0 k1 true y305 (wrap64 (x4_1 + 1))) = some r:=by first|(rw [hy305];with_reducible exact H)|(have H2_:=(Option.bind_some _ _).symm.trans H;rw [hy305];with_reducible exact H2_)|(have H2_:=(Option.bind_some _ _).symm.trans H;with_reducible exact H2_)|with_reducible exact H|(rw [hy305];exact H)|exact H
        have Ny305 := zz00 hy305
        clear hy305
        have H' := zz00 H
        clear H
        go_wp2_with (first|((with_reducible refine gate_builtin (b:=.append) (xs:=#[.tmp 9,.tmp 12]) rfl ?_);at_builtin;refine Kd.R_append k23 (w0:=w) w.heap.size rfl (.tmp 9) (.tmp 12) 71 23 (.agg #[(.int .i64 0),(.bool false)]) 16 rfl Tryd.underlying71 info23 rfl (by decide) (by omega) u3 x3_1 (⟨x4_1,false⟩ : S23) [.int .i64 x4_1,.bool false] (fun _=>True) (fun _=>False) rfl rfl ?aP (fun _ hk=>hk.elim) ?aF ?aO ?aB ?aS ?aL ?_;(case aP=>exact k23_mkM _ _ _ (⟨x4_1,false⟩ : S23));(case aB=>exact (by repeat (first|(with_reducible first|exact HB.out|apply zz03|apply zz01|apply zz02)|exact HB.out)));(case aF=>exact (fun _ _=>trivial));(case aO=>exact (by (with_reducible repeat (first|apply zz05|apply zz04|apply zz06));exact HO_3.out));(case aS=>exact (zz22 (by repeat (first|(with_reducible first|exact HB.out|apply zz03|apply zz01|apply zz02)|exact HB.out))));(case aL=>have:=LMc3.out;omega);intro v303 w7 ho hb hg hat;rw [← Ny302.out] at ho;have n0_:=zz00 (hb);have n1_:=zz00 (ho);clear HB;clear HO_3;have HB:=n0_;have HO304:=n1_;clear n0_ n1_;clear ho hb hg hat)|((with_reducible refine gate_builtin (b:=.append) (xs:=#[.tmp 19,.tmp 21]) rfl ?_);at_builtin;refine Kd.R_append k23 (w0:=w) w.heap.size rfl (.tmp 19) (.tmp 21) 71 23 (.agg #[(.int .i64 0),(.bool false)]) 16 rfl Tryd.underlying71 info23 rfl (by decide) (by omega) v303 y302 (⟨5,true⟩ : S23) [.int .i64 5,.bool true] (fun _=>True) (fun _=>False) rfl rfl ?aP (fun _ hk=>hk.elim) ?aF ?aO ?aB ?aS ?aL ?_;(case aP=>exact k23_mkM _ _ _ (⟨5,true⟩ : S23));(case aB=>exact (by repeat (first|(with_reducible first|exact HB.out|apply zz03|apply zz01|apply zz02)|exact HB.out)));(case aF=>exact (fun _ _=>trivial));(case aO=>exact (by (with_reducible repeat (first|apply zz05|apply zz04|apply zz06));exact HO304.out));(case aS=>exact (zz22 (by repeat (first|(with_reducible first|exact HB.out|apply zz03|apply zz01|apply zz02)|exact HB.out))));(case aL=>have:=LMc6.out;omega);intro v306 w8 ho hb hg hat;rw [← Ny305.out] at ho;have n0_:=zz00 (hb);have n1_:=zz00 (ho);clear HB;clear HO304;have HB:=n0_;have HO307:=n1_;clear n0_ n1_;clear ho hb hg hat))
        go_roundg k1
        case measure => have := HK1.out; omega
        case rel=>exact ⟨(y305),(wrap64 (x4_1 + 1)),(by first|rfl|(simp;done)|(simp [*];done)),H',⟨by have:=HK1.out;omega⟩,⟨by (with_reducible repeat (first|apply zz05|apply zz04|apply zz06));exact HO307.out⟩,⟨by repeat (first|(with_reducible first|exact HB.out|apply zz03|apply zz01|apply zz02)|exact HB.out)⟩⟩
       ·
        rw [if_neg c6] at H
        exact absurd H (by simp)
      ·
       replace c5 := zz32.mpr c5
       subst c5
       have H1 : (r09_codes.l0 k1 false y302 (wrap64 (x4_1 + 1))) = some r := by rw [if_neg (show ¬ (false = true) by decide)] at H; exact H
       clear H
       have H := H1
       clear H1
       have H' := zz00 H
       clear H
       go_wp2_with (first|((with_reducible refine gate_builtin (b:=.append) (xs:=#[.tmp 9,.tmp 12]) rfl ?_);at_builtin;refine Kd.R_append k23 (w0:=w) w.heap.size rfl (.tmp 9) (.tmp 12) 71 23 (.agg #[(.int .i64 0),(.bool false)]) 16 rfl Tryd.underlying71 info23 rfl (by decide) (by omega) u3 x3_1 (⟨x4_1,false⟩ : S23) [.int .i64 x4_1,.bool false] (fun _=>True) (fun _=>False) rfl rfl ?aP (fun _ hk=>hk.elim) ?aF ?aO ?aB ?aS ?aL ?_;(case aP=>exact k23_mkM _ _ _ (⟨x4_1,false⟩ : S23));(case aB=>exact (by repeat (first|(with_reducible first|exact HB.out|apply zz03|apply zz01|apply zz02)|exact HB.out)));(case aF=>exact (fun _ _=>trivial));(case aO=>exact (by (with_reducible repeat (first|apply zz05|apply zz04|apply zz06));exact HO_3.out));(case aS=>exact (zz22 (by repeat (first|(with_reducible first|exact HB.out|apply zz03|apply zz01|apply zz02)|exact HB.out))));(case aL=>have:=LMc3.out;omega);intro v303 w9 ho hb hg hat;rw [← Ny302.out] at ho;have n0_:=zz00 (hb);have n1_:=zz00 (ho);clear HB;clear HO_3;have HB:=n0_;have HO304:=n1_;clear n0_ n1_;clear ho hb hg hat))
       go_roundg k1
       case measure => have := HK1.out; omega
       case rel=>exact ⟨(y302),(wrap64 (x4_1 + 1)),(by first|rfl|(simp;done)|(simp [*];done)),H',⟨by have:=HK1.out;omega⟩,⟨by (with_reducible repeat (first|apply zz05|apply zz04|apply zz06));exact HO304.out⟩,⟨by repeat (first|(with_reducible first|exact HB.out|apply zz03|apply zz01|apply zz02)|exact HB.out)⟩⟩
     ·
      rw [if_neg c4] at H
      have c4b0 : (x4_1 == 5) = false := zz27.mpr c4
      have c4b1 : (x4_1 != 5) = true := zz28.mpr c4
      have H' := zz00 H
      clear H
      go_wp2_with (first|((with_reducible refine gate_builtin (b:=.append) (xs:=#[.tmp 9,.tmp 12]) rfl ?_);at_builtin;refine Kd.R_append k23 (w0:=w) w.heap.size rfl (.tmp 9) (.tmp 12) 71 23 (.agg #[(.int .i64 0),(.bool false)]) 16 rfl Tryd.underlying71 info23 rfl (by decide) (by omega) u3 x3_1 (⟨x4_1,false⟩ : S23) [.int .i64 x4_1,.bool false] (fun _=>True) (fun _=>False) rfl rfl ?aP (fun _ hk=>hk.elim) ?aF ?aO ?aB ?aS ?aL ?_;(case aP=>exact k23_mkM _ _ _ (⟨x4_1,false⟩ : S23));(case aB=>exact (by repeat (first|(with_reducible first|exact HB.out|apply zz03|apply zz01|apply zz02)|exact HB.out)));(case aF=>exact (fun _ _=>trivial));(case aO=>exact (by (with_reducible repeat (first|apply zz05|apply zz04|apply zz06));exact HO_3.out));(case aS=>exact (zz22 (by repeat (first|(with_reducible first|exact HB.out|apply zz03|apply zz01|apply zz02)|exact HB.out))));(case aL=>have:=LMc3.out;omega);intro v303 w10 ho hb hg hat;rw [← Ny302.out] at ho;have n0_:=zz00 (hb);have n1_:=zz00 (ho);clear HB;clear HO_3;have HB:=n0_;have HO304:=n1_;clear n0_ n1_;clear ho hb hg hat))
      go_roundg k1
      case measure => have := HK1.out; omega
      case rel=>exact ⟨(y302),(wrap64 (x4_1 + 1)),(by first|rfl|(simp;done)|(simp [*];done)),H',⟨by have:=HK1.out;omega⟩,⟨by (with_reducible repeat (first|apply zz05|apply zz04|apply zz06));exact HO304.out⟩,⟨by repeat (first|(with_reducible first|exact HB.out|apply zz03|apply zz01|apply zz02)|exact HB.out)⟩⟩
    ·
     rw [if_neg c3] at H
     exact absurd H (by simp)
   ·
    rw [if_neg c2] at H
    have c2b0 : decide (x4_1 ≤ 12) = false := decide_eq_false c2
    clear c2
    obtain rfl := Option.some.inj H
    go_wp2
    go_ret
    exact ⟨_,by first|rfl|(simp [errW_none,errW_some] <;> rfl)|(simp [*,errW_none,errW_some] <;> rfl),by (with_reducible repeat (first|apply zz05|apply zz04|apply zz06));exact HO_3.out,by repeat (first|(with_reducible first|exact HB.out|apply zz03|apply zz01|apply zz02)|exact HB.out)⟩

def r09_Place.l0 : Nat → List (S23) → Int → Int → Bool → Option (Int × Bool)
  | 0, _, _, _, _ => none
  | k + 1, x6, x7, x309000, x309001 => if x7 < (x6.length : Int) then (if 0 ≤ x7 then (if (((rd_T23 x6 x7).f0) == x309000 && (((rd_T23 x6 x7).f1) == x309001)) = true then (some (wrap64 (x7 + 1), true)) else (r09_Place.l0 k x6 (wrap64 (x7 + 1)) x309000 x309001)) else (none)) else (some (0, false))
def r09_Place.f (k : Nat) (a0 : Bool) (a1_0 : Int) (a1_1 : Bool) : Option (Int × Bool) := (r09_codes.f k a0).bind fun t309 => (r09_Place.l0 k t309 0 a1_0 a1_1)
theorem r09_Place.mono_l : ∀ k, (∀ y0 y1 y2 y3, LeO (r09_Place.l0 k y0 y1 y2 y3) (r09_Place.l0 (k + 1) y0 y1 y2 y3))
 | 0 => fun _ _ _ _ r h => by simp [r09_Place.l0] at h
 | k + 1 => by
  have ih0 := r09_Place.mono_l k
  ·
   intro y0 y1 y2 y3
   unfold r09_Place.l0
   repeat' first
   | (with_reducible exact ih0 _ _ _ _)
   | (with_reducible exact r09_codes.mono _ _)
   | (with_reducible exact LeO.refl _)
   | (with_reducible exact LeO.none _)
   | (with_reducible refine LeO.ite ?_ ?_)
   | (with_reducible refine LeO.bind ?_ (fun _ => ?_))
   | exact ih0 _ _ _ _
   | exact r09_codes.mono _ _
   | exact LeO.none _
   | refine LeO.ite ?_ ?_
   | refine LeO.bind ?_ (fun _ => ?_)
theorem r09_Place.mono : ∀ a0 a1 a2 k, LeO (r09_Place.f k a0 a1 a2) (r09_Place.f (k + 1) a0 a1 a2) := by
 intro a0 a1 a2 k
 have ih0 := r09_Place.mono_l k
 unfold r09_Place.f
 repeat' first
   | (with_reducible exact ih0 _ _ _ _)
   | (with_reducible exact r09_codes.mono _ _)
   | (with_reducible exact LeO.refl _)
   | (with_reducible exact LeO.none _)
   | (with_reducible refine LeO.ite ?_ ?_)
   | (with_reducible refine LeO.bind ?_ (fun _ => ?_))
   | exact ih0 _ _ _ _
   | exact r09_codes.mono _ _
   | exact LeO.none _
   | refine LeO.ite ?_ ?_
   | refine LeO.bind ?_ (fun _ => ?_)
set_option maxHeartbeats 8000000 in
set_option maxRecDepth 100000 in
theorem r09_Place.calls (k : Nat) (a0 : Bool) (a1_0 : Int) (a1_1 : Bool) (r1 : Int) (r2 : Bool) (w : World) (h : r09_Place.f k a0 a1_0 a1_1 = some (r1, r2)) :
  Calls Tryd.prog 25 #[.bool a0, .agg #[.int .i64 a1_0, .bool a1_1]] w fun e w' => e = .returned (.tuple #[.int .i64 r1, .bool r2]) ∧ Below w.heap.size w w' := by
 have hu23 := Tryd.underlying23
 have HB := zz00 (Below.refl w.heap.size w)
 have H : ((r09_codes.f k a0).bind fun t309 => (r09_Place.l0 k t309 0 a1_0 a1_1)) = some (r1, r2) := h
 clear h
 replace H := zz14.mp H
 obtain ⟨t309, A30, H⟩ := H
 replace H : (r09_Place.l0 k t309 0 a1_0 a1_1) = some (r1, r2) := H
 have A3 := zz00 A30
 clear A30
 have H' := zz00 H
 clear H
 go_enter Tryd.func25, Tryd.ntmps25
 go_wp2_with (first|((with_reducible refine zz24 (N:=3) rfl ?_);refine zz30 ?hg (N:=3) ?hd (cs:=#[.int .i64 a1_0,.bool a1_1]) (t:=23) ?hr ?_;(case hd=>rfl);(case hg=>rfl);(case hr=>first|(go_simp;done)|(go_simp;rfl));intro gb308 hg w4 hbox hb;have n0_:=zz00 (zz21 (by repeat (first|(with_reducible first|exact HB.out|apply zz03|apply zz01|apply zz02)|exact HB.out)) hb);have n1_:=zz00 (hbox);have n2_:=zz00 ((by rw [hg];exact (zz22 (by repeat (first|(with_reducible first|exact HB.out|apply zz03|apply zz01|apply zz02)|exact HB.out))) : w.heap.size ≤ gb308));have n3_:=zz00 ((by rw [hg];exact (zz22 (by repeat (first|(with_reducible first|exact HB.out|apply zz03|apply zz01|apply zz02)|exact HB.out))) : w.heap.size ≤ gb308));clear HB;have HB:=n0_;have BK308:=n1_;have GW308:=n2_;have GE308:=n3_;clear n0_ n1_ n2_ n3_;clear hb hbox hg)|(go_at_call 51;(with_reducible refine (r09_codes.calls k a0 t309 _ A3.out).mono ?_);rintro e w5 ⟨v310,rfl,ho0,hb⟩;have n0_:=zz00 (Kd.R_lower (Kd.R_newB ho0 (g:=gb308) (o:=.cells #[.int .i64 a1_0,.bool a1_1] 23 (0,0)) (by (with_reducible repeat (first|refine zz07 ?_ _|refine zz09 ?_|refine zz08 ?_ _));exact BK308.out)) (zz22 (by repeat (first|(with_reducible first|exact HB.out|apply zz03|apply zz01|apply zz02|refine zz10 ?_ GE308.out)|exact HB.out))));have n1_:=zz00 (zz34 (g:=gb308) (o:=.cells #[.int .i64 a1_0,.bool a1_1] 23 (0,0)) (by (with_reducible repeat (first|refine zz07 ?_ _|refine zz09 ?_|refine zz08 ?_ _));exact BK308.out) hb);have n2_:=zz00 (zz21 (by repeat (first|(with_reducible first|exact HB.out|apply zz03|apply zz01|apply zz02|refine zz10 ?_ GE308.out)|exact HB.out)) hb);clear BK308;clear HB;have HO311:=n0_;have BK308:=n1_;have HB:=n2_;clear n0_ n1_ n2_;(try clear hb);(try clear hb2);(try clear hk);(try clear hi);(try clear ho0)))
 repeat (go_quiet (first|((with_reducible refine zz24 (N:=3) rfl ?_);refine zz30 ?hg (N:=3) ?hd (cs:=#[.int .i64 a1_0,.bool a1_1]) (t:=23) ?hr ?_;(case hd=>rfl);(case hg=>rfl);(case hr=>first|(go_simp;done)|(go_simp;rfl));intro gb308 hg w4 hbox hb;have n0_:=zz00 (zz21 (by repeat (first|(with_reducible first|exact HB.out|apply zz03|apply zz01|apply zz02)|exact HB.out)) hb);have n1_:=zz00 (hbox);have n2_:=zz00 ((by rw [hg];exact (zz22 (by repeat (first|(with_reducible first|exact HB.out|apply zz03|apply zz01|apply zz02)|exact HB.out))) : w.heap.size ≤ gb308));have n3_:=zz00 ((by rw [hg];exact (zz22 (by repeat (first|(with_reducible first|exact HB.out|apply zz03|apply zz01|apply zz02)|exact HB.out))) : w.heap.size ≤ gb308));clear HB;have HB:=n0_;have BK308:=n1_;have GW308:=n2_;have GE308:=n3_;clear n0_ n1_ n2_ n3_;clear hb hbox hg)|(go_at_call 51;(with_reducible refine (r09_codes.calls k a0 t309 _ A3.out).mono ?_);rintro e w5 ⟨v310,rfl,ho0,hb⟩;have n0_:=zz00 (Kd.R_lower (Kd.R_newB ho0 (g:=gb308) (o:=.cells #[.int .i64 a1_0,.bool a1_1] 23 (0,0)) (by (with_reducible repeat (first|refine zz07 ?_ _|refine zz09 ?_|refine zz08 ?_ _));exact BK308.out)) (zz22 (by repeat (first|(with_reducible first|exact HB.out|apply zz03|apply zz01|apply zz02|refine zz10 ?_ GE308.out)|exact HB.out))));have n1_:=zz00 (zz34 (g:=gb308) (o:=.cells #[.int .i64 a1_0,.bool a1_1] 23 (0,0)) (by (with_reducible repeat (first|refine zz07 ?_ _|refine zz09 ?_|refine zz08 ?_ _));exact BK308.out) hb);have n2_:=zz00 (zz21 (by repeat (first|(with_reducible first|exact HB.out|apply zz03|apply zz01|apply zz02|refine zz10 ?_ GE308.out)|exact HB.out)) hb);clear BK308;clear HB;have HO311:=n0_;have BK308:=n1_;have HB:=n2_;clear n0_ n1_ n2_;(try clear hb);(try clear hb2);(try clear hk);(try clear hi);(try clear ho0)));try go_wp2_with (first|((with_reducible refine zz24 (N:=3) rfl ?_);refine zz30 ?hg (N:=3) ?hd (cs:=#[.int .i64 a1_0,.bool a1_1]) (t:=23) ?hr ?_;(case hd=>rfl);(case hg=>rfl);(case hr=>first|(go_simp;done)|(go_simp;rfl));intro gb308 hg w4 hbox hb;have n0_:=zz00 (zz21 (by repeat (first|(with_reducible first|exact HB.out|apply zz03|apply zz01|apply zz02)|exact HB.out)) hb);have n1_:=zz00 (hbox);have n2_:=zz00 ((by rw [hg];exact (zz22 (by repeat (first|(with_reducible first|exact HB.out|apply zz03|apply zz01|apply zz02)|exact HB.out))) : w.heap.size ≤ gb308));have n3_:=zz00 ((by rw [hg];exact (zz22 (by repeat (first|(with_reducible first|exact HB.out|apply zz03|apply zz01|apply zz02)|exact HB.out))) : w.heap.size ≤ gb308));clear HB;have HB:=n0_;have BK308:=n1_;have GW308:=n2_;have GE308:=n3_;clear n0_ n1_ n2_ n3_;clear hb hbox hg)|(go_at_call 51;(with_reducible refine (r09_codes.calls k a0 t309 _ A3.out).mono ?_);rintro e w5 ⟨v310,rfl,ho0,hb⟩;have n0_:=zz00 (Kd.R_lower (Kd.R_newB ho0 (g:=gb308) (o:=.cells #[.int .i64 a1_0,.bool a1_1] 23 (0,0)) (by (with_reducible repeat (first|refine zz07 ?_ _|refine zz09 ?_|refine zz08 ?_ _));exact BK308.out)) (zz22 (by repeat (first|(with_reducible first|exact HB.out|apply zz03|apply zz01|apply zz02|refine zz10 ?_ GE308.out)|exact HB.out))));have n1_:=zz00 (zz34 (g:=gb308) (o:=.cells #[.int .i64 a1_0,.bool a1_1] 23 (0,0)) (by (with_reducible repeat (first|refine zz07 ?_ _|refine zz09 ?_|refine zz08 ?_ _));exact BK308.out) hb);have n2_:=zz00 (zz21 (by repeat (first|(with_reducible first|exact HB.out|apply zz03|apply zz01|apply zz02|refine zz10 ?_ GE308.out)|exact HB.out)) hb);clear BK308;clear HB;have HO311:=n0_;have BK308:=n1_;have HB:=n2_;clear n0_ n1_ n2_;(try clear hb);(try clear hb2);(try clear hk);(try clear hi);(try clear ho0))))
 go_loopg [7] k (fun kq v7 w'=>∃ (x7_1 : Int),v7 = .int .i64 x7_1 ∧ Aside0 (r09_Place.l0 kq t309 x7_1 a1_0 a1_1 = some (r1,r2)) ∧ Aside0 (kq ≤ k) ∧ Aside0 (Kd.R k23 23 w' w.heap.size (fun k_=>k_ ≠ gb308) v310 t309) ∧ Aside0 (w'.heap[gb308]? = some (.cells #[.int .i64 a1_0,.bool a1_1] 23 (0,0))) ∧ Aside0 (Below w.heap.size w w'))
 case atStart=>exact ⟨(0),(by first|rfl|(simp;done)|(simp [*];done)),H',⟨Nat.le_refl _⟩,⟨by (with_reducible repeat (first|apply zz05|apply zz04|apply zz06));exact Kd.R_mono HO311.out (fun _ hk=>hk.2)⟩,⟨by (with_reducible repeat (first|refine zz07 ?_ _|refine zz09 ?_|refine zz08 ?_ _));exact BK308.out⟩,⟨by repeat (first|(with_reducible first|exact HB.out|apply zz03|apply zz01|apply zz02|refine zz10 ?_ GE308.out)|exact HB.out)⟩⟩
 case round =>
  clear H'
  try clear c2
  try clear p2
  obtain ⟨x7_1, rfl, HA, HK1, HO_6, BK308, HB⟩ := hrel
  cases gk with
  | zero => exact absurd HA.out (by simp [r09_Place.l0])
  | succ k1 =>
   have H := HA.out
   clear HA
   simp only [r09_Place.l0] at H
   by_cases c6 : x7_1 < (t309.length : Int)
   ·
    rw [if_pos c6] at H
    have c6b0 : decide (x7_1 < (t309.length : Int)) = true := decide_eq_true c6
    clear c6
    by_cases c7 : 0 ≤ x7_1
    ·
     rw [if_pos c7] at H
     have c7b0 : decide (0 ≤ x7_1) = true := decide_eq_true c7
     clear c7
     by_cases c8 : (((rd_T23 t309 x7_1).f0) == a1_0 && (((rd_T23 t309 x7_1).f1) == a1_1)) = true
     ·
      rw [if_pos c8] at H
      have c8b0 : (((rd_T23 t309 x7_1).f0) == a1_0 && (((rd_T23 t309 x7_1).f1) == a1_1)) = true := c8
      (try (have c8b1 : decide (((rd_T23 t309 x7_1).f0) = a1_0 && (((rd_T23 t309 x7_1).f1) == a1_1)) = true := by simpa using c8))
      (try (have c8b2 : (((rd_T23 t309 x7_1).f0) == a1_0 && (((rd_T23 t309 x7_1).f1) == a1_1)) = true := by simpa using c8))
      clear c8
      simp only [zz15, zz16] at H
      obtain ⟨rfl, rfl⟩ := H
      obtain ⟨Ao9, co9, eo9⟩ := Kd.R_slice HO_6.out
      subst eo9
      have p312 : 0 ≤ (x7_1 : Int) := zz31 (by first | (with_reducible assumption) | assumption)
      have q312 : x7_1 < (t309.length : Int) := zz31 (by first | (with_reducible assumption) | assumption)
      obtain ⟨ad312, e312, hx312_0, hx312_1⟩ := at_T23 (Kd.R_reads' HO_6.out).2.2 x7_1 p312 q312
      cases e312
      replace p312 := eq_true p312
      replace q312 := eq_true q312
      have hcz10_0 : wr.cell? ⟨gb308, 0, none⟩ = some (.int .i64 a1_0) := (zz18 BK308.out 0).trans rfl
      have hcz10_1 : wr.cell? ⟨gb308, 1, none⟩ = some (.bool a1_1) := (zz18 BK308.out 1).trans rfl
      have hfz10_0 := zz17 BK308.out 0
      have hfz10_1 := zz17 BK308.out 1
      go_wp2
      repeat (go_quiet (fail); try go_wp2)
      go_ret2
      exact ⟨by first|rfl|(simp [errW_none,errW_some] <;> rfl)|(simp [*,errW_none,errW_some] <;> rfl),by repeat (first|(with_reducible first|exact HB.out|apply zz03|apply zz01|apply zz02|refine zz10 ?_ GE308.out)|exact HB.out)⟩
     ·
      rw [if_neg c8] at H
      have c8b0 : (((rd_T23 t309 x7_1).f0) == a1_0 && (((rd_T23 t309 x7_1).f1) == a1_1)) = false := by simpa using c8
      (try (have c8b1 : decide (((rd_T23 t309 x7_1).f0) = a1_0 && (((rd_T23 t309 x7_1).f1) == a1_1)) = false := by simpa using c8))
      (try (have c8b2 : (((rd_T23 t309 x7_1).f0) == a1_0 && (((rd_T23 t309 x7_1).f1) == a1_1)) = false := by simpa using c8))
      (try (have c8b3 : ¬ (((rd_T23 t309 x7_1).f0) = a1_0 && (((rd_T23 t309 x7_1).f1) == a1_1)) := by simpa using c8))
      clear c8
      have H' := zz00 H
      clear H
      obtain ⟨Ao11, co11, eo11⟩ := Kd.R_slice HO_6.out
      subst eo11
      have p312 : 0 ≤ (x7_1 : Int) := zz31 (by first | (with_reducible assumption) | assumption)
      have q312 : x7_1 < (t309.length : Int) := zz31 (by first | (with_reducible assumption) | assumption)
      obtain ⟨ad312, e312, hx312_0, hx312_1⟩ := at_T23 (Kd.R_reads' HO_6.out).2.2 x7_1 p312 q312
      cases e312
      replace p312 := eq_true p312
      replace q312 := eq_true q312
      have hcz12_0 : wr.cell? ⟨gb308, 0, none⟩ = some (.int .i64 a1_0) := (zz18 BK308.out 0).trans rfl
      have hcz12_1 : wr.cell? ⟨gb308, 1, none⟩ = some (.bool a1_1) := (zz18 BK308.out 1).trans rfl
      have hfz12_0 := zz17 BK308.out 0
      have hfz12_1 := zz17 BK308.out 1
      go_wp2
      repeat (go_quiet (fail); try go_wp2)
      go_roundg k1
      case measure => have := HK1.out; omega
      case rel=>exact ⟨(wrap64 (x7_1 + 1)),(by first|rfl|(simp;done)|(simp [*];done)),H',⟨by have:=HK1.out;omega⟩,⟨by (with_reducible repeat (first|apply zz05|apply zz04|apply zz06));exact HO_6.out⟩,⟨by (with_reducible repeat (first|refine zz07 ?_ _|refine zz09 ?_|refine zz08 ?_ _));exact BK308.out⟩,⟨by repeat (first|(with_reducible first|exact HB.out|apply zz03|apply zz01|apply zz02|refine zz10 ?_ GE308.out)|exact HB.out)⟩⟩
    ·
     rw [if_neg c7] at H
     exact absurd H (by simp)
   ·
    rw [if_neg c6] at H
    have c6b0 : decide (x7_1 < (t309.length : Int)) = false := decide_eq_false c6
    clear c6
    simp only [zz15, zz16] at H
    obtain ⟨rfl, rfl⟩ := H
    obtain ⟨Ao13, co13, eo13⟩ := Kd.R_slice HO_6.out
    subst eo13
    go_wp2
    repeat (go_quiet (fail); try go_wp2)
    go_ret2
    exact ⟨by first|rfl|(simp [errW_none,errW_some] <;> rfl)|(simp [*,errW_none,errW_some] <;> rfl),by repeat (first|(with_reducible first|exact HB.out|apply zz03|apply zz01|apply zz02|refine zz10 ?_ GE308.out)|exact HB.out)⟩

def r03_Right.f (a0 : Int) : Option (Bool) := if a0 ≥ 0 then (some (decide (a0 ≤ 10001))) else (some false)
set_option maxHeartbeats 8000000 in
set_option maxRecDepth 100000 in
theorem r03_Right.calls (a0 : Int) (r : Bool) (w : World) (h : r03_Right.f a0 = some r) :
    Calls Tryd.prog 123 #[.int .i64 a0] w fun e w' => e = .returned (.bool r) ∧ Drawn0 w w' := by
  have H : (if a0 ≥ 0 then (some (decide (a0 ≤ 10001))) else (some false)) = some r := h
  clear h
  by_cases c2 : a0 ≥ 0
  · rw [if_pos c2] at H
    have c2b0 : decide (0 ≤ a0) = true := decide_eq_true c2
    clear c2
    obtain rfl := Option.some.inj H
    go_enter Tryd.func123, Tryd.ntmps123
    go_wp2
    go_ret
    exact ⟨by first | rfl | (simp; done) | (simp [*]; done), by repeat (first | exact Drawn0.refl _ | apply Drawn0.step)⟩
  · rw [if_neg c2] at H
    have c2b0 : decide (0 ≤ a0) = false := decide_eq_false c2
    clear c2
    obtain rfl := Option.some.inj H
    go_enter Tryd.func123, Tryd.ntmps123
    go_wp2
    go_ret
    exact ⟨by first | rfl | (simp; done) | (simp [*]; done), by repeat (first | exact Drawn0.refl _ | apply Drawn0.step)⟩

def r03_In.f (a0 : Int) : Option (Int × Int) := (r03_Right.f a0).bind fun t313 => (if t313 = true then ((r03_Is.f a0).bind fun t314 => (if t314 = true then (some (13, 0)) else (some (12, 0)))) else (some (0, 2)))
set_option maxHeartbeats 8000000 in
set_option maxRecDepth 100000 in
theorem r03_In.calls (a0 : Int) (r1 : Int) (r2 : Int) (w : World) (h : r03_In.f a0 = some (r1, r2)) :
  Calls Tryd.prog 89 #[.int .i64 a0] w fun e w' => e = .returned (.tuple #[.int .i64 r1, .int .i64 r2]) ∧ Drawn0 w w' := by
 have H : ((r03_Right.f a0).bind fun t313=>(if t313 = true then ((r03_Is.f a0).bind fun t314=>(if t314 = true then (some (13,0)) else (some (12,0)))) else (some (0,2)))) = some (r1,r2):=h
 clear h
 replace H := zz14.mp H
 obtain ⟨t313, A20, H⟩ := H
 replace H : (if t313 = true then ((r03_Is.f a0).bind fun t314 => (if t314 = true then (some (13, 0)) else (some (12, 0)))) else (some (0, 2))) = some (r1, r2) := H
 have A2 := zz00 A20
 clear A20
 by_cases c3 : t313 = true
 ·
  subst c3
  have H1 : ((r03_Is.f a0).bind fun t314 => (if t314 = true then (some (13, 0)) else (some (12, 0)))) = some (r1, r2) := by rw [if_pos rfl] at H; exact H
  clear H
  have H := H1
  clear H1
  replace H := zz14.mp H
  obtain ⟨t314, A40, H⟩ := H
  replace H : (if t314 = true then (some (13, 0)) else (some (12, 0))) = some (r1, r2) := H
  have A4 := zz00 A40
  clear A40
  by_cases c5 : t314 = true
  ·
   subst c5
   have H1 : (some (13, 0)) = some (r1, r2) := by rw [if_pos rfl] at H; exact H
   clear H
   have H := H1
   clear H1
   simp only [zz15, zz16] at H
   obtain ⟨rfl, rfl⟩ := H
   go_enter Tryd.func89, Tryd.ntmps89
   go_wp2_with (first|((with_reducible refine zz23 (f:=123) rfl ?_);refine zz25 (some 5) rfl rfl Tryd.func123 (by kernel_rfl) rfl #[.int .i64 a0] rfl (by (try simp only [List.map_toArray,List.map_cons,List.map_nil]);first|done|rfl|(simp only [List.length_drop,List.length_take];rfl)) ?_;(with_reducible refine (r03_Right.calls a0 true _ A2.out).mono ?_);rintro e w' ⟨rfl,⟨nd,rfl⟩⟩;refine ⟨_,rfl,?_⟩)|((with_reducible refine zz23 (f:=60) rfl ?_);refine zz25 (some 8) rfl rfl Tryd.func60 (by kernel_rfl) rfl #[.int .i64 a0] rfl (by (try simp only [List.map_toArray,List.map_cons,List.map_nil]);first|done|rfl|(simp only [List.length_drop,List.length_take];rfl)) ?_;(with_reducible refine (r03_Is.calls a0 true _ A4.out).mono ?_);rintro e w' ⟨rfl,⟨nd,rfl⟩⟩;refine ⟨_,rfl,?_⟩))
   go_ret2
   exact ⟨by first | rfl | (simp; done) | (simp [*]; done), by repeat (first | exact Drawn0.refl _ | apply Drawn0.step)⟩
  ·
   replace c5 := zz32.mpr c5
   subst c5
   have H1 : (some (12, 0)) = some (r1, r2) := by rw [if_neg (show ¬ (false = true) by decide)] at H; exact H
   clear H
   have H := H1
   clear H1
   simp only [zz15, zz16] at H
   obtain ⟨rfl, rfl⟩ := H
   go_enter Tryd.func89, Tryd.ntmps89
   go_wp2_with (first|((with_reducible refine zz23 (f:=123) rfl ?_);refine zz25 (some 5) rfl rfl Tryd.func123 (by kernel_rfl) rfl #[.int .i64 a0] rfl (by (try simp only [List.map_toArray,List.map_cons,List.map_nil]);first|done|rfl|(simp only [List.length_drop,List.length_take];rfl)) ?_;(with_reducible refine (r03_Right.calls a0 true _ A2.out).mono ?_);rintro e w' ⟨rfl,⟨nd,rfl⟩⟩;refine ⟨_,rfl,?_⟩)|((with_reducible refine zz23 (f:=60) rfl ?_);refine zz25 (some 8) rfl rfl Tryd.func60 (by kernel_rfl) rfl #[.int .i64 a0] rfl (by (try simp only [List.map_toArray,List.map_cons,List.map_nil]);first|done|rfl|(simp only [List.length_drop,List.length_take];rfl)) ?_;(with_reducible refine (r03_Is.calls a0 false _ A4.out).mono ?_);rintro e w' ⟨rfl,⟨nd,rfl⟩⟩;refine ⟨_,rfl,?_⟩))
   go_ret2
   exact ⟨by first | rfl | (simp; done) | (simp [*]; done), by repeat (first | exact Drawn0.refl _ | apply Drawn0.step)⟩
 ·
  replace c3 := zz32.mpr c3
  subst c3
  have H1 : (some (0, 2)) = some (r1, r2) := by rw [if_neg (show ¬ (false = true) by decide)] at H; exact H
  clear H
  have H := H1
  clear H1
  simp only [zz15, zz16] at H
  obtain ⟨rfl, rfl⟩ := H
  go_enter Tryd.func89, Tryd.ntmps89
  go_wp2_with (first|((with_reducible refine zz23 (f:=123) rfl ?_);refine zz25 (some 5) rfl rfl Tryd.func123 (by kernel_rfl) rfl #[.int .i64 a0] rfl (by (try simp only [List.map_toArray,List.map_cons,List.map_nil]);first|done|rfl|(simp only [List.length_drop,List.length_take];rfl)) ?_;(with_reducible refine (r03_Right.calls a0 false _ A2.out).mono ?_);rintro e w' ⟨rfl,⟨nd,rfl⟩⟩;refine ⟨_,rfl,?_⟩))
  go_ret2
  exact ⟨by first | rfl | (simp; done) | (simp [*]; done), by repeat (first | exact Drawn0.refl _ | apply Drawn0.step)⟩

def r01_Down.f (a0 : Int) (a1 : Int) : Option (Int) := if a1 = 0 then (none) else (if (Int.tmod a0 a1) < 0 then (some (wrap64 ((wrap64 (Int.tdiv a0 a1)) - 1))) else (some (wrap64 (Int.tdiv a0 a1))))
set_option maxHeartbeats 8000000 in
set_option maxRecDepth 100000 in
theorem r01_Down.calls (a0 : Int) (a1 : Int) (r : Int) (w : World) (h : r01_Down.f a0 a1 = some r) :
    Calls Tryd.prog 124 #[.int .i64 a0, .int .i64 a1] w fun e w' => e = .returned (.int .i64 r) ∧ Drawn0 w w' := by
  have H : (if a1 = 0 then (none) else (if (Int.tmod a0 a1) < 0 then (some (wrap64 ((wrap64 (Int.tdiv a0 a1)) - 1))) else (some (wrap64 (Int.tdiv a0 a1))))) = some r := h
  clear h
  by_cases c3 : a1 = 0
  · rw [if_pos c3] at H
    exact absurd H (by simp)
  · rw [if_neg c3] at H
    have c3b0 : (a1 == 0) = false := zz27.mpr c3
    have c3b1 : (a1 != 0) = true := zz28.mpr c3
    by_cases c4 : (Int.tmod a0 a1) < 0
    · rw [if_pos c4] at H
      have c4b0 : decide ((Int.tmod a0 a1) < 0) = true := decide_eq_true c4
      clear c4
      obtain rfl := Option.some.inj H
      go_enter Tryd.func124, Tryd.ntmps124
      go_wp2
      go_ret
      exact ⟨by first | rfl | (simp; done) | (simp [*]; done), by repeat (first | exact Drawn0.refl _ | apply Drawn0.step)⟩
    · rw [if_neg c4] at H
      have c4b0 : decide ((Int.tmod a0 a1) < 0) = false := decide_eq_false c4
      clear c4
      obtain rfl := Option.some.inj H
      go_enter Tryd.func124, Tryd.ntmps124
      go_wp2
      go_ret
      exact ⟨by first | rfl | (simp; done) | (simp [*]; done), by repeat (first | exact Drawn0.refl _ | apply Drawn0.step)⟩

def r03_Before.f (a0 : Int) : Option (Int × Int) := (r03_Right.f a0).bind fun t315 => (if t315 = true then ((r01_Down.f (wrap64 ((wrap64 (235 * a0)) - 234)) 19).bind fun t316 => (some (t316, 0))) else (some (0, 2)))
set_option maxHeartbeats 8000000 in
set_option maxRecDepth 100000 in
theorem r03_Before.calls (a0 : Int) (r1 : Int) (r2 : Int) (w : World) (h : r03_Before.f a0 = some (r1, r2)) :
  Calls Tryd.prog 90 #[.int .i64 a0] w fun e w' => e = .returned (.tuple #[.int .i64 r1, .int .i64 r2]) ∧ Drawn0 w w' := by
 have H : ((r03_Right.f a0).bind fun t315=>(if t315 = true then ((r01_Down.f (wrap64 ((wrap64 (235 * a0)) - 234)) 19).bind fun t316=>(some (t316,0))) else (some (0,2)))) = some (r1,r2):=h
 clear h
 replace H := zz14.mp H
 obtain ⟨t315, A20, H⟩ := H
 replace H : (if t315 = true then ((r01_Down.f (wrap64 ((wrap64 (235 * a0)) - 234)) 19).bind fun t316 => (some (t316, 0))) else (some (0, 2))) = some (r1, r2) := H
 have A2 := zz00 A20
 clear A20
 by_cases c3 : t315 = true
 ·
  subst c3
  have H1 : ((r01_Down.f (wrap64 ((wrap64 (235 * a0)) - 234)) 19).bind fun t316 => (some (t316, 0))) = some (r1, r2) := by rw [if_pos rfl] at H; exact H
  clear H
  have H := H1
  clear H1
  replace H := zz14.mp H
  obtain ⟨t316, A40, H⟩ := H
  replace H : (some (t316, 0)) = some (r1, r2) := H
  have A4 := zz00 A40
  clear A40
  simp only [zz15, zz16] at H
  obtain ⟨rfl, rfl⟩ := H
  go_enter Tryd.func90, Tryd.ntmps90
  go_wp2_with (first|((with_reducible refine zz23 (f:=123) rfl ?_);refine zz25 (some 5) rfl rfl Tryd.func123 (by kernel_rfl) rfl #[.int .i64 a0] rfl (by (try simp only [List.map_toArray,List.map_cons,List.map_nil]);first|done|rfl|(simp only [List.length_drop,List.length_take];rfl)) ?_;(with_reducible refine (r03_Right.calls a0 true _ A2.out).mono ?_);rintro e w' ⟨rfl,⟨nd,rfl⟩⟩;refine ⟨_,rfl,?_⟩)|((with_reducible refine zz23 (f:=124) rfl ?_);refine zz25 (some 10) rfl rfl Tryd.func124 (by kernel_rfl) rfl #[.int .i64 (wrap64 ((wrap64 (235 * a0)) - 234)),.int .i64 19] rfl (by (try simp only [List.map_toArray,List.map_cons,List.map_nil]);first|done|rfl|(simp only [List.length_drop,List.length_take];rfl)) ?_;(with_reducible refine (r01_Down.calls (wrap64 ((wrap64 (235 * a0)) - 234)) 19 t316 _ A4.out).mono ?_);rintro e w' ⟨rfl,⟨nd,rfl⟩⟩;refine ⟨_,rfl,?_⟩))
  go_ret2
  exact ⟨by first | rfl | (simp; done) | (simp [*]; done), by repeat (first | exact Drawn0.refl _ | apply Drawn0.step)⟩
 ·
  replace c3 := zz32.mpr c3
  subst c3
  have H1 : (some (0, 2)) = some (r1, r2) := by rw [if_neg (show ¬ (false = true) by decide)] at H; exact H
  clear H
  have H := H1
  clear H1
  simp only [zz15, zz16] at H
  obtain ⟨rfl, rfl⟩ := H
  go_enter Tryd.func90, Tryd.ntmps90
  go_wp2_with (first|((with_reducible refine zz23 (f:=123) rfl ?_);refine zz25 (some 5) rfl rfl Tryd.func123 (by kernel_rfl) rfl #[.int .i64 a0] rfl (by (try simp only [List.map_toArray,List.map_cons,List.map_nil]);first|done|rfl|(simp only [List.length_drop,List.length_take];rfl)) ?_;(with_reducible refine (r03_Right.calls a0 false _ A2.out).mono ?_);rintro e w' ⟨rfl,⟨nd,rfl⟩⟩;refine ⟨_,rfl,?_⟩))
  go_ret2
  exact ⟨by first | rfl | (simp; done) | (simp [*]; done), by repeat (first | exact Drawn0.refl _ | apply Drawn0.step)⟩

def r02_Split.f (a0 : Int) : Option (Int × Int) := (r01_Down.f a0 25920).bind fun t318 => ((r01_Left.f a0 25920).bind fun t319 => (some (t318, t319)))
set_option maxHeartbeats 8000000 in
set_option maxRecDepth 100000 in
theorem r02_Split.calls (a0 : Int) (r1 : Int) (r2 : Int) (w : World) (h : r02_Split.f a0 = some (r1, r2)) :
  Calls Tryd.prog 125 #[.int .i64 a0] w fun e w' => e = .returned (.agg #[.int .i64 r1, .int .i64 r2]) ∧ Below w.heap.size w w' := by
 have hu86 := Tryd.underlying86
 have HB := zz00 (Below.refl w.heap.size w)
 have H : ((r01_Down.f a0 25920).bind fun t318 => ((r01_Left.f a0 25920).bind fun t319 => (some (t318, t319)))) = some (r1, r2) := h
 clear h
 replace H := zz14.mp H
 obtain ⟨t318, A20, H⟩ := H
 replace H : ((r01_Left.f a0 25920).bind fun t319 => (some (t318, t319))) = some (r1, r2) := H
 have A2 := zz00 A20
 clear A20
 replace H := zz14.mp H
 obtain ⟨t319, A30, H⟩ := H
 replace H : (some (t318, t319)) = some (r1, r2) := H
 have A3 := zz00 A30
 clear A30
 simp only [zz15, zz16] at H
 obtain ⟨rfl, rfl⟩ := H
 go_enter Tryd.func125, Tryd.ntmps125
 go_wp2_with (first|((with_reducible refine zz24 (N:=2) rfl ?_);refine zz30 ?hg (N:=2) ?hd (cs:=#[.int .i64 0,.int .i64 0]) (t:=86) ?hr ?_;(case hd=>rfl);(case hg=>rfl);(case hr=>first|(go_simp;done)|(go_simp;rfl));intro gb317 hg w4 hbox hb;have n0_:=zz00 (zz21 (by repeat (first|(with_reducible first|exact HB.out|apply zz03|apply zz01|apply zz02)|exact HB.out)) hb);have n1_:=zz00 (hbox);have n2_:=zz00 ((by rw [hg];exact (zz22 (by repeat (first|(with_reducible first|exact HB.out|apply zz03|apply zz01|apply zz02)|exact HB.out))) : w.heap.size ≤ gb317));have n3_:=zz00 ((by rw [hg];exact (zz22 (by repeat (first|(with_reducible first|exact HB.out|apply zz03|apply zz01|apply zz02)|exact HB.out))) : w.heap.size ≤ gb317));clear HB;have HB:=n0_;have BK317:=n1_;have GW317:=n2_;have GE317:=n3_;clear n0_ n1_ n2_ n3_;clear hb hbox hg)|((with_reducible refine zz23 (f:=124) rfl ?_);refine zz25 (some 4) rfl rfl Tryd.func124 (by kernel_rfl) rfl #[.int .i64 a0,.int .i64 25920] rfl (by (try simp only [List.map_toArray,List.map_cons,List.map_nil]);first|done|rfl|(simp only [List.length_drop,List.length_take];rfl)) ?_;(with_reducible refine (r01_Down.calls a0 25920 t318 _ A2.out).mono ?_);rintro e w' ⟨rfl,⟨nd,rfl⟩⟩;refine ⟨_,rfl,?_⟩;(try (rw [drewN_self w4];generalize hq_ : World.drewN w4 _ = w4;have n0_ : Aside0 (w4.heap[gb317]? = some (.cells #[.int .i64 0,.int .i64 0] 86 (0,0))):=⟨by rw [← hq_];exact (by (with_reducible repeat (first|refine zz07 ?_ _|refine zz09 ?_|refine zz08 ?_ _));exact BK317.out)⟩;have n1_ : Aside0 (Below w.heap.size w w4):=⟨by rw [← hq_];exact (by repeat (first|(with_reducible first|exact HB.out|apply zz03|apply zz01|apply zz02|refine zz10 ?_ GE317.out)|exact HB.out))⟩;clear BK317 HB hq_;have BK317:=n0_;have HB:=n1_;clear n0_ n1_)))|((with_reducible refine zz23 (f:=56) rfl ?_);refine zz25 (some 6) rfl rfl Tryd.func56 (by kernel_rfl) rfl #[.int .i64 a0,.int .i64 25920] rfl (by (try simp only [List.map_toArray,List.map_cons,List.map_nil]);first|done|rfl|(simp only [List.length_drop,List.length_take];rfl)) ?_;(with_reducible refine (r01_Left.calls a0 25920 t319 _ A3.out).mono ?_);rintro e w' ⟨rfl,⟨nd,rfl⟩⟩;refine ⟨_,rfl,?_⟩;(try (rw [drewN_self w4];generalize hq_ : World.drewN w4 _ = w4;have n0_ : Aside0 (w4.heap[gb317]? = some (.cells #[.int .i64 0,.int .i64 0] 86 (0,0))):=⟨by rw [← hq_];exact (by (with_reducible repeat (first|refine zz07 ?_ _|refine zz09 ?_|refine zz08 ?_ _));exact BK317.out)⟩;have n1_ : Aside0 (Below w.heap.size w w4):=⟨by rw [← hq_];exact (by repeat (first|(with_reducible first|exact HB.out|apply zz03|apply zz01|apply zz02|refine zz10 ?_ GE317.out)|exact HB.out))⟩;clear BK317 HB hq_;have BK317:=n0_;have HB:=n1_;clear n0_ n1_));have hcz5_0 : w4.cell? ⟨gb317,0,none⟩ = some (.int .i64 0):=(zz18 BK317.out 0).trans rfl;have hcz5_1 : w4.cell? ⟨gb317,1,none⟩ = some (.int .i64 0):=(zz18 BK317.out 1).trans rfl;have hfz5_0:=zz17 BK317.out 0;have hfz5_1:=zz17 BK317.out 1))
 refine bodyPost_ret (results_cell_row rfl _ _ gb317 86 #[.int .i64 t318,.int .i64 t319] (0,0) _ rfl (by (with_reducible repeat (first|refine zz07 ?_ _|refine zz09 ?_|refine zz08 ?_ _));refine zz35 (cs:=#[.int .i64 t318,.int .i64 0]) ?_ 1 _ rfl;(with_reducible repeat (first|refine zz07 ?_ _|refine zz09 ?_|refine zz08 ?_ _));refine zz35 (cs:=#[.int .i64 0,.int .i64 0]) ?_ 0 _ rfl;(with_reducible repeat (first|refine zz07 ?_ _|refine zz09 ?_|refine zz08 ?_ _));exact BK317.out) Tryd.underlying86 rfl (by kernel_rfl)) rfl ?_
 exact ⟨by first|rfl|(simp [errW_none,errW_some] <;> rfl)|(simp [*,errW_none,errW_some] <;> rfl),by repeat (first|(with_reducible first|exact HB.out|apply zz03|apply zz01|apply zz02|refine zz10 ?_ GE317.out)|exact HB.out)⟩

def r04_Moon.f (a0 : Int) : Option (Int × Int × Int) := if a0 < (-200000) then (some (0, 0, 2)) else (if a0 > 200000 then (some (0, 0, 2)) else ((r02_Split.f (wrap64 (5604 + (wrap64 (765433 * a0))))).bind fun bt321 => (some (wrap64 (bt321.1 - 1373427), bt321.2, 0))))
set_option maxHeartbeats 8000000 in
set_option maxRecDepth 100000 in
theorem r04_Moon.calls (a0 : Int) (r1 : Int) (r2 : Int) (r3 : Int) (w : World) (h : r04_Moon.f a0 = some (r1, r2, r3)) :
  Calls Tryd.prog 91 #[.int .i64 a0] w fun e w' => e = .returned (.tuple #[.agg #[.int .i64 r1, .int .i64 r2], .int .i64 r3]) ∧ Below w.heap.size w w' := by
 have hu86 := Tryd.underlying86
 have HB := zz00 (Below.refl w.heap.size w)
 have H : (if a0 < (-200000) then (some (0,0,2)) else (if a0 > 200000 then (some (0,0,2)) else ((r02_Split.f (wrap64 (5604 + (wrap64 (765433 * a0))))).bind fun bt321=>(some (wrap64 (bt321.1 - 1373427),bt321.2,0))))) = some (r1,r2,r3):=h
 clear h
 by_cases c2 : a0 < (-200000)
 ·
  rw [if_pos c2] at H
  have c2b0 : decide (a0 < (-200000)) = true := decide_eq_true c2
  clear c2
  simp only [zz15, zz16] at H
  obtain ⟨rfl, rfl, rfl⟩ := H
  go_enter Tryd.func91, Tryd.ntmps91
  go_wp2_with (first|((with_reducible refine zz24 (N:=2) rfl ?_);refine zz30 ?hg (N:=2) ?hd (cs:=#[.int .i64 0,.int .i64 0]) (t:=86) ?hr ?_;(case hd=>rfl);(case hg=>rfl);(case hr=>first|(go_simp;done)|(go_simp;rfl));intro gb320 hg w3 hbox hb;have n0_:=zz00 (zz21 (by repeat (first|(with_reducible first|exact HB.out|apply zz03|apply zz01|apply zz02)|exact HB.out)) hb);have n1_:=zz00 (hbox);have n2_:=zz00 ((by rw [hg];exact (zz22 (by repeat (first|(with_reducible first|exact HB.out|apply zz03|apply zz01|apply zz02)|exact HB.out))) : w.heap.size ≤ gb320));have n3_:=zz00 ((by rw [hg];exact (zz22 (by repeat (first|(with_reducible first|exact HB.out|apply zz03|apply zz01|apply zz02)|exact HB.out))) : w.heap.size ≤ gb320));clear HB;have HB:=n0_;have BK320:=n1_;have GW320:=n2_;have GE320:=n3_;clear n0_ n1_ n2_ n3_;clear hb hbox hg;have hcz4_0 : w3.cell? ⟨gb320,0,none⟩ = some (.int .i64 0):=(zz18 BK320.out 0).trans rfl;have hcz4_1 : w3.cell? ⟨gb320,1,none⟩ = some (.int .i64 0):=(zz18 BK320.out 1).trans rfl;have hfz4_0:=zz17 BK320.out 0;have hfz4_1:=zz17 BK320.out 1))
  refine bodyPost_ret (results_ct rfl _ _ gb320 86 #[.int .i64 0,.int .i64 0] (0,0) _ rfl (by (with_reducible repeat (first|refine zz07 ?_ _|refine zz09 ?_|refine zz08 ?_ _));refine zz35 (cs:=#[.int .i64 0,.int .i64 0]) ?_ 1 _ rfl;(with_reducible repeat (first|refine zz07 ?_ _|refine zz09 ?_|refine zz08 ?_ _));refine zz35 (cs:=#[.int .i64 0,.int .i64 0]) ?_ 0 _ rfl;(with_reducible repeat (first|refine zz07 ?_ _|refine zz09 ?_|refine zz08 ?_ _));exact BK320.out) Tryd.underlying86 rfl (by kernel_rfl)) rfl ?_
  exact ⟨by first|rfl|(simp [errW_none,errW_some] <;> rfl)|(simp [*,errW_none,errW_some] <;> rfl),by repeat (first|(with_reducible first|exact HB.out|apply zz03|apply zz01|apply zz02|refine zz10 ?_ GE320.out)|exact HB.out)⟩
 ·
  rw [if_neg c2] at H
  have c2b0 : decide (a0 < (-200000)) = false := decide_eq_false c2
  clear c2
  by_cases c5 : a0 > 200000
  ·
   rw [if_pos c5] at H
   have c5b0 : decide (200000 < a0) = true := decide_eq_true c5
   clear c5
   simp only [zz15, zz16] at H
   obtain ⟨rfl, rfl, rfl⟩ := H
   go_enter Tryd.func91, Tryd.ntmps91
   go_wp2_with (first|((with_reducible refine zz24 (N:=2) rfl ?_);refine zz30 ?hg (N:=2) ?hd (cs:=#[.int .i64 0,.int .i64 0]) (t:=86) ?hr ?_;(case hd=>rfl);(case hg=>rfl);(case hr=>first|(go_simp;done)|(go_simp;rfl));intro gb320 hg w6 hbox hb;have n0_:=zz00 (zz21 (by repeat (first|(with_reducible first|exact HB.out|apply zz03|apply zz01|apply zz02)|exact HB.out)) hb);have n1_:=zz00 (hbox);have n2_:=zz00 ((by rw [hg];exact (zz22 (by repeat (first|(with_reducible first|exact HB.out|apply zz03|apply zz01|apply zz02)|exact HB.out))) : w.heap.size ≤ gb320));have n3_:=zz00 ((by rw [hg];exact (zz22 (by repeat (first|(with_reducible first|exact HB.out|apply zz03|apply zz01|apply zz02)|exact HB.out))) : w.heap.size ≤ gb320));clear HB;have HB:=n0_;have BK320:=n1_;have GW320:=n2_;have GE320:=n3_;clear n0_ n1_ n2_ n3_;clear hb hbox hg;have hcz7_0 : w6.cell? ⟨gb320,0,none⟩ = some (.int .i64 0):=(zz18 BK320.out 0).trans rfl;have hcz7_1 : w6.cell? ⟨gb320,1,none⟩ = some (.int .i64 0):=(zz18 BK320.out 1).trans rfl;have hfz7_0:=zz17 BK320.out 0;have hfz7_1:=zz17 BK320.out 1))
   refine bodyPost_ret (results_ct rfl _ _ gb320 86 #[.int .i64 0,.int .i64 0] (0,0) _ rfl (by (with_reducible repeat (first|refine zz07 ?_ _|refine zz09 ?_|refine zz08 ?_ _));refine zz35 (cs:=#[.int .i64 0,.int .i64 0]) ?_ 1 _ rfl;(with_reducible repeat (first|refine zz07 ?_ _|refine zz09 ?_|refine zz08 ?_ _));refine zz35 (cs:=#[.int .i64 0,.int .i64 0]) ?_ 0 _ rfl;(with_reducible repeat (first|refine zz07 ?_ _|refine zz09 ?_|refine zz08 ?_ _));exact BK320.out) Tryd.underlying86 rfl (by kernel_rfl)) rfl ?_
   exact ⟨by first|rfl|(simp [errW_none,errW_some] <;> rfl)|(simp [*,errW_none,errW_some] <;> rfl),by repeat (first|(with_reducible first|exact HB.out|apply zz03|apply zz01|apply zz02|refine zz10 ?_ GE320.out)|exact HB.out)⟩
  ·
   rw [if_neg c5] at H
   have c5b0 : decide (200000 < a0) = false := decide_eq_false c5
   clear c5
   replace H := zz14.mp H
   obtain ⟨⟨t321, t322⟩, A80, H⟩ := H
   replace H : (some (wrap64 (t321 - 1373427), t322, 0)) = some (r1, r2, r3) := H
   have A8 := zz00 A80
   clear A80
   simp only [zz15, zz16] at H
   obtain ⟨rfl, rfl, rfl⟩ := H
   go_enter Tryd.func91, Tryd.ntmps91
   go_wp2_with (first|((with_reducible refine zz24 (N:=2) rfl ?_);refine zz30 ?hg (N:=2) ?hd (cs:=#[.int .i64 0,.int .i64 0]) (t:=86) ?hr ?_;(case hd=>rfl);(case hg=>rfl);(case hr=>first|(go_simp;done)|(go_simp;rfl));intro gb320 hg w9 hbox hb;have n0_:=zz00 (zz21 (by repeat (first|(with_reducible first|exact HB.out|apply zz03|apply zz01|apply zz02)|exact HB.out)) hb);have n1_:=zz00 (hbox);have n2_:=zz00 ((by rw [hg];exact (zz22 (by repeat (first|(with_reducible first|exact HB.out|apply zz03|apply zz01|apply zz02)|exact HB.out))) : w.heap.size ≤ gb320));have n3_:=zz00 ((by rw [hg];exact (zz22 (by repeat (first|(with_reducible first|exact HB.out|apply zz03|apply zz01|apply zz02)|exact HB.out))) : w.heap.size ≤ gb320));clear HB;have HB:=n0_;have BK320:=n1_;have GW320:=n2_;have GE320:=n3_;clear n0_ n1_ n2_ n3_;clear hb hbox hg)|((with_reducible refine zz23 (f:=125) rfl ?_);refine zz25 (some 15) rfl rfl Tryd.func125 (by kernel_rfl) rfl #[.int .i64 (wrap64 (5604 + (wrap64 (765433 * a0))))] rfl (by (try simp only [List.map_toArray,List.map_cons,List.map_nil]);first|done|rfl|(simp only [List.length_drop,List.length_take];rfl)) ?_;(with_reducible refine (r02_Split.calls (wrap64 (5604 + (wrap64 (765433 * a0)))) t321 t322 _ A8.out).mono ?_);rintro e w10 ⟨rfl,hb⟩;refine ⟨_,rfl,?_⟩;have n0_:=zz00 (zz34 (g:=gb320) (o:=.cells #[.int .i64 0,.int .i64 0] 86 (0,0)) (by (with_reducible repeat (first|refine zz07 ?_ _|refine zz09 ?_|refine zz08 ?_ _));exact BK320.out) hb);have n1_:=zz00 (zz21 (by repeat (first|(with_reducible first|exact HB.out|apply zz03|apply zz01|apply zz02|refine zz10 ?_ GE320.out)|exact HB.out)) hb);clear BK320;clear HB;have BK320:=n0_;have HB:=n1_;clear n0_ n1_;(try clear hb);(try clear hb2);(try clear hk);(try clear hi))|((with_reducible refine zz24 (N:=4) rfl ?_);refine zz30 ?hg (N:=4) ?hd (cs:=#[.int .i64 0,.int .i64 0]) (t:=86) ?hr ?_;(case hd=>rfl);(case hg=>rfl);(case hr=>first|(go_simp;done)|(go_simp;rfl));intro gb323 hg w11 hbox hb;have n0_:=zz00 (zz34 (g:=gb320) (o:=.cells #[.int .i64 0,.int .i64 0] 86 (0,0)) (by (with_reducible repeat (first|refine zz07 ?_ _|refine zz09 ?_|refine zz08 ?_ _));exact BK320.out) hb);have n1_:=zz00 (zz21 (by repeat (first|(with_reducible first|exact HB.out|apply zz03|apply zz01|apply zz02|refine zz10 ?_ GE320.out)|exact HB.out)) hb);have n2_:=zz00 (hbox);have n3_:=zz00 ((by rw [hg];exact (zz22 (by repeat (first|(with_reducible first|exact HB.out|apply zz03|apply zz01|apply zz02|refine zz10 ?_ GE320.out)|exact HB.out))) : w.heap.size ≤ gb323));have n4_:=zz00 ((by rw [hg];exact (zz22 (by repeat (first|(with_reducible first|exact HB.out|apply zz03|apply zz01|apply zz02|refine zz10 ?_ GE320.out)|exact HB.out))) : w.heap.size ≤ gb323));have n5_:=zz00 ((by rw [hg];exact Nat.ne_of_lt (blk_lt (g:=gb320) (o:=.cells #[.int .i64 0,.int .i64 0] 86 (0,0)) (by (with_reducible repeat (first|refine zz07 ?_ _|refine zz09 ?_|refine zz08 ?_ _));exact BK320.out)) : gb320 ≠ gb323));have n6_:=zz00 ((by rw [hg];exact Nat.ne_of_gt (blk_lt (g:=gb320) (o:=.cells #[.int .i64 0,.int .i64 0] 86 (0,0)) (by (with_reducible repeat (first|refine zz07 ?_ _|refine zz09 ?_|refine zz08 ?_ _));exact BK320.out)) : gb323 ≠ gb320));clear BK320;clear HB;have BK320:=n0_;have HB:=n1_;have BK323:=n2_;have GW323:=n3_;have GE323:=n4_;have NB320_323:=n5_;have NB323_320:=n6_;clear n0_ n1_ n2_ n3_ n4_ n5_ n6_;clear hb hbox hg;have hnb12:=NB323_320.out;have hnc12:=NB320_323.out;have hcz13_0 : w11.cell? ⟨gb323,0,none⟩ = some (.int .i64 0):=(zz18 BK323.out 0).trans rfl;have hcz13_1 : w11.cell? ⟨gb323,1,none⟩ = some (.int .i64 0):=(zz18 BK323.out 1).trans rfl;have hfz13_0:=zz17 BK323.out 0;have hfz13_1:=zz17 BK323.out 1;have hcz14_0 : w11.cell? ⟨gb320,0,none⟩ = some (.int .i64 0):=(zz18 BK320.out 0).trans rfl;have hcz14_1 : w11.cell? ⟨gb320,1,none⟩ = some (.int .i64 0):=(zz18 BK320.out 1).trans rfl;have hfz14_0:=zz17 BK320.out 0;have hfz14_1:=zz17 BK320.out 1))
   refine bodyPost_ret (results_ct rfl _ _ gb320 86 #[.int .i64 (wrap64 (t321 - 1373427)),.int .i64 t322] (0,0) _ rfl (by (with_reducible repeat (first|refine zz07 ?_ _|refine zz09 ?_|refine zz08 ?_ _));refine zz35 (cs:=#[.int .i64 (wrap64 (t321 - 1373427)),.int .i64 0]) ?_ 1 _ rfl;(with_reducible repeat (first|refine zz07 ?_ _|refine zz09 ?_|refine zz08 ?_ _));refine zz35 (cs:=#[.int .i64 0,.int .i64 0]) ?_ 0 _ rfl;(with_reducible repeat (first|refine zz07 ?_ _|refine zz09 ?_|refine zz08 ?_ _));refine zz33 ?_ NB320_323.out _;(with_reducible repeat (first|refine zz07 ?_ _|refine zz09 ?_|refine zz08 ?_ _));refine zz33 ?_ NB320_323.out _;(with_reducible repeat (first|refine zz07 ?_ _|refine zz09 ?_|refine zz08 ?_ _));exact BK320.out) Tryd.underlying86 rfl (by kernel_rfl)) rfl ?_
   exact ⟨by first|rfl|(simp [errW_none,errW_some] <;> rfl)|(simp [*,errW_none,errW_some] <;> rfl),by repeat (first|(with_reducible first|exact HB.out|apply zz03|apply zz01|apply zz02|refine zz10 ?_ GE320.out|refine zz10 ?_ GE323.out)|exact HB.out)⟩

end Go.Proofs.YtflpddhoiafhcaaDoor.T
end

section
-- Written by wip/hprint.py of this repo (holes typed by hand, all else by a program) over the seat YtflpddhoiafhcaaDoor.
namespace Go.Proofs.YtflpddhoiafhcaaDoor.T
open Go.Proofs.YtflpddhoiafhcaaDoor.H
open Go.RowKit Go.Proofs.YtflpddhoiafhcaaDoorW.PrintWords Go.Proofs.YtflpddhoiafhcaaDoorW.PrintLast Go.Proofs.YtflpddhoiafhcaaDoorW.PrintMore
attribute [local go_sem] max2_int min2_int max_two min_two max_three min_three max_four min_four   -- for this text's walks alone
set_option linter.unusedVariables false
set_option linter.unusedSimpArgs false

def r04_Of.j0 : Nat → Int → Int → Bool → Option (Int × Int × Int)
  | 0, _, _, _ => none
  | k + 1, x0, x1, x25 => if x25 = true then (some (0, 0, 3)) else ((r03_Before.f x0).bind fun bt327 => ((r04_Moon.f (wrap64 ((wrap64 (bt327.1 + x1)) - 1))).bind fun bt329 => (some (bt329.1, bt329.2.1, bt329.2.2))))
def r04_Of.f (k : Nat) (a0 : Int) (a1 : Int) : Option (Int × Int × Int) := (r03_In.f a0).bind fun bt325 => (if bt325.2 = 0 then (if a1 < 1 then (r04_Of.j0 k a0 a1 true) else (r04_Of.j0 k a0 a1 (decide (a1 > bt325.1)))) else (some (0, 0, bt325.2)))
set_option maxHeartbeats 8000000 in
set_option maxRecDepth 100000 in
theorem r04_Of.calls (k : Nat) (a0 : Int) (a1 : Int) (r1 : Int) (r2 : Int) (r3 : Int) (w : World) (h : r04_Of.f k a0 a1 = some (r1, r2, r3)) :
  Calls Tryd.prog 58 #[.int .i64 a0, .int .i64 a1] w fun e w' => e = .returned (.tuple #[.agg #[.int .i64 r1, .int .i64 r2], .int .i64 r3]) ∧ Below w.heap.size w w' := by
 have hu86 := Tryd.underlying86
 have HB := zz00 (Below.refl w.heap.size w)
 have H : ((r03_In.f a0).bind fun bt325=>(if bt325.2 = 0 then (if a1 < 1 then (r04_Of.j0 k a0 a1 true) else (r04_Of.j0 k a0 a1 (decide (a1 > bt325.1)))) else (some (0,0,bt325.2)))) = some (r1,r2,r3):=h
 clear h
 replace H := zz14.mp H
 obtain ⟨⟨t325, t326⟩, A30, H⟩ := H
 replace H : (if t326 = 0 then (if a1 < 1 then (r04_Of.j0 k a0 a1 true) else (r04_Of.j0 k a0 a1 (decide (a1 > t325)))) else (some (0, 0, t326))) = some (r1, r2, r3) := H
 have A3 := zz00 A30
 clear A30
 by_cases c4 : t326 = 0
 ·
  rw [if_pos c4] at H
  have c4b0 : (t326 == 0) = true := zz29.mpr c4
  have c4b1 : (t326 != 0) = false := zz26.mpr c4
  clear c4
  have HC5 := zz00 H
  clear H
  go_enter Tryd.func58, Tryd.ntmps58
  go_upto_region 4 with (first|((with_reducible refine zz24 (N:=4) rfl ?_);refine zz30 ?hg (N:=4) ?hd (cs:=#[.int .i64 0,.int .i64 0]) (t:=86) ?hr ?_;(case hd=>rfl);(case hg=>rfl);(case hr=>first|(go_simp;done)|(go_simp;rfl));intro gb324 hg w6 hbox hb;have n0_:=zz00 (zz21 (by repeat (first|(with_reducible first|exact HB.out|apply zz03|apply zz01|apply zz02)|exact HB.out)) hb);have n1_:=zz00 (hbox);have n2_:=zz00 ((by rw [hg];exact (zz22 (by repeat (first|(with_reducible first|exact HB.out|apply zz03|apply zz01|apply zz02)|exact HB.out))) : w.heap.size ≤ gb324));have n3_:=zz00 ((by rw [hg];exact (zz22 (by repeat (first|(with_reducible first|exact HB.out|apply zz03|apply zz01|apply zz02)|exact HB.out))) : w.heap.size ≤ gb324));clear HB;have HB:=n0_;have BK324:=n1_;have GW324:=n2_;have GE324:=n3_;clear n0_ n1_ n2_ n3_;clear hb hbox hg)|((with_reducible refine zz23 (f:=89) rfl ?_);refine zz25 (some 12) rfl rfl Tryd.func89 (by kernel_rfl) rfl #[.int .i64 a0] rfl (by (try simp only [List.map_toArray,List.map_cons,List.map_nil]);first|done|rfl|(simp only [List.length_drop,List.length_take];rfl)) ?_;(with_reducible refine (r03_In.calls a0 t325 t326 _ A3.out).mono ?_);rintro e w' ⟨rfl,⟨nd,rfl⟩⟩;refine ⟨_,rfl,?_⟩))
  (try simp only [Act.put, zz11, zz12, zz13])
  go_cut [25] (fun v25 wc=>∃ (kq : Nat) (x25_4 : Bool),v25 = .bool x25_4 ∧ Aside0 (r04_Of.j0 kq a0 a1 x25_4 = some (r1,r2,r3)) ∧ Aside0 (kq ≤ k) ∧ Aside0 (wc.heap[gb324]? = some (.cells #[.int .i64 0,.int .i64 0] 86 (0,0))) ∧ Aside0 (Below w.heap.size w wc))
  case first =>
   have H := HC5.out
   clear HC5
   by_cases c7 : a1 < 1
   ·
    rw [if_pos c7] at H
    have c7b0 : decide (a1 < 1) = true := decide_eq_true c7
    clear c7
    (first | rw [c7b0] | (simp only [i64_w, i32_w]; rw [c7b0]) | skip)
    have H' := zz00 H
    clear H
    go_wp2
    go_meet
    case rel=>exact ⟨_,(true),(by first|rfl|(simp;done)|(simp [*];done)),H',⟨by first|omega|exact Nat.le_refl _⟩,⟨by (with_reducible repeat (first|refine zz07 ?_ _|refine zz09 ?_|refine zz08 ?_ _));exact BK324.out⟩,⟨by repeat (first|(with_reducible first|exact HB.out|apply zz03|apply zz01|apply zz02|refine zz10 ?_ GE324.out)|exact HB.out)⟩⟩
   ·
    rw [if_neg c7] at H
    have c7b0 : decide (a1 < 1) = false := decide_eq_false c7
    clear c7
    (first | rw [c7b0] | (simp only [i64_w, i32_w]; rw [c7b0]) | skip)
    have H' := zz00 H
    clear H
    go_wp2
    go_meet
    case rel=>exact ⟨_,(decide (a1 > t325)),(by first|rfl|(simp;done)|(simp [*];done)),H',⟨by first|omega|exact Nat.le_refl _⟩,⟨by (with_reducible repeat (first|refine zz07 ?_ _|refine zz09 ?_|refine zz08 ?_ _));exact BK324.out⟩,⟨by repeat (first|(with_reducible first|exact HB.out|apply zz03|apply zz01|apply zz02|refine zz10 ?_ GE324.out)|exact HB.out)⟩⟩
  case rest =>
   clear HC5
   try clear p2
   try clear c4
   try clear c4b0
   try clear c4b1
   try clear c5
   try clear c7
   try clear c7b0
   obtain ⟨kq, x25_4, rfl, HA, HJ4, BK324, HB⟩ := hcut
   cases kq with
   | zero => exact absurd HA.out (by simp [r04_Of.j0])
   | succ kj4 =>
    have H := HA.out
    clear HA
    simp only [r04_Of.j0] at H
    by_cases c8 : x25_4 = true
    ·
     subst c8
     have H1 : (some (0, 0, 3)) = some (r1, r2, r3) := by rw [if_pos rfl] at H; exact H
     clear H
     have H := H1
     clear H1
     simp only [zz15, zz16] at H
     obtain ⟨rfl, rfl, rfl⟩ := H
     have hcz9_0 : wc.cell? ⟨gb324, 0, none⟩ = some (.int .i64 0) := (zz18 BK324.out 0).trans rfl
     have hcz9_1 : wc.cell? ⟨gb324, 1, none⟩ = some (.int .i64 0) := (zz18 BK324.out 1).trans rfl
     have hfz9_0 := zz17 BK324.out 0
     have hfz9_1 := zz17 BK324.out 1
     go_wp2
     refine bodyPost_ret (results_ct rfl _ _ gb324 86 #[.int .i64 0,.int .i64 0] (0,0) _ rfl (by (with_reducible repeat (first|refine zz07 ?_ _|refine zz09 ?_|refine zz08 ?_ _));refine zz35 (cs:=#[.int .i64 0,.int .i64 0]) ?_ 1 _ rfl;(with_reducible repeat (first|refine zz07 ?_ _|refine zz09 ?_|refine zz08 ?_ _));refine zz35 (cs:=#[.int .i64 0,.int .i64 0]) ?_ 0 _ rfl;(with_reducible repeat (first|refine zz07 ?_ _|refine zz09 ?_|refine zz08 ?_ _));exact BK324.out) Tryd.underlying86 rfl (by kernel_rfl)) rfl ?_
     exact ⟨by first|rfl|(simp [errW_none,errW_some] <;> rfl)|(simp [*,errW_none,errW_some] <;> rfl),by repeat (first|(with_reducible first|exact HB.out|apply zz03|apply zz01|apply zz02|refine zz10 ?_ GE324.out)|exact HB.out)⟩
    ·
     replace c8 := zz32.mpr c8
     subst c8
     have H1 : ((r03_Before.f a0).bind fun bt327=>((r04_Moon.f (wrap64 ((wrap64 (bt327.1 + a1)) - 1))).bind fun bt329=>(some (bt329.1,bt329.2.1,bt329.2.2)))) = some (r1,r2,r3):=by rw [if_neg (show ¬ (false = true) by decide)] at H;exact H
     clear H
     have H := H1
     clear H1
     replace H := zz14.mp H
     obtain ⟨⟨t327, t328⟩, A100, H⟩ := H
     replace H : ((r04_Moon.f (wrap64 ((wrap64 (t327 + a1)) - 1))).bind fun bt329 => (some (bt329.1, bt329.2.1, bt329.2.2))) = some (r1, r2, r3) := H
     have A10 := zz00 A100
     clear A100
     replace H := zz14.mp H
     obtain ⟨⟨t329, t330, t331⟩, A110, H⟩ := H
     replace H : (some (t329, t330, t331)) = some (r1, r2, r3) := H
     have A11 := zz00 A110
     clear A110
     simp only [zz15, zz16] at H
     obtain ⟨rfl, rfl, rfl⟩ := H
     go_wp2_with (first|((with_reducible refine zz23 (f:=90) rfl ?_);refine zz25 (some 29) rfl rfl Tryd.func90 (by kernel_rfl) rfl #[.int .i64 a0] rfl (by (try simp only [List.map_toArray,List.map_cons,List.map_nil]);first|done|rfl|(simp only [List.length_drop,List.length_take];rfl)) ?_;(with_reducible refine (r03_Before.calls a0 t327 t328 _ A10.out).mono ?_);rintro e w' ⟨rfl,⟨nd,rfl⟩⟩;refine ⟨_,rfl,?_⟩;(try (rw [drewN_self wc];generalize hq_ : World.drewN wc _ = wc;have n0_ : Aside0 (wc.heap[gb324]? = some (.cells #[.int .i64 0,.int .i64 0] 86 (0,0))):=⟨by rw [← hq_];exact (by (with_reducible repeat (first|refine zz07 ?_ _|refine zz09 ?_|refine zz08 ?_ _));exact BK324.out)⟩;have n1_ : Aside0 (Below w.heap.size w wc):=⟨by rw [← hq_];exact (by repeat (first|(with_reducible first|exact HB.out|apply zz03|apply zz01|apply zz02|refine zz10 ?_ GE324.out)|exact HB.out))⟩;clear BK324 HB hq_;have BK324:=n0_;have HB:=n1_;clear n0_ n1_)))|((with_reducible refine zz23 (f:=91) rfl ?_);refine zz25 (some 36) rfl rfl Tryd.func91 (by kernel_rfl) rfl #[.int .i64 (wrap64 ((wrap64 (t327 + a1)) - 1))] rfl (by (try simp only [List.map_toArray,List.map_cons,List.map_nil]);first|done|rfl|(simp only [List.length_drop,List.length_take];rfl)) ?_;(with_reducible refine (r04_Moon.calls (wrap64 ((wrap64 (t327 + a1)) - 1)) t329 t330 t331 _ A11.out).mono ?_);rintro e w12 ⟨rfl,hb⟩;refine ⟨_,rfl,?_⟩;have n0_:=zz00 (zz34 (g:=gb324) (o:=.cells #[.int .i64 0,.int .i64 0] 86 (0,0)) (by (with_reducible repeat (first|refine zz07 ?_ _|refine zz09 ?_|refine zz08 ?_ _));exact BK324.out) hb);have n1_:=zz00 (zz21 (by repeat (first|(with_reducible first|exact HB.out|apply zz03|apply zz01|apply zz02|refine zz10 ?_ GE324.out)|exact HB.out)) hb);clear BK324;clear HB;have BK324:=n0_;have HB:=n1_;clear n0_ n1_;(try clear hb);(try clear hb2);(try clear hk);(try clear hi);have hcz13_0 : w12.cell? ⟨gb324,0,none⟩ = some (.int .i64 0):=(zz18 BK324.out 0).trans rfl;have hcz13_1 : w12.cell? ⟨gb324,1,none⟩ = some (.int .i64 0):=(zz18 BK324.out 1).trans rfl;have hfz13_0:=zz17 BK324.out 0;have hfz13_1:=zz17 BK324.out 1))
     refine bodyPost_ret (results_ct rfl _ _ gb324 86 #[.int .i64 t329,.int .i64 t330] (0,0) _ rfl (by (with_reducible repeat (first|refine zz07 ?_ _|refine zz09 ?_|refine zz08 ?_ _));refine zz35 (cs:=#[.int .i64 t329,.int .i64 0]) ?_ 1 _ rfl;(with_reducible repeat (first|refine zz07 ?_ _|refine zz09 ?_|refine zz08 ?_ _));refine zz35 (cs:=#[.int .i64 0,.int .i64 0]) ?_ 0 _ rfl;(with_reducible repeat (first|refine zz07 ?_ _|refine zz09 ?_|refine zz08 ?_ _));exact BK324.out) Tryd.underlying86 rfl (by kernel_rfl)) rfl ?_
     exact ⟨by first|rfl|(simp [errW_none,errW_some] <;> rfl)|(simp [*,errW_none,errW_some] <;> rfl),by repeat (first|(with_reducible first|exact HB.out|apply zz03|apply zz01|apply zz02|refine zz10 ?_ GE324.out)|exact HB.out)⟩
 ·
  rw [if_neg c4] at H
  have c4b0 : (t326 == 0) = false := zz27.mpr c4
  have c4b1 : (t326 != 0) = true := zz28.mpr c4
  simp only [zz15, zz16] at H
  obtain ⟨rfl, rfl, rfl⟩ := H
  go_enter Tryd.func58, Tryd.ntmps58
  go_wp2_with (first|((with_reducible refine zz24 (N:=4) rfl ?_);refine zz30 ?hg (N:=4) ?hd (cs:=#[.int .i64 0,.int .i64 0]) (t:=86) ?hr ?_;(case hd=>rfl);(case hg=>rfl);(case hr=>first|(go_simp;done)|(go_simp;rfl));intro gb324 hg w14 hbox hb;have n0_:=zz00 (zz21 (by repeat (first|(with_reducible first|exact HB.out|apply zz03|apply zz01|apply zz02)|exact HB.out)) hb);have n1_:=zz00 (hbox);have n2_:=zz00 ((by rw [hg];exact (zz22 (by repeat (first|(with_reducible first|exact HB.out|apply zz03|apply zz01|apply zz02)|exact HB.out))) : w.heap.size ≤ gb324));have n3_:=zz00 ((by rw [hg];exact (zz22 (by repeat (first|(with_reducible first|exact HB.out|apply zz03|apply zz01|apply zz02)|exact HB.out))) : w.heap.size ≤ gb324));clear HB;have HB:=n0_;have BK324:=n1_;have GW324:=n2_;have GE324:=n3_;clear n0_ n1_ n2_ n3_;clear hb hbox hg)|((with_reducible refine zz23 (f:=89) rfl ?_);refine zz25 (some 12) rfl rfl Tryd.func89 (by kernel_rfl) rfl #[.int .i64 a0] rfl (by (try simp only [List.map_toArray,List.map_cons,List.map_nil]);first|done|rfl|(simp only [List.length_drop,List.length_take];rfl)) ?_;(with_reducible refine (r03_In.calls a0 t325 t326 _ A3.out).mono ?_);rintro e w' ⟨rfl,⟨nd,rfl⟩⟩;refine ⟨_,rfl,?_⟩;(try (rw [drewN_self w14];generalize hq_ : World.drewN w14 _ = w14;have n0_ : Aside0 (w14.heap[gb324]? = some (.cells #[.int .i64 0,.int .i64 0] 86 (0,0))):=⟨by rw [← hq_];exact (by (with_reducible repeat (first|refine zz07 ?_ _|refine zz09 ?_|refine zz08 ?_ _));exact BK324.out)⟩;have n1_ : Aside0 (Below w.heap.size w w14):=⟨by rw [← hq_];exact (by repeat (first|(with_reducible first|exact HB.out|apply zz03|apply zz01|apply zz02|refine zz10 ?_ GE324.out)|exact HB.out))⟩;clear BK324 HB hq_;have BK324:=n0_;have HB:=n1_;clear n0_ n1_));have hcz15_0 : w14.cell? ⟨gb324,0,none⟩ = some (.int .i64 0):=(zz18 BK324.out 0).trans rfl;have hcz15_1 : w14.cell? ⟨gb324,1,none⟩ = some (.int .i64 0):=(zz18 BK324.out 1).trans rfl;have hfz15_0:=zz17 BK324.out 0;have hfz15_1:=zz17 BK324.out 1))
  refine bodyPost_ret (results_ct rfl _ _ gb324 86 #[.int .i64 0,.int .i64 0] (0,0) _ rfl (by (with_reducible repeat (first|refine zz07 ?_ _|refine zz09 ?_|refine zz08 ?_ _));refine zz35 (cs:=#[.int .i64 0,.int .i64 0]) ?_ 1 _ rfl;(with_reducible repeat (first|refine zz07 ?_ _|refine zz09 ?_|refine zz08 ?_ _));refine zz35 (cs:=#[.int .i64 0,.int .i64 0]) ?_ 0 _ rfl;(with_reducible repeat (first|refine zz07 ?_ _|refine zz09 ?_|refine zz08 ?_ _));exact BK324.out) Tryd.underlying86 rfl (by kernel_rfl)) rfl ?_
  exact ⟨by first|rfl|(simp [errW_none,errW_some] <;> rfl)|(simp [*,errW_none,errW_some] <;> rfl),by repeat (first|(with_reducible first|exact HB.out|apply zz03|apply zz01|apply zz02|refine zz10 ?_ GE324.out)|exact HB.out)⟩

def r04_Weekday.f (a0 : Int) : Option (Int) := (r01_Left.f a0 7).bind fun t332 => (some t332)
set_option maxHeartbeats 8000000 in
set_option maxRecDepth 100000 in
theorem r04_Weekday.calls (a0 : Int) (r : Int) (w : World) (h : r04_Weekday.f a0 = some r) :
  Calls Tryd.prog 32 #[.int .i64 a0] w fun e w' => e = .returned (.int .i64 r) ∧ Drawn0 w w' := by
 have H : ((r01_Left.f a0 7).bind fun t332 => (some t332)) = some r := h
 clear h
 replace H := zz14.mp H
 obtain ⟨t332, A20, H⟩ := H
 replace H : (some t332) = some r := H
 have A2 := zz00 A20
 clear A20
 obtain rfl := Option.some.inj H
 go_enter Tryd.func32, Tryd.ntmps32
 go_wp2_with (first|((with_reducible refine zz23 (f:=56) rfl ?_);refine zz25 (some 4) rfl rfl Tryd.func56 (by kernel_rfl) rfl #[.int .i64 a0,.int .i64 7] rfl (by (try simp only [List.map_toArray,List.map_cons,List.map_nil]);first|done|rfl|(simp only [List.length_drop,List.length_take];rfl)) ?_;(with_reducible refine (r01_Left.calls a0 7 t332 _ A2.out).mono ?_);rintro e w' ⟨rfl,⟨nd,rfl⟩⟩;refine ⟨_,rfl,?_⟩))
 go_ret
 exact ⟨by first | rfl | (simp; done) | (simp [*]; done), by repeat (first | exact Drawn0.refl _ | apply Drawn0.step)⟩

mutual
def r05_Delay.j0 : Nat → Bool → Int → Int → Bool → Int → Int → Option (Int)
  | 0, _, _, _, _, _, _ => none
  | k + 1, x2, x7, x8, x25, x334000, x334001 => if x25 = true then (if (Int.tmod (wrap64 (x7 + 1)) 7) = 0 then (some (1 + 1)) else (if (Int.tmod (wrap64 (x7 + 1)) 7) = 3 then (some (1 + 1)) else (if (Int.tmod (wrap64 (x7 + 1)) 7) = 5 then (some (1 + 1)) else (some 1)))) else (if x2 = true then (if x7 = 1 then (r05_Delay.j1 k x7 x8 (decide (x334001 ≥ 16789))) else (r05_Delay.j1 k x7 x8 false)) else (r05_Delay.j1 k x7 x8 false))
def r05_Delay.j1 : Nat → Int → Int → Bool → Option (Int)
  | 0, _, _, _ => none
  | k + 1, x7, x8, x35 => if x35 = true then (if (Int.tmod (wrap64 (x7 + 1)) 7) = 0 then (some (1 + 1)) else (if (Int.tmod (wrap64 (x7 + 1)) 7) = 3 then (some (1 + 1)) else (if (Int.tmod (wrap64 (x7 + 1)) 7) = 5 then (some (1 + 1)) else (some 1)))) else (if (Int.tmod (wrap64 (x7 + x8)) 7) = 0 then (some (wrap64 (x8 + 1))) else (if (Int.tmod (wrap64 (x7 + x8)) 7) = 3 then (some (wrap64 (x8 + 1))) else (if (Int.tmod (wrap64 (x7 + x8)) 7) = 5 then (some (wrap64 (x8 + 1))) else (some x8))))
end
def r05_Delay.f (k : Nat) (a0_0 : Int) (a0_1 : Int) (a1 : Bool) (a2 : Bool) : Option (Int) := (r04_Weekday.f a0_0).bind fun t334 => (if a0_1 ≥ 19440 then (if (Int.tmod (wrap64 (t334 + 1)) 7) = 0 then (some (1 + 1)) else (if (Int.tmod (wrap64 (t334 + 1)) 7) = 3 then (some (1 + 1)) else (if (Int.tmod (wrap64 (t334 + 1)) 7) = 5 then (some (1 + 1)) else (some 1)))) else (if a1 = true then (r05_Delay.j0 k a2 t334 0 false a0_0 a0_1) else (if t334 = 2 then (r05_Delay.j0 k a2 t334 0 (decide (a0_1 ≥ 9924)) a0_0 a0_1) else (r05_Delay.j0 k a2 t334 0 false a0_0 a0_1))))
set_option maxHeartbeats 8000000 in
set_option maxRecDepth 100000 in
theorem r05_Delay.calls (k : Nat) (a0_0 : Int) (a0_1 : Int) (a1 : Bool) (a2 : Bool) (r : Int) (w : World) (h : r05_Delay.f k a0_0 a0_1 a1 a2 = some r) :
  Calls Tryd.prog 59 #[.agg #[.int .i64 a0_0, .int .i64 a0_1], .bool a1, .bool a2] w fun e w' => e = .returned (.int .i64 r) ∧ Below w.heap.size w w' := by
 have hu86 := Tryd.underlying86
 have HB := zz00 (Below.refl w.heap.size w)
 have H : ((r04_Weekday.f a0_0).bind fun t334=>(if a0_1 ≥ 19440 then (if (Int.tmod (wrap64 (t334 + 1)) 7) = 0 then (some (1 + 1)) else (if (Int.tmod (wrap64 (t334 + 1)) 7) = 3 then (some (1 + 1)) else (if (Int.tmod (wrap64 (t334 + 1)) 7) = 5 then (some (1 + 1)) else (some 1)))) else (if a1 = true then (r05_Delay.j0 k a2 t334 0 false a0_0 a0_1) else (if t334 = 2 then (r05_Delay.j0 k a2 t334 0 (decide (a0_1 ≥ 9924)) a0_0 a0_1) else (r05_Delay.j0 k a2 t334 0 false a0_0 a0_1))))) = some r:=h
 clear h
 replace H := zz14.mp H
 obtain ⟨t334, A40, H⟩ := H
 replace H : (if a0_1 ≥ 19440 then (if (Int.tmod (wrap64 (t334 + 1)) 7) = 0 then (some (1 + 1)) else (if (Int.tmod (wrap64 (t334 + 1)) 7) = 3 then (some (1 + 1)) else (if (Int.tmod (wrap64 (t334 + 1)) 7) = 5 then (some (1 + 1)) else (some 1)))) else (if a1 = true then (r05_Delay.j0 k a2 t334 0 false a0_0 a0_1) else (if t334 = 2 then (r05_Delay.j0 k a2 t334 0 (decide (a0_1 ≥ 9924)) a0_0 a0_1) else (r05_Delay.j0 k a2 t334 0 false a0_0 a0_1)))) = some r:=H
 have A4 := zz00 A40
 clear A40
 by_cases c5 : a0_1 ≥ 19440
 ·
  rw [if_pos c5] at H
  have c5b0 : decide (19440 ≤ a0_1) = true := decide_eq_true c5
  clear c5
  by_cases c6 : (Int.tmod (wrap64 (t334 + 1)) 7) = 0
  ·
   rw [if_pos c6] at H
   have c6b0 : ((Int.tmod (wrap64 (t334 + 1)) 7) == 0) = true := zz29.mpr c6
   have c6b1 : ((Int.tmod (wrap64 (t334 + 1)) 7) != 0) = false := zz26.mpr c6
   clear c6
   obtain rfl := Option.some.inj H
   go_enter Tryd.func59, Tryd.ntmps59
   go_wp2_with (first|((with_reducible refine zz24 (N:=3) rfl ?_);refine zz30 ?hg (N:=3) ?hd (cs:=#[.int .i64 a0_0,.int .i64 a0_1]) (t:=86) ?hr ?_;(case hd=>rfl);(case hg=>rfl);(case hr=>first|(go_simp;done)|(go_simp;rfl));intro gb333 hg w7 hbox hb;have n0_:=zz00 (zz21 (by repeat (first|(with_reducible first|exact HB.out|apply zz03|apply zz01|apply zz02)|exact HB.out)) hb);have n1_:=zz00 (hbox);have n2_:=zz00 ((by rw [hg];exact (zz22 (by repeat (first|(with_reducible first|exact HB.out|apply zz03|apply zz01|apply zz02)|exact HB.out))) : w.heap.size ≤ gb333));have n3_:=zz00 ((by rw [hg];exact (zz22 (by repeat (first|(with_reducible first|exact HB.out|apply zz03|apply zz01|apply zz02)|exact HB.out))) : w.heap.size ≤ gb333));clear HB;have HB:=n0_;have BK333:=n1_;have GW333:=n2_;have GE333:=n3_;clear n0_ n1_ n2_ n3_;clear hb hbox hg;have hcz8_0 : w7.cell? ⟨gb333,0,none⟩ = some (.int .i64 a0_0):=(zz18 BK333.out 0).trans rfl;have hcz8_1 : w7.cell? ⟨gb333,1,none⟩ = some (.int .i64 a0_1):=(zz18 BK333.out 1).trans rfl;have hfz8_0:=zz17 BK333.out 0;have hfz8_1:=zz17 BK333.out 1)|((with_reducible refine zz23 (f:=32) rfl ?_);refine zz25 (some 11) rfl rfl Tryd.func32 (by kernel_rfl) rfl #[.int .i64 a0_0] rfl (by (try simp only [List.map_toArray,List.map_cons,List.map_nil]);first|done|rfl|(simp only [List.length_drop,List.length_take];rfl)) ?_;(with_reducible refine (r04_Weekday.calls a0_0 t334 _ A4.out).mono ?_);rintro e w' ⟨rfl,⟨nd,rfl⟩⟩;refine ⟨_,rfl,?_⟩))
   go_ret
   exact ⟨by first|rfl|(simp [errW_none,errW_some] <;> rfl)|(simp [*,errW_none,errW_some] <;> rfl),by repeat (first|(with_reducible first|exact HB.out|apply zz03|apply zz01|apply zz02|refine zz10 ?_ GE333.out)|exact HB.out)⟩
  ·
   rw [if_neg c6] at H
   have c6b0 : ((Int.tmod (wrap64 (t334 + 1)) 7) == 0) = false := zz27.mpr c6
   have c6b1 : ((Int.tmod (wrap64 (t334 + 1)) 7) != 0) = true := zz28.mpr c6
   by_cases c9 : (Int.tmod (wrap64 (t334 + 1)) 7) = 3
   ·
    rw [if_pos c9] at H
    have c9b0 : ((Int.tmod (wrap64 (t334 + 1)) 7) == 3) = true := zz29.mpr c9
    have c9b1 : ((Int.tmod (wrap64 (t334 + 1)) 7) != 3) = false := zz26.mpr c9
    clear c9
    obtain rfl := Option.some.inj H
    go_enter Tryd.func59, Tryd.ntmps59
    go_wp2_with (first|((with_reducible refine zz24 (N:=3) rfl ?_);refine zz30 ?hg (N:=3) ?hd (cs:=#[.int .i64 a0_0,.int .i64 a0_1]) (t:=86) ?hr ?_;(case hd=>rfl);(case hg=>rfl);(case hr=>first|(go_simp;done)|(go_simp;rfl));intro gb333 hg w10 hbox hb;have n0_:=zz00 (zz21 (by repeat (first|(with_reducible first|exact HB.out|apply zz03|apply zz01|apply zz02)|exact HB.out)) hb);have n1_:=zz00 (hbox);have n2_:=zz00 ((by rw [hg];exact (zz22 (by repeat (first|(with_reducible first|exact HB.out|apply zz03|apply zz01|apply zz02)|exact HB.out))) : w.heap.size ≤ gb333));have n3_:=zz00 ((by rw [hg];exact (zz22 (by repeat (first|(with_reducible first|exact HB.out|apply zz03|apply zz01|apply zz02)|exact HB.out))) : w.heap.size ≤ gb333));clear HB;have HB:=n0_;have BK333:=n1_;have GW333:=n2_;have GE333:=n3_;clear n0_ n1_ n2_ n3_;clear hb hbox hg;have hcz11_0 : w10.cell? ⟨gb333,0,none⟩ = some (.int .i64 a0_0):=(zz18 BK333.out 0).trans rfl;have hcz11_1 : w10.cell? ⟨gb333,1,none⟩ = some (.int .i64 a0_1):=(zz18 BK333.out 1).trans rfl;have hfz11_0:=zz17 BK333.out 0;have hfz11_1:=zz17 BK333.out 1)|((with_reducible refine zz23 (f:=32) rfl ?_);refine zz25 (some 11) rfl rfl Tryd.func32 (by kernel_rfl) rfl #[.int .i64 a0_0] rfl (by (try simp only [List.map_toArray,List.map_cons,List.map_nil]);first|done|rfl|(simp only [List.length_drop,List.length_take];rfl)) ?_;(with_reducible refine (r04_Weekday.calls a0_0 t334 _ A4.out).mono ?_);rintro e w' ⟨rfl,⟨nd,rfl⟩⟩;refine ⟨_,rfl,?_⟩))
    go_ret
    exact ⟨by first|rfl|(simp [errW_none,errW_some] <;> rfl)|(simp [*,errW_none,errW_some] <;> rfl),by repeat (first|(with_reducible first|exact HB.out|apply zz03|apply zz01|apply zz02|refine zz10 ?_ GE333.out)|exact HB.out)⟩
   ·
    rw [if_neg c9] at H
    have c9b0 : ((Int.tmod (wrap64 (t334 + 1)) 7) == 3) = false := zz27.mpr c9
    have c9b1 : ((Int.tmod (wrap64 (t334 + 1)) 7) != 3) = true := zz28.mpr c9
    by_cases c12 : (Int.tmod (wrap64 (t334 + 1)) 7) = 5
    ·
     rw [if_pos c12] at H
     have c12b0 : ((Int.tmod (wrap64 (t334 + 1)) 7) == 5) = true := zz29.mpr c12
     have c12b1 : ((Int.tmod (wrap64 (t334 + 1)) 7) != 5) = false := zz26.mpr c12
     clear c12
     obtain rfl := Option.some.inj H
     go_enter Tryd.func59, Tryd.ntmps59
     go_wp2_with (first|((with_reducible refine zz24 (N:=3) rfl ?_);refine zz30 ?hg (N:=3) ?hd (cs:=#[.int .i64 a0_0,.int .i64 a0_1]) (t:=86) ?hr ?_;(case hd=>rfl);(case hg=>rfl);(case hr=>first|(go_simp;done)|(go_simp;rfl));intro gb333 hg w13 hbox hb;have n0_:=zz00 (zz21 (by repeat (first|(with_reducible first|exact HB.out|apply zz03|apply zz01|apply zz02)|exact HB.out)) hb);have n1_:=zz00 (hbox);have n2_:=zz00 ((by rw [hg];exact (zz22 (by repeat (first|(with_reducible first|exact HB.out|apply zz03|apply zz01|apply zz02)|exact HB.out))) : w.heap.size ≤ gb333));have n3_:=zz00 ((by rw [hg];exact (zz22 (by repeat (first|(with_reducible first|exact HB.out|apply zz03|apply zz01|apply zz02)|exact HB.out))) : w.heap.size ≤ gb333));clear HB;have HB:=n0_;have BK333:=n1_;have GW333:=n2_;have GE333:=n3_;clear n0_ n1_ n2_ n3_;clear hb hbox hg;have hcz14_0 : w13.cell? ⟨gb333,0,none⟩ = some (.int .i64 a0_0):=(zz18 BK333.out 0).trans rfl;have hcz14_1 : w13.cell? ⟨gb333,1,none⟩ = some (.int .i64 a0_1):=(zz18 BK333.out 1).trans rfl;have hfz14_0:=zz17 BK333.out 0;have hfz14_1:=zz17 BK333.out 1)|((with_reducible refine zz23 (f:=32) rfl ?_);refine zz25 (some 11) rfl rfl Tryd.func32 (by kernel_rfl) rfl #[.int .i64 a0_0] rfl (by (try simp only [List.map_toArray,List.map_cons,List.map_nil]);first|done|rfl|(simp only [List.length_drop,List.length_take];rfl)) ?_;(with_reducible refine (r04_Weekday.calls a0_0 t334 _ A4.out).mono ?_);rintro e w' ⟨rfl,⟨nd,rfl⟩⟩;refine ⟨_,rfl,?_⟩))
     go_ret
     exact ⟨by first|rfl|(simp [errW_none,errW_some] <;> rfl)|(simp [*,errW_none,errW_some] <;> rfl),by repeat (first|(with_reducible first|exact HB.out|apply zz03|apply zz01|apply zz02|refine zz10 ?_ GE333.out)|exact HB.out)⟩
    ·
     rw [if_neg c12] at H
     have c12b0 : ((Int.tmod (wrap64 (t334 + 1)) 7) == 5) = false := zz27.mpr c12
     have c12b1 : ((Int.tmod (wrap64 (t334 + 1)) 7) != 5) = true := zz28.mpr c12
     obtain rfl := Option.some.inj H
     go_enter Tryd.func59, Tryd.ntmps59
     go_wp2_with (first|((with_reducible refine zz24 (N:=3) rfl ?_);refine zz30 ?hg (N:=3) ?hd (cs:=#[.int .i64 a0_0,.int .i64 a0_1]) (t:=86) ?hr ?_;(case hd=>rfl);(case hg=>rfl);(case hr=>first|(go_simp;done)|(go_simp;rfl));intro gb333 hg w15 hbox hb;have n0_:=zz00 (zz21 (by repeat (first|(with_reducible first|exact HB.out|apply zz03|apply zz01|apply zz02)|exact HB.out)) hb);have n1_:=zz00 (hbox);have n2_:=zz00 ((by rw [hg];exact (zz22 (by repeat (first|(with_reducible first|exact HB.out|apply zz03|apply zz01|apply zz02)|exact HB.out))) : w.heap.size ≤ gb333));have n3_:=zz00 ((by rw [hg];exact (zz22 (by repeat (first|(with_reducible first|exact HB.out|apply zz03|apply zz01|apply zz02)|exact HB.out))) : w.heap.size ≤ gb333));clear HB;have HB:=n0_;have BK333:=n1_;have GW333:=n2_;have GE333:=n3_;clear n0_ n1_ n2_ n3_;clear hb hbox hg;have hcz16_0 : w15.cell? ⟨gb333,0,none⟩ = some (.int .i64 a0_0):=(zz18 BK333.out 0).trans rfl;have hcz16_1 : w15.cell? ⟨gb333,1,none⟩ = some (.int .i64 a0_1):=(zz18 BK333.out 1).trans rfl;have hfz16_0:=zz17 BK333.out 0;have hfz16_1:=zz17 BK333.out 1)|((with_reducible refine zz23 (f:=32) rfl ?_);refine zz25 (some 11) rfl rfl Tryd.func32 (by kernel_rfl) rfl #[.int .i64 a0_0] rfl (by (try simp only [List.map_toArray,List.map_cons,List.map_nil]);first|done|rfl|(simp only [List.length_drop,List.length_take];rfl)) ?_;(with_reducible refine (r04_Weekday.calls a0_0 t334 _ A4.out).mono ?_);rintro e w' ⟨rfl,⟨nd,rfl⟩⟩;refine ⟨_,rfl,?_⟩))
     go_ret
     exact ⟨by first|rfl|(simp [errW_none,errW_some] <;> rfl)|(simp [*,errW_none,errW_some] <;> rfl),by repeat (first|(with_reducible first|exact HB.out|apply zz03|apply zz01|apply zz02|refine zz10 ?_ GE333.out)|exact HB.out)⟩
 ·
  rw [if_neg c5] at H
  have c5b0 : decide (19440 ≤ a0_1) = false := decide_eq_false c5
  clear c5
  have HC17 := zz00 H
  clear H
  go_enter Tryd.func59, Tryd.ntmps59
  go_upto_region 5 with (first|((with_reducible refine zz24 (N:=3) rfl ?_);refine zz30 ?hg (N:=3) ?hd (cs:=#[.int .i64 a0_0,.int .i64 a0_1]) (t:=86) ?hr ?_;(case hd=>rfl);(case hg=>rfl);(case hr=>first|(go_simp;done)|(go_simp;rfl));intro gb333 hg w18 hbox hb;have n0_:=zz00 (zz21 (by repeat (first|(with_reducible first|exact HB.out|apply zz03|apply zz01|apply zz02)|exact HB.out)) hb);have n1_:=zz00 (hbox);have n2_:=zz00 ((by rw [hg];exact (zz22 (by repeat (first|(with_reducible first|exact HB.out|apply zz03|apply zz01|apply zz02)|exact HB.out))) : w.heap.size ≤ gb333));have n3_:=zz00 ((by rw [hg];exact (zz22 (by repeat (first|(with_reducible first|exact HB.out|apply zz03|apply zz01|apply zz02)|exact HB.out))) : w.heap.size ≤ gb333));clear HB;have HB:=n0_;have BK333:=n1_;have GW333:=n2_;have GE333:=n3_;clear n0_ n1_ n2_ n3_;clear hb hbox hg;have hcz19_0 : w18.cell? ⟨gb333,0,none⟩ = some (.int .i64 a0_0):=(zz18 BK333.out 0).trans rfl;have hcz19_1 : w18.cell? ⟨gb333,1,none⟩ = some (.int .i64 a0_1):=(zz18 BK333.out 1).trans rfl;have hfz19_0:=zz17 BK333.out 0;have hfz19_1:=zz17 BK333.out 1)|((with_reducible refine zz23 (f:=32) rfl ?_);refine zz25 (some 11) rfl rfl Tryd.func32 (by kernel_rfl) rfl #[.int .i64 a0_0] rfl (by (try simp only [List.map_toArray,List.map_cons,List.map_nil]);first|done|rfl|(simp only [List.length_drop,List.length_take];rfl)) ?_;(with_reducible refine (r04_Weekday.calls a0_0 t334 _ A4.out).mono ?_);rintro e w' ⟨rfl,⟨nd,rfl⟩⟩;refine ⟨_,rfl,?_⟩))
  (try simp only [Act.put, zz11, zz12, zz13])
  go_cut [25] (fun v25 wc=>∃ (kq : Nat) (x25_16 : Bool),v25 = .bool x25_16 ∧ Aside0 (r05_Delay.j0 kq a2 t334 0 x25_16 a0_0 a0_1 = some r) ∧ Aside0 (kq ≤ k) ∧ Aside0 (wc.heap[gb333]? = some (.cells #[.int .i64 a0_0,.int .i64 a0_1] 86 (0,0))) ∧ Aside0 (Below w.heap.size w wc))
  case first =>
   have H := HC17.out
   clear HC17
   by_cases c20 : a1 = true
   ·
    subst c20
    have H1 : (r05_Delay.j0 k a2 t334 0 false a0_0 a0_1) = some r := by rw [if_pos rfl] at H; exact H
    clear H
    have H := H1
    clear H1
    have H' := zz00 H
    clear H
    go_wp2
    go_meet
    case rel=>exact ⟨_,(false),(by first|rfl|(simp;done)|(simp [*];done)),H',⟨by first|omega|exact Nat.le_refl _⟩,⟨by (with_reducible repeat (first|refine zz07 ?_ _|refine zz09 ?_|refine zz08 ?_ _));exact BK333.out⟩,⟨by repeat (first|(with_reducible first|exact HB.out|apply zz03|apply zz01|apply zz02|refine zz10 ?_ GE333.out)|exact HB.out)⟩⟩
   ·
    replace c20 := zz32.mpr c20
    subst c20
    have H1 : (if t334 = 2 then (r05_Delay.j0 k a2 t334 0 (decide (a0_1 ≥ 9924)) a0_0 a0_1) else (r05_Delay.j0 k a2 t334 0 false a0_0 a0_1)) = some r:=by rw [if_neg (show ¬ (false = true) by decide)] at H;exact H
    clear H
    have H := H1
    clear H1
    by_cases c21 : t334 = 2
    ·
     rw [if_pos c21] at H
     have c21b0 : (t334 == 2) = true := zz29.mpr c21
     have c21b1 : (t334 != 2) = false := zz26.mpr c21
     clear c21
     (first | rw [c21b0] | (simp only [i64_w, i32_w]; rw [c21b0]) | skip)
     have H' := zz00 H
     clear H
     have hcz22_0 : w18.cell? ⟨gb333, 0, none⟩ = some (.int .i64 a0_0) := (zz18 BK333.out 0).trans rfl
     have hcz22_1 : w18.cell? ⟨gb333, 1, none⟩ = some (.int .i64 a0_1) := (zz18 BK333.out 1).trans rfl
     have hfz22_0 := zz17 BK333.out 0
     have hfz22_1 := zz17 BK333.out 1
     go_wp2
     go_meet
     case rel=>exact ⟨_,(decide (a0_1 ≥ 9924)),(by first|rfl|(simp;done)|(simp [*];done)),H',⟨by first|omega|exact Nat.le_refl _⟩,⟨by (with_reducible repeat (first|refine zz07 ?_ _|refine zz09 ?_|refine zz08 ?_ _));exact BK333.out⟩,⟨by repeat (first|(with_reducible first|exact HB.out|apply zz03|apply zz01|apply zz02|refine zz10 ?_ GE333.out)|exact HB.out)⟩⟩
    ·
     rw [if_neg c21] at H
     have c21b0 : (t334 == 2) = false := zz27.mpr c21
     have c21b1 : (t334 != 2) = true := zz28.mpr c21
     (first | rw [c21b0] | (simp only [i64_w, i32_w]; rw [c21b0]) | skip)
     have H' := zz00 H
     clear H
     go_wp2
     go_meet
     case rel=>exact ⟨_,(false),(by first|rfl|(simp;done)|(simp [*];done)),H',⟨by first|omega|exact Nat.le_refl _⟩,⟨by (with_reducible repeat (first|refine zz07 ?_ _|refine zz09 ?_|refine zz08 ?_ _));exact BK333.out⟩,⟨by repeat (first|(with_reducible first|exact HB.out|apply zz03|apply zz01|apply zz02|refine zz10 ?_ GE333.out)|exact HB.out)⟩⟩
  case rest =>
   clear HC17
   try clear c1
   try clear c2
   try clear p2
   try clear c3
   try clear c5
   try clear c5b0
   try clear c6
   try clear c6b0
   try clear c6b1
   try clear p6
   try clear c9
   try clear c9b0
   try clear c9b1
   try clear c12
   try clear c12b0
   try clear c12b1
   try clear c20
   try clear c21
   try clear c21b0
   try clear c21b1
   try clear hcz11_0
   try clear hcz11_1
   try clear hcz14_0
   try clear hcz14_1
   try clear hcz16_0
   try clear hcz16_1
   try clear hcz19_0
   try clear hcz19_1
   try clear hcz22_0
   try clear hcz22_1
   try clear hcz8_0
   try clear hcz8_1
   try clear hfz11_0
   try clear hfz11_1
   try clear hfz14_0
   try clear hfz14_1
   try clear hfz16_0
   try clear hfz16_1
   try clear hfz19_0
   try clear hfz19_1
   try clear hfz22_0
   try clear hfz22_1
   try clear hfz8_0
   try clear hfz8_1
   obtain ⟨kq, x25_16, rfl, HA, HJ16, BK333, HB⟩ := hcut
   cases kq with
   | zero => exact absurd HA.out (by simp [r05_Delay.j0])
   | succ kj16 =>
    have H := HA.out
    clear HA
    simp only [r05_Delay.j0] at H
    by_cases c23 : x25_16 = true
    ·
     subst c23
     have H1 : (if (Int.tmod (wrap64 (t334 + 1)) 7) = 0 then (some (1 + 1)) else (if (Int.tmod (wrap64 (t334 + 1)) 7) = 3 then (some (1 + 1)) else (if (Int.tmod (wrap64 (t334 + 1)) 7) = 5 then (some (1 + 1)) else (some 1)))) = some r:=by rw [if_pos rfl] at H;exact H
     clear H
     have H := H1
     clear H1
     by_cases c24 : (Int.tmod (wrap64 (t334 + 1)) 7) = 0
     ·
      rw [if_pos c24] at H
      have c24b0 : ((Int.tmod (wrap64 (t334 + 1)) 7) == 0) = true := zz29.mpr c24
      have c24b1 : ((Int.tmod (wrap64 (t334 + 1)) 7) != 0) = false := zz26.mpr c24
      clear c24
      obtain rfl := Option.some.inj H
      go_wp2
      go_ret
      exact ⟨by first|rfl|(simp [errW_none,errW_some] <;> rfl)|(simp [*,errW_none,errW_some] <;> rfl),by repeat (first|(with_reducible first|exact HB.out|apply zz03|apply zz01|apply zz02|refine zz10 ?_ GE333.out)|exact HB.out)⟩
     ·
      rw [if_neg c24] at H
      have c24b0 : ((Int.tmod (wrap64 (t334 + 1)) 7) == 0) = false := zz27.mpr c24
      have c24b1 : ((Int.tmod (wrap64 (t334 + 1)) 7) != 0) = true := zz28.mpr c24
      by_cases c25 : (Int.tmod (wrap64 (t334 + 1)) 7) = 3
      ·
       rw [if_pos c25] at H
       have c25b0 : ((Int.tmod (wrap64 (t334 + 1)) 7) == 3) = true := zz29.mpr c25
       have c25b1 : ((Int.tmod (wrap64 (t334 + 1)) 7) != 3) = false := zz26.mpr c25
       clear c25
       obtain rfl := Option.some.inj H
       go_wp2
       go_ret
       exact ⟨by first|rfl|(simp [errW_none,errW_some] <;> rfl)|(simp [*,errW_none,errW_some] <;> rfl),by repeat (first|(with_reducible first|exact HB.out|apply zz03|apply zz01|apply zz02|refine zz10 ?_ GE333.out)|exact HB.out)⟩
      ·
       rw [if_neg c25] at H
       have c25b0 : ((Int.tmod (wrap64 (t334 + 1)) 7) == 3) = false := zz27.mpr c25
       have c25b1 : ((Int.tmod (wrap64 (t334 + 1)) 7) != 3) = true := zz28.mpr c25
       by_cases c26 : (Int.tmod (wrap64 (t334 + 1)) 7) = 5
       ·
        rw [if_pos c26] at H
        have c26b0 : ((Int.tmod (wrap64 (t334 + 1)) 7) == 5) = true := zz29.mpr c26
        have c26b1 : ((Int.tmod (wrap64 (t334 + 1)) 7) != 5) = false := zz26.mpr c26
        clear c26
        obtain rfl := Option.some.inj H
        go_wp2
        go_ret
        exact ⟨by first|rfl|(simp [errW_none,errW_some] <;> rfl)|(simp [*,errW_none,errW_some] <;> rfl),by repeat (first|(with_reducible first|exact HB.out|apply zz03|apply zz01|apply zz02|refine zz10 ?_ GE333.out)|exact HB.out)⟩
       ·
        rw [if_neg c26] at H
        have c26b0 : ((Int.tmod (wrap64 (t334 + 1)) 7) == 5) = false := zz27.mpr c26
        have c26b1 : ((Int.tmod (wrap64 (t334 + 1)) 7) != 5) = true := zz28.mpr c26
        obtain rfl := Option.some.inj H
        go_wp2
        go_ret
        exact ⟨by first|rfl|(simp [errW_none,errW_some] <;> rfl)|(simp [*,errW_none,errW_some] <;> rfl),by repeat (first|(with_reducible first|exact HB.out|apply zz03|apply zz01|apply zz02|refine zz10 ?_ GE333.out)|exact HB.out)⟩
    ·
     replace c23 := zz32.mpr c23
     subst c23
     have H1 : (if a2 = true then (if t334 = 1 then (r05_Delay.j1 kj16 t334 0 (decide (a0_1 ≥ 16789))) else (r05_Delay.j1 kj16 t334 0 false)) else (r05_Delay.j1 kj16 t334 0 false)) = some r:=by rw [if_neg (show ¬ (false = true) by decide)] at H;exact H
     clear H
     have H := H1
     clear H1
     have HC27 := zz00 H
     clear H
     go_upto_region 7 with (fail)
     go_cut [35] (fun v35 wc=>∃ (kq : Nat) (x35_26 : Bool),v35 = .bool x35_26 ∧ Aside0 (r05_Delay.j1 kq t334 0 x35_26 = some r) ∧ Aside0 (kq ≤ kj16) ∧ Aside0 (wc.heap[gb333]? = some (.cells #[.int .i64 a0_0,.int .i64 a0_1] 86 (0,0))) ∧ Aside0 (Below w.heap.size w wc))
     case first =>
      have H := HC27.out
      clear HC27
      by_cases c28 : a2 = true
      ·
       subst c28
       have H1 : (if t334 = 1 then (r05_Delay.j1 kj16 t334 0 (decide (a0_1 ≥ 16789))) else (r05_Delay.j1 kj16 t334 0 false)) = some r := by rw [if_pos rfl] at H; exact H
       clear H
       have H := H1
       clear H1
       by_cases c29 : t334 = 1
       ·
        rw [if_pos c29] at H
        have c29b0 : (t334 == 1) = true := zz29.mpr c29
        have c29b1 : (t334 != 1) = false := zz26.mpr c29
        clear c29
        (first | rw [c29b0] | (simp only [i64_w, i32_w]; rw [c29b0]) | skip)
        have H' := zz00 H
        clear H
        have hcz30_0 : wc.cell? ⟨gb333, 0, none⟩ = some (.int .i64 a0_0) := (zz18 BK333.out 0).trans rfl
        have hcz30_1 : wc.cell? ⟨gb333, 1, none⟩ = some (.int .i64 a0_1) := (zz18 BK333.out 1).trans rfl
        have hfz30_0 := zz17 BK333.out 0
        have hfz30_1 := zz17 BK333.out 1
        go_wp2
        go_meet
        case rel=>exact ⟨_,(decide (a0_1 ≥ 16789)),(by first|rfl|(simp;done)|(simp [*];done)),H',⟨by have:=HJ16.out;first|omega|exact Nat.le_refl _⟩,⟨by (with_reducible repeat (first|refine zz07 ?_ _|refine zz09 ?_|refine zz08 ?_ _));exact BK333.out⟩,⟨by repeat (first|(with_reducible first|exact HB.out|apply zz03|apply zz01|apply zz02|refine zz10 ?_ GE333.out)|exact HB.out)⟩⟩
       ·
        rw [if_neg c29] at H
        have c29b0 : (t334 == 1) = false := zz27.mpr c29
        have c29b1 : (t334 != 1) = true := zz28.mpr c29
        (first | rw [c29b0] | (simp only [i64_w, i32_w]; rw [c29b0]) | skip)
        have H' := zz00 H
        clear H
        go_wp2
        go_meet
        case rel=>exact ⟨_,(false),(by first|rfl|(simp;done)|(simp [*];done)),H',⟨by have:=HJ16.out;first|omega|exact Nat.le_refl _⟩,⟨by (with_reducible repeat (first|refine zz07 ?_ _|refine zz09 ?_|refine zz08 ?_ _));exact BK333.out⟩,⟨by repeat (first|(with_reducible first|exact HB.out|apply zz03|apply zz01|apply zz02|refine zz10 ?_ GE333.out)|exact HB.out)⟩⟩
      ·
       replace c28 := zz32.mpr c28
       subst c28
       have H1 : (r05_Delay.j1 kj16 t334 0 false) = some r := by rw [if_neg (show ¬ (false = true) by decide)] at H; exact H
       clear H
       have H := H1
       clear H1
       have H' := zz00 H
       clear H
       go_wp2
       go_meet
       case rel=>exact ⟨_,(false),(by first|rfl|(simp;done)|(simp [*];done)),H',⟨by have:=HJ16.out;first|omega|exact Nat.le_refl _⟩,⟨by (with_reducible repeat (first|refine zz07 ?_ _|refine zz09 ?_|refine zz08 ?_ _));exact BK333.out⟩,⟨by repeat (first|(with_reducible first|exact HB.out|apply zz03|apply zz01|apply zz02|refine zz10 ?_ GE333.out)|exact HB.out)⟩⟩
     case rest =>
      clear HC27
      try clear c1
      try clear c2
      try clear p2
      try clear c3
      try clear c5
      try clear c5b0
      try clear c6
      try clear c6b0
      try clear c6b1
      try clear p6
      try clear c9
      try clear c9b0
      try clear c9b1
      try clear c12
      try clear c12b0
      try clear c12b1
      try clear c20
      try clear c21
      try clear c21b0
      try clear c21b1
      try clear c23
      try clear c24
      try clear c24b0
      try clear c24b1
      try clear c25
      try clear c25b0
      try clear c25b1
      try clear c26
      try clear c26b0
      try clear c26b1
      try clear c28
      try clear c29
      try clear c29b0
      try clear c29b1
      try clear hcz11_0
      try clear hcz11_1
      try clear hcz14_0
      try clear hcz14_1
      try clear hcz16_0
      try clear hcz16_1
      try clear hcz19_0
      try clear hcz19_1
      try clear hcz22_0
      try clear hcz22_1
      try clear hcz30_0
      try clear hcz30_1
      try clear hcz8_0
      try clear hcz8_1
      try clear hfz11_0
      try clear hfz11_1
      try clear hfz14_0
      try clear hfz14_1
      try clear hfz16_0
      try clear hfz16_1
      try clear hfz19_0
      try clear hfz19_1
      try clear hfz22_0
      try clear hfz22_1
      try clear hfz30_0
      try clear hfz30_1
      try clear hfz8_0
      try clear hfz8_1
      try clear p2
      try clear p6
      obtain ⟨kq, x35_26, rfl, HA, HJ26, BK333, HB⟩ := hcut
      cases kq with
      | zero => exact absurd HA.out (by simp [r05_Delay.j1])
      | succ kj26 =>
       have H := HA.out
       clear HA
       simp only [r05_Delay.j1] at H
       by_cases c31 : x35_26 = true
       ·
        subst c31
        have H1 : (if (Int.tmod (wrap64 (t334 + 1)) 7) = 0 then (some (1 + 1)) else (if (Int.tmod (wrap64 (t334 + 1)) 7) = 3 then (some (1 + 1)) else (if (Int.tmod (wrap64 (t334 + 1)) 7) = 5 then (some (1 + 1)) else (some 1)))) = some r:=by rw [if_pos rfl] at H;exact H
        clear H
        have H := H1
        clear H1
        by_cases c32 : (Int.tmod (wrap64 (t334 + 1)) 7) = 0
        ·
         rw [if_pos c32] at H
         have c32b0 : ((Int.tmod (wrap64 (t334 + 1)) 7) == 0) = true := zz29.mpr c32
         have c32b1 : ((Int.tmod (wrap64 (t334 + 1)) 7) != 0) = false := zz26.mpr c32
         clear c32
         obtain rfl := Option.some.inj H
         go_wp2
         go_ret
         exact ⟨by first|rfl|(simp [errW_none,errW_some] <;> rfl)|(simp [*,errW_none,errW_some] <;> rfl),by repeat (first|(with_reducible first|exact HB.out|apply zz03|apply zz01|apply zz02|refine zz10 ?_ GE333.out)|exact HB.out)⟩
        ·
         rw [if_neg c32] at H
         have c32b0 : ((Int.tmod (wrap64 (t334 + 1)) 7) == 0) = false := zz27.mpr c32
         have c32b1 : ((Int.tmod (wrap64 (t334 + 1)) 7) != 0) = true := zz28.mpr c32
         by_cases c33 : (Int.tmod (wrap64 (t334 + 1)) 7) = 3
         ·
          rw [if_pos c33] at H
          have c33b0 : ((Int.tmod (wrap64 (t334 + 1)) 7) == 3) = true := zz29.mpr c33
          have c33b1 : ((Int.tmod (wrap64 (t334 + 1)) 7) != 3) = false := zz26.mpr c33
          clear c33
          obtain rfl := Option.some.inj H
          go_wp2
          go_ret
          exact ⟨by first|rfl|(simp [errW_none,errW_some] <;> rfl)|(simp [*,errW_none,errW_some] <;> rfl),by repeat (first|(with_reducible first|exact HB.out|apply zz03|apply zz01|apply zz02|refine zz10 ?_ GE333.out)|exact HB.out)⟩
         ·
          rw [if_neg c33] at H
          have c33b0 : ((Int.tmod (wrap64 (t334 + 1)) 7) == 3) = false := zz27.mpr c33
          have c33b1 : ((Int.tmod (wrap64 (t334 + 1)) 7) != 3) = true := zz28.mpr c33
          by_cases c34 : (Int.tmod (wrap64 (t334 + 1)) 7) = 5
          ·
           rw [if_pos c34] at H
           have c34b0 : ((Int.tmod (wrap64 (t334 + 1)) 7) == 5) = true := zz29.mpr c34
           have c34b1 : ((Int.tmod (wrap64 (t334 + 1)) 7) != 5) = false := zz26.mpr c34
           clear c34
           obtain rfl := Option.some.inj H
           go_wp2
           go_ret
           exact ⟨by first|rfl|(simp [errW_none,errW_some] <;> rfl)|(simp [*,errW_none,errW_some] <;> rfl),by repeat (first|(with_reducible first|exact HB.out|apply zz03|apply zz01|apply zz02|refine zz10 ?_ GE333.out)|exact HB.out)⟩
          ·
           rw [if_neg c34] at H
           have c34b0 : ((Int.tmod (wrap64 (t334 + 1)) 7) == 5) = false := zz27.mpr c34
           have c34b1 : ((Int.tmod (wrap64 (t334 + 1)) 7) != 5) = true := zz28.mpr c34
           obtain rfl := Option.some.inj H
           go_wp2
           go_ret
           exact ⟨by first|rfl|(simp [errW_none,errW_some] <;> rfl)|(simp [*,errW_none,errW_some] <;> rfl),by repeat (first|(with_reducible first|exact HB.out|apply zz03|apply zz01|apply zz02|refine zz10 ?_ GE333.out)|exact HB.out)⟩
       ·
        replace c31 := zz32.mpr c31
        subst c31
        have H1 : (if (Int.tmod (wrap64 (t334 + 0)) 7) = 0 then (some (wrap64 (0 + 1))) else (if (Int.tmod (wrap64 (t334 + 0)) 7) = 3 then (some (wrap64 (0 + 1))) else (if (Int.tmod (wrap64 (t334 + 0)) 7) = 5 then (some (wrap64 (0 + 1))) else (some 0)))) = some r:=by rw [if_neg (show ¬ (false = true) by decide)] at H;exact H
        clear H
        have H := H1
        clear H1
        simp only [Int.add_zero, Int.zero_add, show wrap64 1 = 1 by unfold wrap64; omega] at H
        by_cases c35 : (Int.tmod (wrap64 t334) 7) = 0
        ·
         rw [if_pos c35] at H
         have c35b0 : ((Int.tmod (wrap64 t334) 7) == 0) = true := zz29.mpr c35
         have c35b1 : ((Int.tmod (wrap64 t334) 7) != 0) = false := zz26.mpr c35
         clear c35
         obtain rfl := Option.some.inj H
         go_wp2
         go_ret
         exact ⟨by first|rfl|(simp [errW_none,errW_some] <;> rfl)|(simp [*,errW_none,errW_some] <;> rfl),by repeat (first|(with_reducible first|exact HB.out|apply zz03|apply zz01|apply zz02|refine zz10 ?_ GE333.out)|exact HB.out)⟩
        ·
         rw [if_neg c35] at H
         have c35b0 : ((Int.tmod (wrap64 t334) 7) == 0) = false := zz27.mpr c35
         have c35b1 : ((Int.tmod (wrap64 t334) 7) != 0) = true := zz28.mpr c35
         by_cases c36 : (Int.tmod (wrap64 t334) 7) = 3
         ·
          rw [if_pos c36] at H
          have c36b0 : ((Int.tmod (wrap64 t334) 7) == 3) = true := zz29.mpr c36
          have c36b1 : ((Int.tmod (wrap64 t334) 7) != 3) = false := zz26.mpr c36
          clear c36
          obtain rfl := Option.some.inj H
          go_wp2
          go_ret
          exact ⟨by first|rfl|(simp [errW_none,errW_some] <;> rfl)|(simp [*,errW_none,errW_some] <;> rfl),by repeat (first|(with_reducible first|exact HB.out|apply zz03|apply zz01|apply zz02|refine zz10 ?_ GE333.out)|exact HB.out)⟩
         ·
          rw [if_neg c36] at H
          have c36b0 : ((Int.tmod (wrap64 t334) 7) == 3) = false := zz27.mpr c36
          have c36b1 : ((Int.tmod (wrap64 t334) 7) != 3) = true := zz28.mpr c36
          by_cases c37 : (Int.tmod (wrap64 t334) 7) = 5
          ·
           rw [if_pos c37] at H
           have c37b0 : ((Int.tmod (wrap64 t334) 7) == 5) = true := zz29.mpr c37
           have c37b1 : ((Int.tmod (wrap64 t334) 7) != 5) = false := zz26.mpr c37
           clear c37
           obtain rfl := Option.some.inj H
           go_wp2
           go_ret
           exact ⟨by first|rfl|(simp [errW_none,errW_some] <;> rfl)|(simp [*,errW_none,errW_some] <;> rfl),by repeat (first|(with_reducible first|exact HB.out|apply zz03|apply zz01|apply zz02|refine zz10 ?_ GE333.out)|exact HB.out)⟩
          ·
           rw [if_neg c37] at H
           have c37b0 : ((Int.tmod (wrap64 t334) 7) == 5) = false := zz27.mpr c37
           have c37b1 : ((Int.tmod (wrap64 t334) 7) != 5) = true := zz28.mpr c37
           obtain rfl := Option.some.inj H
           go_wp2
           go_ret
           exact ⟨by first|rfl|(simp [errW_none,errW_some] <;> rfl)|(simp [*,errW_none,errW_some] <;> rfl),by repeat (first|(with_reducible first|exact HB.out|apply zz03|apply zz01|apply zz02|refine zz10 ?_ GE333.out)|exact HB.out)⟩

end Go.Proofs.YtflpddhoiafhcaaDoor.T
end
