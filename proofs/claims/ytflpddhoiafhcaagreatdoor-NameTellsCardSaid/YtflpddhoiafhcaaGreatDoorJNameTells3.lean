/- Texts of the proof of 'NameTells', joined by a program (part 3): contracts of functions, plain laws. -/
import Derived.Test.YtflpddhoiafhcaaGreatDoorJNameTells0
import Derived.Test.YtflpddhoiafhcaaGreatDoorJNameTells2
set_option linter.unusedVariables false
set_option linter.unusedSimpArgs false
set_option linter.unusedSectionVars false
section
-- Written by wip/hprint.py of this repo (holes typed by hand, all else by a program) over the seat YtflpddhoiafhcaaGreatDoor.
namespace Go.Proofs.YtflpddhoiafhcaaGreatDoor.R
open Go.Proofs.YtflpddhoiafhcaaGreatDoor.H
open Go.RowKit Go.Proofs.YtflpddhoiafhcaaGreatDoorW.PrintWords Go.Proofs.YtflpddhoiafhcaaGreatDoorW.PrintLast Go.Proofs.YtflpddhoiafhcaaGreatDoorW.PrintMore
attribute [local go_sem] max2_int min2_int max_two min_two max_three min_three max_four min_four   -- for this text's walks alone
set_option linter.unusedVariables false
set_option linter.unusedSimpArgs false

def molad_Weekday.f (a0 : Int) : Option (Int) := (exact_Mod.f a0 7).bind fun bt132 => (some bt132.1)
set_option maxHeartbeats 8000000 in
set_option maxRecDepth 100000 in
theorem molad_Weekday.calls (a0 : Int) (r : Int) (w : World) (h : molad_Weekday.f a0 = some r) :
  Calls Tryz.prog 130 #[.int .i64 a0] w fun e w' => e = .returned (.int .i64 r) ∧ Drawn0 w w' := by
 have H : ((exact_Mod.f a0 7).bind fun bt132 => (some bt132.1)) = some r := h
 clear h
 replace H := zz14.mp H
 obtain ⟨⟨t132, t133⟩, A20, H⟩ := H
 replace H : (some t132) = some r := H
 have A2 := zz00 A20
 clear A20
 obtain rfl := Option.some.inj H
 go_enter Tryz.func130, Tryz.ntmps130
 go_wp2_with (first|((with_reducible refine zz23 (f:=179) rfl ?_);refine zz25 (some 7) rfl rfl Tryz.func179 (by kernel_rfl) rfl #[.int .i64 a0,.int .i64 7] rfl (by (try simp only [List.map_toArray,List.map_cons,List.map_nil]);first|done|rfl|(simp only [List.length_drop,List.length_take];rfl)) ?_;(with_reducible refine (exact_Mod.calls a0 7 t132 t133 _ A2.out).mono ?_);rintro e w' ⟨rfl,⟨nd,rfl⟩⟩;refine ⟨_,rfl,?_⟩))
 go_ret
 exact ⟨by first | rfl | (simp; done) | (simp [*]; done), by repeat (first | exact Drawn0.refl _ | apply Drawn0.step)⟩

def newyear_bad.f (a0 : Int) : Option (Bool) := if a0 = 0 then (some true) else (if a0 = 3 then (some true) else (if a0 = 5 then (some true) else (some false)))
set_option maxHeartbeats 8000000 in
set_option maxRecDepth 100000 in
theorem newyear_bad.calls (a0 : Int) (r : Bool) (w : World) (h : newyear_bad.f a0 = some r) :
    Calls Tryz.prog 183 #[.int .i64 a0] w fun e w' => e = .returned (.bool r) ∧ Drawn0 w w' := by
  have H : (if a0 = 0 then (some true) else (if a0 = 3 then (some true) else (if a0 = 5 then (some true) else (some false)))) = some r := h
  clear h
  by_cases c2 : a0 = 0
  · rw [if_pos c2] at H
    have c2b0 : (a0 == 0) = true := zz29.mpr c2
    have c2b1 : (a0 != 0) = false := zz26.mpr c2
    clear c2
    obtain rfl := Option.some.inj H
    go_enter Tryz.func183, Tryz.ntmps183
    go_wp2
    go_ret
    exact ⟨by first | rfl | (simp; done) | (simp [*]; done), by repeat (first | exact Drawn0.refl _ | apply Drawn0.step)⟩
  · rw [if_neg c2] at H
    have c2b0 : (a0 == 0) = false := zz27.mpr c2
    have c2b1 : (a0 != 0) = true := zz28.mpr c2
    by_cases c3 : a0 = 3
    · rw [if_pos c3] at H
      have c3b0 : (a0 == 3) = true := zz29.mpr c3
      have c3b1 : (a0 != 3) = false := zz26.mpr c3
      clear c3
      obtain rfl := Option.some.inj H
      go_enter Tryz.func183, Tryz.ntmps183
      go_wp2
      go_ret
      exact ⟨by first | rfl | (simp; done) | (simp [*]; done), by repeat (first | exact Drawn0.refl _ | apply Drawn0.step)⟩
    · rw [if_neg c3] at H
      have c3b0 : (a0 == 3) = false := zz27.mpr c3
      have c3b1 : (a0 != 3) = true := zz28.mpr c3
      by_cases c4 : a0 = 5
      · rw [if_pos c4] at H
        have c4b0 : (a0 == 5) = true := zz29.mpr c4
        have c4b1 : (a0 != 5) = false := zz26.mpr c4
        clear c4
        obtain rfl := Option.some.inj H
        go_enter Tryz.func183, Tryz.ntmps183
        go_wp2
        go_ret
        exact ⟨by first | rfl | (simp; done) | (simp [*]; done), by repeat (first | exact Drawn0.refl _ | apply Drawn0.step)⟩
      · rw [if_neg c4] at H
        have c4b0 : (a0 == 5) = false := zz27.mpr c4
        have c4b1 : (a0 != 5) = true := zz28.mpr c4
        obtain rfl := Option.some.inj H
        go_enter Tryz.func183, Tryz.ntmps183
        go_wp2
        go_ret
        exact ⟨by first | rfl | (simp; done) | (simp [*]; done), by repeat (first | exact Drawn0.refl _ | apply Drawn0.step)⟩

def newyear_Delay.j0 : Nat → Int → Bool → Option (Int)
  | 0, _, _ => none
  | k + 1, x8, x13 => if x13 = true then ((newyear_bad.f (Int.tmod (wrap64 (x8 + 1)) 7)).bind fun t136 => (if t136 = true then (some 2) else (some 1))) else ((newyear_bad.f x8).bind fun t137 => (if t137 = true then (some 1) else (some 0)))
def newyear_Delay.f (k : Nat) (a0_0 : Int) (a0_1 : Int) (a1 : Bool) (a2 : Bool) : Option (Int) := (molad_Weekday.f a0_0).bind fun t135 => (if a0_1 ≥ 19440 then (newyear_Delay.j0 k t135 (decide (a0_1 ≥ 19440))) else (if t135 = 2 then (if a0_1 ≥ 9924 then (if a1 = true then (if t135 = 1 then (if a0_1 ≥ 16789 then (newyear_Delay.j0 k t135 a2) else (newyear_Delay.j0 k t135 false)) else (newyear_Delay.j0 k t135 false)) else (newyear_Delay.j0 k t135 (!a1))) else (if t135 = 1 then (if a0_1 ≥ 16789 then (newyear_Delay.j0 k t135 a2) else (newyear_Delay.j0 k t135 false)) else (newyear_Delay.j0 k t135 false))) else (if t135 = 1 then (if a0_1 ≥ 16789 then (newyear_Delay.j0 k t135 a2) else (newyear_Delay.j0 k t135 false)) else (newyear_Delay.j0 k t135 false))))
set_option maxHeartbeats 8000000 in
set_option maxRecDepth 100000 in
theorem newyear_Delay.calls (k : Nat) (a0_0 : Int) (a0_1 : Int) (a1 : Bool) (a2 : Bool) (r : Int) (w : World) (h : newyear_Delay.f k a0_0 a0_1 a1 a2 = some r) :
  Calls Tryz.prog 132 #[.agg #[.int .i64 a0_0, .int .i64 a0_1], .bool a1, .bool a2] w fun e w' => e = .returned (.int .i64 r) ∧ Below w.heap.size w w' := by
 have hu147 := Tryz.underlying147
 have HB := zz00 (Below.refl w.heap.size w)
 have H : ((molad_Weekday.f a0_0).bind fun t135=>(if a0_1 ≥ 19440 then (newyear_Delay.j0 k t135 (decide (a0_1 ≥ 19440))) else (if t135 = 2 then (if a0_1 ≥ 9924 then (if a1 = true then (if t135 = 1 then (if a0_1 ≥ 16789 then (newyear_Delay.j0 k t135 a2) else (newyear_Delay.j0 k t135 false)) else (newyear_Delay.j0 k t135 false)) else (newyear_Delay.j0 k t135 (!a1))) else (if t135 = 1 then (if a0_1 ≥ 16789 then (newyear_Delay.j0 k t135 a2) else (newyear_Delay.j0 k t135 false)) else (newyear_Delay.j0 k t135 false))) else (if t135 = 1 then (if a0_1 ≥ 16789 then (newyear_Delay.j0 k t135 a2) else (newyear_Delay.j0 k t135 false)) else (newyear_Delay.j0 k t135 false))))) = some r:=h
 clear h
 replace H := zz14.mp H
 obtain ⟨t135, A40, H⟩ := H
 replace H : (if a0_1 ≥ 19440 then (newyear_Delay.j0 k t135 (decide (a0_1 ≥ 19440))) else (if t135 = 2 then (if a0_1 ≥ 9924 then (if a1 = true then (if t135 = 1 then (if a0_1 ≥ 16789 then (newyear_Delay.j0 k t135 a2) else (newyear_Delay.j0 k t135 false)) else (newyear_Delay.j0 k t135 false)) else (newyear_Delay.j0 k t135 (!a1))) else (if t135 = 1 then (if a0_1 ≥ 16789 then (newyear_Delay.j0 k t135 a2) else (newyear_Delay.j0 k t135 false)) else (newyear_Delay.j0 k t135 false))) else (if t135 = 1 then (if a0_1 ≥ 16789 then (newyear_Delay.j0 k t135 a2) else (newyear_Delay.j0 k t135 false)) else (newyear_Delay.j0 k t135 false)))) = some r:=H
 have A4 := zz00 A40
 clear A40
 have HC5 := zz00 H
 clear H
 go_enter Tryz.func132, Tryz.ntmps132
 go_upto_if 13 with (first|((with_reducible refine zz24 (N:=3) rfl ?_);refine zz30 ?hg (N:=3) ?hd (cs:=#[.int .i64 a0_0,.int .i64 a0_1]) (t:=147) ?hr ?_;(case hd=>rfl);(case hg=>rfl);(case hr=>first|(go_simp;done)|(go_simp;rfl));intro gb134 hg w6 hbox hb;have n0_:=zz00 (zz21 (by repeat (first|(with_reducible first|exact HB.out|apply zz03|apply zz01|apply zz02)|exact HB.out)) hb);have n1_:=zz00 (hbox);have n2_:=zz00 ((by rw [hg];exact (zz22 (by repeat (first|(with_reducible first|exact HB.out|apply zz03|apply zz01|apply zz02)|exact HB.out))) : w.heap.size ≤ gb134));have n3_:=zz00 ((by rw [hg];exact (zz22 (by repeat (first|(with_reducible first|exact HB.out|apply zz03|apply zz01|apply zz02)|exact HB.out))) : w.heap.size ≤ gb134));clear HB;have HB:=n0_;have BK134:=n1_;have GW134:=n2_;have GE134:=n3_;clear n0_ n1_ n2_ n3_;clear hb hbox hg;have hcz7_0 : w6.cell? ⟨gb134,0,none⟩ = some (.int .i64 a0_0):=(zz18 BK134.out 0).trans rfl;have hcz7_1 : w6.cell? ⟨gb134,1,none⟩ = some (.int .i64 a0_1):=(zz18 BK134.out 1).trans rfl;have hfz7_0:=zz17 BK134.out 0;have hfz7_1:=zz17 BK134.out 1)|((with_reducible refine zz23 (f:=130) rfl ?_);refine zz25 (some 12) rfl rfl Tryz.func130 (by kernel_rfl) rfl #[.int .i64 a0_0] rfl (by (try simp only [List.map_toArray,List.map_cons,List.map_nil]);first|done|rfl|(simp only [List.length_drop,List.length_take];rfl)) ?_;(with_reducible refine (molad_Weekday.calls a0_0 t135 _ A4.out).mono ?_);rintro e w' ⟨rfl,⟨nd,rfl⟩⟩;refine ⟨_,rfl,?_⟩))
 (try simp only [Act.put, zz11, zz12, zz13])
 go_cut [13] (fun v13 wc=>∃ (kq : Nat) (x13_4 : Bool),v13 = .bool x13_4 ∧ Aside0 (newyear_Delay.j0 kq t135 x13_4 = some r) ∧ Aside0 (kq ≤ k) ∧ Aside0 (wc.heap[gb134]? = some (.cells #[.int .i64 a0_0,.int .i64 a0_1] 147 (0,0))) ∧ Aside0 (Below w.heap.size w wc))
 case first =>
  have H := HC5.out
  clear HC5
  by_cases c8 : a0_1 ≥ 19440
  ·
   rw [if_pos c8] at H
   have c8b0 : decide (19440 ≤ a0_1) = true := decide_eq_true c8
   clear c8
   (first | rw [c8b0] | (simp only [i64_w, i32_w]; rw [c8b0]) | skip)
   have H' := zz00 H
   clear H
   go_wp2
   go_meet
   case rel=>exact ⟨_,(decide (a0_1 ≥ 19440)),(by first|rfl|(simp;done)|(simp [*];done)),H',⟨by first|omega|exact Nat.le_refl _⟩,⟨by (with_reducible repeat (first|refine zz07 ?_ _|refine zz09 ?_|refine zz08 ?_ _));exact BK134.out⟩,⟨by repeat (first|(with_reducible first|exact HB.out|apply zz03|apply zz01|apply zz02|refine zz10 ?_ GE134.out)|exact HB.out)⟩⟩
  ·
   rw [if_neg c8] at H
   have c8b0 : decide (19440 ≤ a0_1) = false := decide_eq_false c8
   clear c8
   (first | rw [c8b0] | (simp only [i64_w, i32_w]; rw [c8b0]) | skip)
   by_cases c9 : t135 = 2
   ·
    rw [if_pos c9] at H
    have c9b0 : (t135 == 2) = true := zz29.mpr c9
    have c9b1 : (t135 != 2) = false := zz26.mpr c9
    clear c9
    by_cases c10 : a0_1 ≥ 9924
    ·
     rw [if_pos c10] at H
     have c10b0 : decide (9924 ≤ a0_1) = true := decide_eq_true c10
     clear c10
     by_cases c11 : a1 = true
     ·
      subst c11
      have H1 : (if t135 = 1 then (if a0_1 ≥ 16789 then (newyear_Delay.j0 k t135 a2) else (newyear_Delay.j0 k t135 false)) else (newyear_Delay.j0 k t135 false)) = some r:=by rw [if_pos rfl] at H;exact H
      clear H
      have H := H1
      clear H1
      by_cases c12 : t135 = 1
      ·
       rw [if_pos c12] at H
       have c12b0 : (t135 == 1) = true := zz29.mpr c12
       have c12b1 : (t135 != 1) = false := zz26.mpr c12
       clear c12
       by_cases c13 : a0_1 ≥ 16789
       ·
        rw [if_pos c13] at H
        have c13b0 : decide (16789 ≤ a0_1) = true := decide_eq_true c13
        clear c13
        have H' := zz00 H
        clear H
        have hcz14_0 : w6.cell? ⟨gb134, 0, none⟩ = some (.int .i64 a0_0) := (zz18 BK134.out 0).trans rfl
        have hcz14_1 : w6.cell? ⟨gb134, 1, none⟩ = some (.int .i64 a0_1) := (zz18 BK134.out 1).trans rfl
        have hfz14_0 := zz17 BK134.out 0
        have hfz14_1 := zz17 BK134.out 1
        go_wp2
        go_meet
        case rel=>exact ⟨_,(a2),(by first|rfl|(simp;done)|(simp [*];done)),H',⟨by first|omega|exact Nat.le_refl _⟩,⟨by (with_reducible repeat (first|refine zz07 ?_ _|refine zz09 ?_|refine zz08 ?_ _));exact BK134.out⟩,⟨by repeat (first|(with_reducible first|exact HB.out|apply zz03|apply zz01|apply zz02|refine zz10 ?_ GE134.out)|exact HB.out)⟩⟩
       ·
        rw [if_neg c13] at H
        have c13b0 : decide (16789 ≤ a0_1) = false := decide_eq_false c13
        clear c13
        have H' := zz00 H
        clear H
        have hcz15_0 : w6.cell? ⟨gb134, 0, none⟩ = some (.int .i64 a0_0) := (zz18 BK134.out 0).trans rfl
        have hcz15_1 : w6.cell? ⟨gb134, 1, none⟩ = some (.int .i64 a0_1) := (zz18 BK134.out 1).trans rfl
        have hfz15_0 := zz17 BK134.out 0
        have hfz15_1 := zz17 BK134.out 1
        go_wp2
        go_meet
        case rel=>exact ⟨_,(false),(by first|rfl|(simp;done)|(simp [*];done)),H',⟨by first|omega|exact Nat.le_refl _⟩,⟨by (with_reducible repeat (first|refine zz07 ?_ _|refine zz09 ?_|refine zz08 ?_ _));exact BK134.out⟩,⟨by repeat (first|(with_reducible first|exact HB.out|apply zz03|apply zz01|apply zz02|refine zz10 ?_ GE134.out)|exact HB.out)⟩⟩
      ·
       rw [if_neg c12] at H
       have c12b0 : (t135 == 1) = false := zz27.mpr c12
       have c12b1 : (t135 != 1) = true := zz28.mpr c12
       have H' := zz00 H
       clear H
       have hcz16_0 : w6.cell? ⟨gb134, 0, none⟩ = some (.int .i64 a0_0) := (zz18 BK134.out 0).trans rfl
       have hcz16_1 : w6.cell? ⟨gb134, 1, none⟩ = some (.int .i64 a0_1) := (zz18 BK134.out 1).trans rfl
       have hfz16_0 := zz17 BK134.out 0
       have hfz16_1 := zz17 BK134.out 1
       go_wp2
       go_meet
       case rel=>exact ⟨_,(false),(by first|rfl|(simp;done)|(simp [*];done)),H',⟨by first|omega|exact Nat.le_refl _⟩,⟨by (with_reducible repeat (first|refine zz07 ?_ _|refine zz09 ?_|refine zz08 ?_ _));exact BK134.out⟩,⟨by repeat (first|(with_reducible first|exact HB.out|apply zz03|apply zz01|apply zz02|refine zz10 ?_ GE134.out)|exact HB.out)⟩⟩
     ·
      replace c11 := zz32.mpr c11
      subst c11
      have H1 : (newyear_Delay.j0 k t135 (!false)) = some r := by rw [if_neg (show ¬ (false = true) by decide)] at H; exact H
      clear H
      have H := H1
      clear H1
      have H' := zz00 H
      clear H
      have hcz17_0 : w6.cell? ⟨gb134, 0, none⟩ = some (.int .i64 a0_0) := (zz18 BK134.out 0).trans rfl
      have hcz17_1 : w6.cell? ⟨gb134, 1, none⟩ = some (.int .i64 a0_1) := (zz18 BK134.out 1).trans rfl
      have hfz17_0 := zz17 BK134.out 0
      have hfz17_1 := zz17 BK134.out 1
      go_wp2
      go_meet
      case rel=>exact ⟨_,(!false),(by first|rfl|(simp;done)|(simp [*];done)),H',⟨by first|omega|exact Nat.le_refl _⟩,⟨by (with_reducible repeat (first|refine zz07 ?_ _|refine zz09 ?_|refine zz08 ?_ _));exact BK134.out⟩,⟨by repeat (first|(with_reducible first|exact HB.out|apply zz03|apply zz01|apply zz02|refine zz10 ?_ GE134.out)|exact HB.out)⟩⟩
    ·
     rw [if_neg c10] at H
     have c10b0 : decide (9924 ≤ a0_1) = false := decide_eq_false c10
     clear c10
     by_cases c18 : t135 = 1
     ·
      rw [if_pos c18] at H
      have c18b0 : (t135 == 1) = true := zz29.mpr c18
      have c18b1 : (t135 != 1) = false := zz26.mpr c18
      clear c18
      by_cases c19 : a0_1 ≥ 16789
      ·
       rw [if_pos c19] at H
       have c19b0 : decide (16789 ≤ a0_1) = true := decide_eq_true c19
       clear c19
       have H' := zz00 H
       clear H
       have hcz20_0 : w6.cell? ⟨gb134, 0, none⟩ = some (.int .i64 a0_0) := (zz18 BK134.out 0).trans rfl
       have hcz20_1 : w6.cell? ⟨gb134, 1, none⟩ = some (.int .i64 a0_1) := (zz18 BK134.out 1).trans rfl
       have hfz20_0 := zz17 BK134.out 0
       have hfz20_1 := zz17 BK134.out 1
       go_wp2
       go_meet
       case rel=>exact ⟨_,(a2),(by first|rfl|(simp;done)|(simp [*];done)),H',⟨by first|omega|exact Nat.le_refl _⟩,⟨by (with_reducible repeat (first|refine zz07 ?_ _|refine zz09 ?_|refine zz08 ?_ _));exact BK134.out⟩,⟨by repeat (first|(with_reducible first|exact HB.out|apply zz03|apply zz01|apply zz02|refine zz10 ?_ GE134.out)|exact HB.out)⟩⟩
      ·
       rw [if_neg c19] at H
       have c19b0 : decide (16789 ≤ a0_1) = false := decide_eq_false c19
       clear c19
       have H' := zz00 H
       clear H
       have hcz21_0 : w6.cell? ⟨gb134, 0, none⟩ = some (.int .i64 a0_0) := (zz18 BK134.out 0).trans rfl
       have hcz21_1 : w6.cell? ⟨gb134, 1, none⟩ = some (.int .i64 a0_1) := (zz18 BK134.out 1).trans rfl
       have hfz21_0 := zz17 BK134.out 0
       have hfz21_1 := zz17 BK134.out 1
       go_wp2
       go_meet
       case rel=>exact ⟨_,(false),(by first|rfl|(simp;done)|(simp [*];done)),H',⟨by first|omega|exact Nat.le_refl _⟩,⟨by (with_reducible repeat (first|refine zz07 ?_ _|refine zz09 ?_|refine zz08 ?_ _));exact BK134.out⟩,⟨by repeat (first|(with_reducible first|exact HB.out|apply zz03|apply zz01|apply zz02|refine zz10 ?_ GE134.out)|exact HB.out)⟩⟩
     ·
      rw [if_neg c18] at H
      have c18b0 : (t135 == 1) = false := zz27.mpr c18
      have c18b1 : (t135 != 1) = true := zz28.mpr c18
      have H' := zz00 H
      clear H
      have hcz22_0 : w6.cell? ⟨gb134, 0, none⟩ = some (.int .i64 a0_0) := (zz18 BK134.out 0).trans rfl
      have hcz22_1 : w6.cell? ⟨gb134, 1, none⟩ = some (.int .i64 a0_1) := (zz18 BK134.out 1).trans rfl
      have hfz22_0 := zz17 BK134.out 0
      have hfz22_1 := zz17 BK134.out 1
      go_wp2
      go_meet
      case rel=>exact ⟨_,(false),(by first|rfl|(simp;done)|(simp [*];done)),H',⟨by first|omega|exact Nat.le_refl _⟩,⟨by (with_reducible repeat (first|refine zz07 ?_ _|refine zz09 ?_|refine zz08 ?_ _));exact BK134.out⟩,⟨by repeat (first|(with_reducible first|exact HB.out|apply zz03|apply zz01|apply zz02|refine zz10 ?_ GE134.out)|exact HB.out)⟩⟩
   ·
    rw [if_neg c9] at H
    have c9b0 : (t135 == 2) = false := zz27.mpr c9
    have c9b1 : (t135 != 2) = true := zz28.mpr c9
    by_cases c23 : t135 = 1
    ·
     rw [if_pos c23] at H
     have c23b0 : (t135 == 1) = true := zz29.mpr c23
     have c23b1 : (t135 != 1) = false := zz26.mpr c23
     clear c23
     by_cases c24 : a0_1 ≥ 16789
     ·
      rw [if_pos c24] at H
      have c24b0 : decide (16789 ≤ a0_1) = true := decide_eq_true c24
      clear c24
      have H' := zz00 H
      clear H
      have hcz25_0 : w6.cell? ⟨gb134, 0, none⟩ = some (.int .i64 a0_0) := (zz18 BK134.out 0).trans rfl
      have hcz25_1 : w6.cell? ⟨gb134, 1, none⟩ = some (.int .i64 a0_1) := (zz18 BK134.out 1).trans rfl
      have hfz25_0 := zz17 BK134.out 0
      have hfz25_1 := zz17 BK134.out 1
      go_wp2
      go_meet
      case rel=>exact ⟨_,(a2),(by first|rfl|(simp;done)|(simp [*];done)),H',⟨by first|omega|exact Nat.le_refl _⟩,⟨by (with_reducible repeat (first|refine zz07 ?_ _|refine zz09 ?_|refine zz08 ?_ _));exact BK134.out⟩,⟨by repeat (first|(with_reducible first|exact HB.out|apply zz03|apply zz01|apply zz02|refine zz10 ?_ GE134.out)|exact HB.out)⟩⟩
     ·
      rw [if_neg c24] at H
      have c24b0 : decide (16789 ≤ a0_1) = false := decide_eq_false c24
      clear c24
      have H' := zz00 H
      clear H
      have hcz26_0 : w6.cell? ⟨gb134, 0, none⟩ = some (.int .i64 a0_0) := (zz18 BK134.out 0).trans rfl
      have hcz26_1 : w6.cell? ⟨gb134, 1, none⟩ = some (.int .i64 a0_1) := (zz18 BK134.out 1).trans rfl
      have hfz26_0 := zz17 BK134.out 0
      have hfz26_1 := zz17 BK134.out 1
      go_wp2
      go_meet
      case rel=>exact ⟨_,(false),(by first|rfl|(simp;done)|(simp [*];done)),H',⟨by first|omega|exact Nat.le_refl _⟩,⟨by (with_reducible repeat (first|refine zz07 ?_ _|refine zz09 ?_|refine zz08 ?_ _));exact BK134.out⟩,⟨by repeat (first|(with_reducible first|exact HB.out|apply zz03|apply zz01|apply zz02|refine zz10 ?_ GE134.out)|exact HB.out)⟩⟩
    ·
     rw [if_neg c23] at H
     have c23b0 : (t135 == 1) = false := zz27.mpr c23
     have c23b1 : (t135 != 1) = true := zz28.mpr c23
     have H' := zz00 H
     clear H
     go_wp2
     go_meet
     case rel=>exact ⟨_,(false),(by first|rfl|(simp;done)|(simp [*];done)),H',⟨by first|omega|exact Nat.le_refl _⟩,⟨by (with_reducible repeat (first|refine zz07 ?_ _|refine zz09 ?_|refine zz08 ?_ _));exact BK134.out⟩,⟨by repeat (first|(with_reducible first|exact HB.out|apply zz03|apply zz01|apply zz02|refine zz10 ?_ GE134.out)|exact HB.out)⟩⟩
 case rest =>
  clear HC5
  try clear c1
  try clear c2
  try clear p2
  try clear c8
  try clear c8b0
  try clear c9
  try clear c9b0
  try clear c9b1
  try clear c10
  try clear c10b0
  try clear c11
  try clear c12
  try clear c12b0
  try clear c12b1
  try clear c13
  try clear c13b0
  try clear c18
  try clear c18b0
  try clear c18b1
  try clear c19
  try clear c19b0
  try clear c23
  try clear c23b0
  try clear c23b1
  try clear c24
  try clear c24b0
  try clear hcz14_0
  try clear hcz14_1
  try clear hcz15_0
  try clear hcz15_1
  try clear hcz16_0
  try clear hcz16_1
  try clear hcz17_0
  try clear hcz17_1
  try clear hcz20_0
  try clear hcz20_1
  try clear hcz21_0
  try clear hcz21_1
  try clear hcz22_0
  try clear hcz22_1
  try clear hcz25_0
  try clear hcz25_1
  try clear hcz26_0
  try clear hcz26_1
  try clear hcz7_0
  try clear hcz7_1
  try clear hfz14_0
  try clear hfz14_1
  try clear hfz15_0
  try clear hfz15_1
  try clear hfz16_0
  try clear hfz16_1
  try clear hfz17_0
  try clear hfz17_1
  try clear hfz20_0
  try clear hfz20_1
  try clear hfz21_0
  try clear hfz21_1
  try clear hfz22_0
  try clear hfz22_1
  try clear hfz25_0
  try clear hfz25_1
  try clear hfz26_0
  try clear hfz26_1
  try clear hfz7_0
  try clear hfz7_1
  obtain ⟨kq, x13_4, rfl, HA, HJ4, BK134, HB⟩ := hcut
  cases kq with
  | zero => exact absurd HA.out (by simp [newyear_Delay.j0])
  | succ kj4 =>
   have H := HA.out
   clear HA
   simp only [newyear_Delay.j0] at H
   by_cases c27 : x13_4 = true
   ·
    subst c27
    have H1 : ((newyear_bad.f (Int.tmod (wrap64 (t135 + 1)) 7)).bind fun t136 => (if t136 = true then (some 2) else (some 1))) = some r := by rw [if_pos rfl] at H; exact H
    clear H
    have H := H1
    clear H1
    replace H := zz14.mp H
    obtain ⟨t136, A280, H⟩ := H
    replace H : (if t136 = true then (some 2) else (some 1)) = some r := H
    have A28 := zz00 A280
    clear A280
    by_cases c29 : t136 = true
    ·
     subst c29
     have H1 : (some 2) = some r := by rw [if_pos rfl] at H; exact H
     clear H
     have H := H1
     clear H1
     obtain rfl := Option.some.inj H
     go_wp2_with (first|((with_reducible refine zz23 (f:=183) rfl ?_);refine zz25 (some 42) rfl rfl Tryz.func183 (by kernel_rfl) rfl #[.int .i64 (Int.tmod (wrap64 (t135 + 1)) 7)] rfl (by (try simp only [List.map_toArray,List.map_cons,List.map_nil]);first|done|rfl|(simp only [List.length_drop,List.length_take];rfl)) ?_;(with_reducible refine (newyear_bad.calls (Int.tmod (wrap64 (t135 + 1)) 7) true _ A28.out).mono ?_);rintro e w' ⟨rfl,⟨nd,rfl⟩⟩;refine ⟨_,rfl,?_⟩))
     go_ret
     exact ⟨by first|rfl|(simp [errW_none,errW_some] <;> rfl)|(simp [*,errW_none,errW_some] <;> rfl),by repeat (first|(with_reducible first|exact HB.out|apply zz03|apply zz01|apply zz02|refine zz10 ?_ GE134.out)|exact HB.out)⟩
    ·
     replace c29 := zz32.mpr c29
     subst c29
     have H1 : (some 1) = some r := by rw [if_neg (show ¬ (false = true) by decide)] at H; exact H
     clear H
     have H := H1
     clear H1
     obtain rfl := Option.some.inj H
     go_wp2_with (first|((with_reducible refine zz23 (f:=183) rfl ?_);refine zz25 (some 42) rfl rfl Tryz.func183 (by kernel_rfl) rfl #[.int .i64 (Int.tmod (wrap64 (t135 + 1)) 7)] rfl (by (try simp only [List.map_toArray,List.map_cons,List.map_nil]);first|done|rfl|(simp only [List.length_drop,List.length_take];rfl)) ?_;(with_reducible refine (newyear_bad.calls (Int.tmod (wrap64 (t135 + 1)) 7) false _ A28.out).mono ?_);rintro e w' ⟨rfl,⟨nd,rfl⟩⟩;refine ⟨_,rfl,?_⟩))
     go_ret
     exact ⟨by first|rfl|(simp [errW_none,errW_some] <;> rfl)|(simp [*,errW_none,errW_some] <;> rfl),by repeat (first|(with_reducible first|exact HB.out|apply zz03|apply zz01|apply zz02|refine zz10 ?_ GE134.out)|exact HB.out)⟩
   ·
    replace c27 := zz32.mpr c27
    subst c27
    have H1 : ((newyear_bad.f t135).bind fun t137 => (if t137 = true then (some 1) else (some 0))) = some r := by rw [if_neg (show ¬ (false = true) by decide)] at H; exact H
    clear H
    have H := H1
    clear H1
    replace H := zz14.mp H
    obtain ⟨t137, A300, H⟩ := H
    replace H : (if t137 = true then (some 1) else (some 0)) = some r := H
    have A30 := zz00 A300
    clear A300
    by_cases c31 : t137 = true
    ·
     subst c31
     have H1 : (some 1) = some r := by rw [if_pos rfl] at H; exact H
     clear H
     have H := H1
     clear H1
     obtain rfl := Option.some.inj H
     go_wp2_with (first|((with_reducible refine zz23 (f:=183) rfl ?_);refine zz25 (some 45) rfl rfl Tryz.func183 (by kernel_rfl) rfl #[.int .i64 t135] rfl (by (try simp only [List.map_toArray,List.map_cons,List.map_nil]);first|done|rfl|(simp only [List.length_drop,List.length_take];rfl)) ?_;(with_reducible refine (newyear_bad.calls t135 true _ A30.out).mono ?_);rintro e w' ⟨rfl,⟨nd,rfl⟩⟩;refine ⟨_,rfl,?_⟩))
     go_ret
     exact ⟨by first|rfl|(simp [errW_none,errW_some] <;> rfl)|(simp [*,errW_none,errW_some] <;> rfl),by repeat (first|(with_reducible first|exact HB.out|apply zz03|apply zz01|apply zz02|refine zz10 ?_ GE134.out)|exact HB.out)⟩
    ·
     replace c31 := zz32.mpr c31
     subst c31
     have H1 : (some 0) = some r := by rw [if_neg (show ¬ (false = true) by decide)] at H; exact H
     clear H
     have H := H1
     clear H1
     obtain rfl := Option.some.inj H
     go_wp2_with (first|((with_reducible refine zz23 (f:=183) rfl ?_);refine zz25 (some 45) rfl rfl Tryz.func183 (by kernel_rfl) rfl #[.int .i64 t135] rfl (by (try simp only [List.map_toArray,List.map_cons,List.map_nil]);first|done|rfl|(simp only [List.length_drop,List.length_take];rfl)) ?_;(with_reducible refine (newyear_bad.calls t135 false _ A30.out).mono ?_);rintro e w' ⟨rfl,⟨nd,rfl⟩⟩;refine ⟨_,rfl,?_⟩))
     go_ret
     exact ⟨by first|rfl|(simp [errW_none,errW_some] <;> rfl)|(simp [*,errW_none,errW_some] <;> rfl),by repeat (first|(with_reducible first|exact HB.out|apply zz03|apply zz01|apply zz02|refine zz10 ?_ GE134.out)|exact HB.out)⟩

def newyear_First.f (k : Nat) (a0 : Int) : Option (Int × Int) := (molad_Of.f k a0 1).bind fun bt138 => (if bt138.2.2 = 0 then ((cycle_Leap.f a0).bind fun bt142 => ((cycle_Leap.f (wrap64 (a0 - 1))).bind fun bt144 => ((newyear_Delay.f k bt138.1 bt138.2.1 bt142.1 bt144.1).bind fun t146 => (some (wrap64 (bt138.1 + t146), 0))))) else (some (0, bt138.2.2)))
def newyear_First.T6 : Bool × List (List Nat × List Nat) := (true, [([], []), ([0], [0]), ([], []), ([], []), ([], []), ([2, 3, 4], [2, 3, 4]), ([1, 5], [1, 5]), ([6, 5, 0, 1, 2, 3, 4, 5, 6], [6]), ([7, 0, 1, 2, 3, 4, 5, 6, 7], [])])
def newyear_First.B6 : List Nat := [0, 1, 0, 0, 0, 28, 63, 127, 255]
theorem newyear_First.tab6 : rtab .any (opsOf Tryz.f80 6) = newyear_First.T6 := by kernel_rfl
theorem newyear_First.bits6 : waitsOk newyear_First.T6.2 newyear_First.B6 = true := by kernel_rfl
set_option maxHeartbeats 8000000 in
set_option maxRecDepth 100000 in
theorem newyear_First.calls (k : Nat) (a0 : Int) (r1 : Int) (r2 : Int) (w : World) (h : newyear_First.f k a0 = some (r1, r2)) :
  Calls Tryz.prog 80 #[.int .i64 a0] w fun e w' => e = .returned (.tuple #[.int .i64 r1, .int .i64 r2]) ∧ Below w.heap.size w w' := by
 have hu147 := Tryz.underlying147
 have HB := zz00 (Below.refl w.heap.size w)
 have H : ((molad_Of.f k a0 1).bind fun bt138=>(if bt138.2.2 = 0 then ((cycle_Leap.f a0).bind fun bt142=>((cycle_Leap.f (wrap64 (a0 - 1))).bind fun bt144=>((newyear_Delay.f k bt138.1 bt138.2.1 bt142.1 bt144.1).bind fun t146=>(some (wrap64 (bt138.1 + t146),0))))) else (some (0,bt138.2.2)))) = some (r1,r2):=h
 clear h
 replace H := zz14.mp H
 obtain ⟨⟨t138, t139, t140⟩, A20, H⟩ := H
 replace H : (if t140 = 0 then ((cycle_Leap.f a0).bind fun bt142=>((cycle_Leap.f (wrap64 (a0 - 1))).bind fun bt144=>((newyear_Delay.f k t138 t139 bt142.1 bt144.1).bind fun t146=>(some (wrap64 (t138 + t146),0))))) else (some (0,t140))) = some (r1,r2):=H
 have A2 := zz00 A20
 clear A20
 by_cases c3 : t140 = 0
 ·
  rw [if_pos c3] at H
  have c3b0 : (t140 == 0) = true := zz29.mpr c3
  have c3b1 : (t140 != 0) = false := zz26.mpr c3
  clear c3
  replace H := zz14.mp H
  obtain ⟨⟨t142, t143⟩, A40, H⟩ := H
  replace H : ((cycle_Leap.f (wrap64 (a0 - 1))).bind fun bt144 => ((newyear_Delay.f k t138 t139 t142 bt144.1).bind fun t146 => (some (wrap64 (t138 + t146), 0)))) = some (r1, r2) := H
  have A4 := zz00 A40
  clear A40
  replace H := zz14.mp H
  obtain ⟨⟨t144, t145⟩, A50, H⟩ := H
  replace H : ((newyear_Delay.f k t138 t139 t142 t144).bind fun t146 => (some (wrap64 (t138 + t146), 0))) = some (r1, r2) := H
  have A5 := zz00 A50
  clear A50
  replace H := zz14.mp H
  obtain ⟨t146, A60, H⟩ := H
  replace H : (some (wrap64 (t138 + t146), 0)) = some (r1, r2) := H
  have A6 := zz00 A60
  clear A60
  simp only [zz15, zz16] at H
  obtain ⟨rfl, rfl⟩ := H
  go_enter Tryz.func80, Tryz.ntmps80
  try go_wp2_with (first|((with_reducible refine zz23 (f:=131) rfl ?_);refine zz25 (some 12) rfl rfl Tryz.func131 (by kernel_rfl) rfl #[.int .i64 a0,.int .i64 1] rfl (by (try simp only [List.map_toArray,List.map_cons,List.map_nil]);first|done|rfl|(simp only [List.length_drop,List.length_take];rfl)) ?_;(with_reducible refine (molad_Of.calls k a0 1 t138 t139 t140 _ A2.out).mono ?_);rintro e w7 ⟨rfl,hb⟩;refine ⟨_,rfl,?_⟩;have n0_:=zz00 (zz21 (by repeat (first|(with_reducible first|exact HB.out|apply zz03|apply zz01|apply zz02)|exact HB.out)) hb);clear HB;have HB:=n0_;clear n0_;(try clear hb);(try clear hb2);(try clear hk);(try clear hi))|((with_reducible refine zz24 (N:=4) rfl ?_);refine zz30 ?hg (N:=4) ?hd (cs:=#[.int .i64 0,.int .i64 0]) (t:=147) ?hr ?_;(case hd=>rfl);(case hg=>rfl);(case hr=>first|(go_simp;done)|(go_simp;rfl));intro gb141 hg w8 hbox hb;have n0_:=zz00 (zz21 (by repeat (first|(with_reducible first|exact HB.out|apply zz03|apply zz01|apply zz02)|exact HB.out)) hb);have n1_:=zz00 (hbox);have n2_:=zz00 ((by rw [hg];exact (zz22 (by repeat (first|(with_reducible first|exact HB.out|apply zz03|apply zz01|apply zz02)|exact HB.out))) : w.heap.size ≤ gb141));have n3_:=zz00 ((by rw [hg];exact (zz22 (by repeat (first|(with_reducible first|exact HB.out|apply zz03|apply zz01|apply zz02)|exact HB.out))) : w.heap.size ≤ gb141));clear HB;have HB:=n0_;have BK141:=n1_;have GW141:=n2_;have GE141:=n3_;clear n0_ n1_ n2_ n3_;clear hb hbox hg;have hcz9_0 : w8.cell? ⟨gb141,0,none⟩ = some (.int .i64 0):=(zz18 BK141.out 0).trans rfl;have hcz9_1 : w8.cell? ⟨gb141,1,none⟩ = some (.int .i64 0):=(zz18 BK141.out 1).trans rfl;have hfz9_0:=zz17 BK141.out 0;have hfz9_1:=zz17 BK141.out 1)|((with_reducible refine zz23 (f:=103) rfl ?_);refine zz25 (some 20) rfl rfl Tryz.func103 (by kernel_rfl) rfl #[.int .i64 a0] rfl (by (try simp only [List.map_toArray,List.map_cons,List.map_nil]);first|done|rfl|(simp only [List.length_drop,List.length_take];rfl)) ?_;(with_reducible refine (cycle_Leap.calls a0 t142 t143 _ A4.out).mono ?_);rintro e w' ⟨rfl,⟨nd,rfl⟩⟩;refine ⟨_,rfl,?_⟩)|((with_reducible refine zz23 (f:=103) rfl ?_);refine zz25 (some 26) rfl rfl Tryz.func103 (by kernel_rfl) rfl #[.int .i64 (wrap64 (a0 - 1))] rfl (by (try simp only [List.map_toArray,List.map_cons,List.map_nil]);first|done|rfl|(simp only [List.length_drop,List.length_take];rfl)) ?_;(with_reducible refine (cycle_Leap.calls (wrap64 (a0 - 1)) t144 t145 _ A5.out).mono ?_);rintro e w' ⟨rfl,⟨nd,rfl⟩⟩;refine ⟨_,rfl,?_⟩))
  have n0_ : Aside0 (((w8.setCell ⟨gb141,0,none⟩ (.int .i64 t138)).setCell ⟨gb141,1,none⟩ (.int .i64 t139)).heap[gb141]? = some (.cells #[.int .i64 t138,.int .i64 t139] 147 (0,0))):=⟨by (with_reducible repeat (first|refine zz07 ?_ _|refine zz09 ?_|refine zz08 ?_ _));refine zz35 (cs:=#[.int .i64 t138,.int .i64 0]) ?_ 1 _ rfl;(with_reducible repeat (first|refine zz07 ?_ _|refine zz09 ?_|refine zz08 ?_ _));refine zz35 (cs:=#[.int .i64 0,.int .i64 0]) ?_ 0 _ rfl;(with_reducible repeat (first|refine zz07 ?_ _|refine zz09 ?_|refine zz08 ?_ _));exact BK141.out⟩
  have n1_ : Aside0 (Below w.heap.size w ((w8.setCell ⟨gb141,0,none⟩ (.int .i64 t138)).setCell ⟨gb141,1,none⟩ (.int .i64 t139))):=⟨by repeat (first|(with_reducible first|exact HB.out|apply zz03|apply zz01|apply zz02|refine zz10 ?_ GE141.out)|exact HB.out)⟩
  (try clear BK141)
  (try clear HB)
  generalize ((w8.setCell ⟨gb141, 0, none⟩ (.int .i64 t138)).setCell ⟨gb141, 1, none⟩ (.int .i64 t139)) = w10 at n0_ n1_ ⊢
  have BK141 := n0_
  have HB := n1_
  clear n0_ n1_
  (try (rw [drewN_self w10];generalize hq_ : World.drewN w10 _ = w10;have n0_ : Aside0 (w10.heap[gb141]? = some (.cells #[.int .i64 t138,.int .i64 t139] 147 (0,0))):=⟨by rw [← hq_];exact (by (with_reducible repeat (first|refine zz07 ?_ _|refine zz09 ?_|refine zz08 ?_ _));exact BK141.out)⟩;have n1_ : Aside0 (Below w.heap.size w w10):=⟨by rw [← hq_];exact (by repeat (first|(with_reducible first|exact HB.out|apply zz03|apply zz01|apply zz02|refine zz10 ?_ GE141.out)|exact HB.out))⟩;clear BK141 HB hq_;have BK141:=n0_;have HB:=n1_;clear n0_ n1_))
  have n0_ := zz00 (zz09 BK141.out)
  have n1_ := zz00 (zz02 HB.out)
  clear BK141
  clear HB
  have BK141 := n0_
  have HB := n1_
  clear n0_ n1_
  refine start_ (n:=9) (S:=fun w'=>w'.cell? ⟨gb141,0,none⟩ = some (.int .i64 t138) ∧ w'.cell? ⟨gb141,1,none⟩ = some (.int .i64 t139)) (ds:=[]) #[false,false,false,false,false,false,false,false,false] (by kernel_rfl) rfl rfl ⟨(zz18 BK141.out 0).trans rfl,(zz18 BK141.out 1).trans rfl⟩ (fun hHeld=>?_);refine with_tabW newyear_First.tab6 newyear_First.bits6 (fun HT_ HW_=>?_)
  generalize w10.drew = w11 at BK141 HB hHeld ⊢
  refine pure_ (i:=0) (N:=some 29) (v:=?_) (a':=?_) #[true,false,false,false,false,false,false,false,false] rfl rfl (any_of HT_.out (by kernel_rfl)) (fun _ _ _ h=>h) (Or.inl ⟨by rfl,?_⟩) ?_ ?_
  rotate_left
  ·
   intro w'
   go_simp
   with_reducible rfl
  rotate_left
  ·
   simp only [Act.put, zz11, zz12, zz13, i64_w, i32_w]
   rfl
  refine pure_ (i:=3) (N:=some 32) (v:=?_) (a':=?_) #[true,false,false,true,false,false,false,false,false] rfl rfl (any_of HT_.out (by kernel_rfl)) (fun _ _ _ h=>h) (Or.inl ⟨by rfl,?_⟩) ?_ ?_
  rotate_left
  ·
   intro w'
   go_simp
   with_reducible rfl
  rotate_left
  ·
   simp only [Act.put, zz11, zz12, zz13, i64_w, i32_w]
   rfl
  refine pure_ (i:=4) (N:=some 33) (v:=?_) (a':=?_) #[true,false,false,true,true,false,false,false,false] rfl rfl (any_of HT_.out (by kernel_rfl)) (fun _ _ _ h=>h) (Or.inl ⟨by rfl,?_⟩) ?_ ?_
  rotate_left
  ·
   intro w'
   go_simp
   with_reducible rfl
  rotate_left
  ·
   simp only [Act.put, zz11, zz12, zz13, i64_w, i32_w]
   rfl
  refine take_ (i:=1) (N:=some 30) (v:=?_) (a':=?_) #[true,true,false,true,true,false,false,false,false] rfl rfl (take_ofW HT_.out HW_.out (by kernel_rfl)) (fun _ _ _ h=>h) (Or.inl ⟨by rfl,?_⟩) hHeld ?_ ?_
  rotate_left
  ·
   rintro w' ⟨s0, s1⟩
   go_simp
   with_reducible rfl
  rotate_left
  ·
   simp only [Act.put, zz11, zz12, zz13, i64_w, i32_w]
   rfl
  refine take_ (i:=2) (N:=some 31) (v:=?_) (a':=?_) #[true,true,true,true,true,false,false,false,false] rfl rfl (take_ofW HT_.out HW_.out (by kernel_rfl)) (fun _ _ _ h=>h) (Or.inl ⟨by rfl,?_⟩) hHeld ?_ ?_
  rotate_left
  ·
   rintro w' ⟨s0, s1⟩
   go_simp
   with_reducible rfl
  rotate_left
  ·
   simp only [Act.put, zz11, zz12, zz13, i64_w, i32_w]
   rfl
  refine one_ (i := 5) (N := some 34) #[true, true, true, true, true, true, false, false, false] rfl rfl (one_of HT_.out (by kernel_rfl)) (by decide) (fun K hK => ?_)
  refine goes_ Tryz.func132 (by kernel_rfl) rfl #[.agg #[.int .i64 t138,.int .i64 t139],.bool t142,.bool t144] (by rfl) rfl rfl (by (try simp only [List.map_toArray,List.map_cons,List.map_nil]);first|done|rfl|(simp only [List.length_drop,List.length_take];rfl)) ?_
  with_reducible refine (newyear_Delay.calls k t138 t139 t142 t144 t146 _ A6.out).mono ?_
  rintro e w12 ⟨rfl, hb⟩
  refine ⟨_, rfl, ?_⟩
  have n0_:=zz00 (zz34 (g:=gb141) (o:=.cells #[.int .i64 t138,.int .i64 t139] 147 (0,0)) (by (with_reducible repeat (first|refine zz07 ?_ _|refine zz09 ?_|refine zz08 ?_ _));exact BK141.out) hb)
  have n1_:=zz00 (zz21 (by repeat (first|(with_reducible first|exact HB.out|apply zz03|apply zz01|apply zz02|refine zz10 ?_ GE141.out)|exact HB.out)) hb)
  clear BK141
  clear HB
  have BK141 := n0_
  have HB := n1_
  clear n0_ n1_
  (try clear hb)
  (try clear hb2)
  (try clear hk)
  (try clear hi)
  refine hK.out _ _ ⟨(zz18 BK141.out 0).trans rfl, (zz18 BK141.out 1).trans rfl⟩ (fun hHeld => ?_)
  clear hK K
  refine norm_ (a' := ?_) ?_ ?_
  rotate_left
  ·
   show Act.put _ (some 34) _ = _
   simp only [Act.put, zz11, zz12, zz13, i64_w, i32_w]
   rfl
  refine pure_ (i:=6) (N:=some 35) (v:=?_) (a':=?_) #[true,true,true,true,true,true,true,false,false] rfl rfl (any_of HT_.out (by kernel_rfl)) (fun _ _ _ h=>h) (Or.inl ⟨by rfl,?_⟩) ?_ ?_
  rotate_left
  ·
   intro w'
   go_simp
   with_reducible rfl
  rotate_left
  ·
   simp only [Act.put, zz11, zz12, zz13, i64_w, i32_w]
   rfl
  refine pure_ (i:=7) (N:=some 2) (v:=?_) (a':=?_) #[true,true,true,true,true,true,true,true,false] rfl rfl (any_of HT_.out (by kernel_rfl)) (fun _ _ _ h=>h) (Or.inl ⟨by rfl,?_⟩) ?_ ?_
  rotate_left
  ·
   intro w'
   go_simp
   with_reducible rfl
  rotate_left
  ·
   simp only [Act.put, zz11, zz12, zz13, i64_w, i32_w]
   rfl
  refine pure_ (i:=8) (N:=some 3) (v:=?_) (a':=?_) #[true,true,true,true,true,true,true,true,true] rfl rfl (any_of HT_.out (by kernel_rfl)) (fun _ _ _ h=>h) (Or.inl ⟨by rfl,?_⟩) ?_ ?_
  rotate_left
  ·
   intro w'
   go_simp
   with_reducible rfl
  rotate_left
  ·
   simp only [Act.put, zz11, zz12, zz13, i64_w, i32_w]
   rfl
  refine done_ (done_of HT_.out (by kernel_rfl)) ?_
  try go_wp2
  go_ret2
  exact ⟨by first|rfl|(simp [errW_none,errW_some] <;> rfl)|(simp [*,errW_none,errW_some] <;> rfl),by repeat (first|(with_reducible first|exact HB.out|apply zz03|apply zz01|apply zz02|refine zz10 ?_ GE141.out)|exact HB.out)⟩
 ·
  rw [if_neg c3] at H
  have c3b0 : (t140 == 0) = false := zz27.mpr c3
  have c3b1 : (t140 != 0) = true := zz28.mpr c3
  simp only [zz15, zz16] at H
  obtain ⟨rfl, rfl⟩ := H
  go_enter Tryz.func80, Tryz.ntmps80
  go_wp2_with (first|((with_reducible refine zz23 (f:=131) rfl ?_);refine zz25 (some 12) rfl rfl Tryz.func131 (by kernel_rfl) rfl #[.int .i64 a0,.int .i64 1] rfl (by (try simp only [List.map_toArray,List.map_cons,List.map_nil]);first|done|rfl|(simp only [List.length_drop,List.length_take];rfl)) ?_;(with_reducible refine (molad_Of.calls k a0 1 t138 t139 t140 _ A2.out).mono ?_);rintro e w13 ⟨rfl,hb⟩;refine ⟨_,rfl,?_⟩;have n0_:=zz00 (zz21 (by repeat (first|(with_reducible first|exact HB.out|apply zz03|apply zz01|apply zz02)|exact HB.out)) hb);clear HB;have HB:=n0_;clear n0_;(try clear hb);(try clear hb2);(try clear hk);(try clear hi))|((with_reducible refine zz24 (N:=4) rfl ?_);refine zz30 ?hg (N:=4) ?hd (cs:=#[.int .i64 0,.int .i64 0]) (t:=147) ?hr ?_;(case hd=>rfl);(case hg=>rfl);(case hr=>first|(go_simp;done)|(go_simp;rfl));intro gb141 hg w14 hbox hb;have n0_:=zz00 (zz21 (by repeat (first|(with_reducible first|exact HB.out|apply zz03|apply zz01|apply zz02)|exact HB.out)) hb);have n1_:=zz00 (hbox);have n2_:=zz00 ((by rw [hg];exact (zz22 (by repeat (first|(with_reducible first|exact HB.out|apply zz03|apply zz01|apply zz02)|exact HB.out))) : w.heap.size ≤ gb141));have n3_:=zz00 ((by rw [hg];exact (zz22 (by repeat (first|(with_reducible first|exact HB.out|apply zz03|apply zz01|apply zz02)|exact HB.out))) : w.heap.size ≤ gb141));clear HB;have HB:=n0_;have BK141:=n1_;have GW141:=n2_;have GE141:=n3_;clear n0_ n1_ n2_ n3_;clear hb hbox hg;have hcz15_0 : w14.cell? ⟨gb141,0,none⟩ = some (.int .i64 0):=(zz18 BK141.out 0).trans rfl;have hcz15_1 : w14.cell? ⟨gb141,1,none⟩ = some (.int .i64 0):=(zz18 BK141.out 1).trans rfl;have hfz15_0:=zz17 BK141.out 0;have hfz15_1:=zz17 BK141.out 1))
  go_ret2
  exact ⟨by first|rfl|(simp [errW_none,errW_some] <;> rfl)|(simp [*,errW_none,errW_some] <;> rfl),by repeat (first|(with_reducible first|exact HB.out|apply zz03|apply zz01|apply zz02|refine zz10 ?_ GE141.out)|exact HB.out)⟩

end Go.Proofs.YtflpddhoiafhcaaGreatDoor.R
end

section
-- Written by wip/hprint.py of this repo (holes typed by hand, all else by a program) over the seat YtflpddhoiafhcaaGreatDoor.
namespace Go.Proofs.YtflpddhoiafhcaaGreatDoor.R
open Go.Proofs.YtflpddhoiafhcaaGreatDoor.H
open Go.RowKit Go.Proofs.YtflpddhoiafhcaaGreatDoorW.PrintWords Go.Proofs.YtflpddhoiafhcaaGreatDoorW.PrintLast Go.Proofs.YtflpddhoiafhcaaGreatDoorW.PrintMore
attribute [local go_sem] max2_int min2_int max_two min_two max_three min_three max_four min_four   -- for this text's walks alone
set_option linter.unusedVariables false
set_option linter.unusedSimpArgs false

def keviah_Long.j0 : Nat → Int → Bool → Option (Int × Int)
  | 0, _, _ => none
  | k + 1, x0, x13 => if x13 = true then (some (0, 2)) else ((newyear_First.f k x0).bind fun bt147 => ((newyear_First.f k (wrap64 (x0 + 1))).bind fun bt149 => (some (wrap64 (bt149.1 - bt147.1), 0))))
def keviah_Long.f (k : Nat) (a0 : Int) : Option (Int × Int) := if a0 < 1 then (keviah_Long.j0 k a0 true) else (keviah_Long.j0 k a0 (decide (a0 > 9999)))
set_option maxHeartbeats 8000000 in
set_option maxRecDepth 100000 in
theorem keviah_Long.calls (k : Nat) (a0 : Int) (r1 : Int) (r2 : Int) (w : World) (h : keviah_Long.f k a0 = some (r1, r2)) :
  Calls Tryz.prog 143 #[.int .i64 a0] w fun e w' => e = .returned (.tuple #[.int .i64 r1, .int .i64 r2]) ∧ Below w.heap.size w w' := by
 have HB := zz00 (Below.refl w.heap.size w)
 have H : (if a0 < 1 then (keviah_Long.j0 k a0 true) else (keviah_Long.j0 k a0 (decide (a0 > 9999)))) = some (r1, r2) := h
 clear h
 have HC2 := zz00 H
 clear H
 go_enter Tryz.func143, Tryz.ntmps143
 go_upto_region 1 with (fail)
 go_cut [13] (fun v13 wc => ∃ (kq : Nat) (x13_1 : Bool), v13 = .bool x13_1 ∧ Aside0 (keviah_Long.j0 kq a0 x13_1 = some (r1, r2)) ∧ Aside0 (kq ≤ k) ∧ Aside0 (Below w.heap.size w wc))
 case first =>
  have H := HC2.out
  clear HC2
  by_cases c3 : a0 < 1
  ·
   rw [if_pos c3] at H
   have c3b0 : decide (a0 < 1) = true := decide_eq_true c3
   clear c3
   (first | rw [c3b0] | (simp only [i64_w, i32_w]; rw [c3b0]) | skip)
   have H' := zz00 H
   clear H
   go_wp2
   go_meet
   case rel=>exact ⟨_,(true),(by first|rfl|(simp;done)|(simp [*];done)),H',⟨by first|omega|exact Nat.le_refl _⟩,⟨by repeat (first|(with_reducible first|exact HB.out|apply zz03|apply zz01|apply zz02)|exact HB.out)⟩⟩
  ·
   rw [if_neg c3] at H
   have c3b0 : decide (a0 < 1) = false := decide_eq_false c3
   clear c3
   (first | rw [c3b0] | (simp only [i64_w, i32_w]; rw [c3b0]) | skip)
   have H' := zz00 H
   clear H
   go_wp2
   go_meet
   case rel=>exact ⟨_,(decide (a0 > 9999)),(by first|rfl|(simp;done)|(simp [*];done)),H',⟨by first|omega|exact Nat.le_refl _⟩,⟨by repeat (first|(with_reducible first|exact HB.out|apply zz03|apply zz01|apply zz02)|exact HB.out)⟩⟩
 case rest =>
  clear HC2
  try clear c1
  try clear p2
  try clear c3
  try clear c3b0
  obtain ⟨kq, x13_1, rfl, HA, HJ1, HB⟩ := hcut
  cases kq with
  | zero => exact absurd HA.out (by simp [keviah_Long.j0])
  | succ kj1 =>
   have H := HA.out
   clear HA
   simp only [keviah_Long.j0] at H
   by_cases c4 : x13_1 = true
   ·
    subst c4
    have H1 : (some (0, 2)) = some (r1, r2) := by rw [if_pos rfl] at H; exact H
    clear H
    have H := H1
    clear H1
    simp only [zz15, zz16] at H
    obtain ⟨rfl, rfl⟩ := H
    go_wp2
    go_ret2
    exact ⟨by first|rfl|(simp [errW_none,errW_some] <;> rfl)|(simp [*,errW_none,errW_some] <;> rfl),by repeat (first|(with_reducible first|exact HB.out|apply zz03|apply zz01|apply zz02)|exact HB.out)⟩
   ·
    replace c4 := zz32.mpr c4
    subst c4
    have H1 : ((newyear_First.f kj1 a0).bind fun bt147=>((newyear_First.f kj1 (wrap64 (a0 + 1))).bind fun bt149=>(some (wrap64 (bt149.1 - bt147.1),0)))) = some (r1,r2):=by rw [if_neg (show ¬ (false = true) by decide)] at H;exact H
    clear H
    have H := H1
    clear H1
    replace H := zz14.mp H
    obtain ⟨⟨t147, t148⟩, A50, H⟩ := H
    replace H : ((newyear_First.f kj1 (wrap64 (a0 + 1))).bind fun bt149 => (some (wrap64 (bt149.1 - t147), 0))) = some (r1, r2) := H
    have A5 := zz00 A50
    clear A50
    replace H := zz14.mp H
    obtain ⟨⟨t149, t150⟩, A60, H⟩ := H
    replace H : (some (wrap64 (t149 - t147), 0)) = some (r1, r2) := H
    have A6 := zz00 A60
    clear A60
    simp only [zz15, zz16] at H
    obtain ⟨rfl, rfl⟩ := H
    go_wp2_with (first|((with_reducible refine zz23 (f:=80) rfl ?_);refine zz25 (some 16) rfl rfl Tryz.func80 (by kernel_rfl) rfl #[.int .i64 a0] rfl (by (try simp only [List.map_toArray,List.map_cons,List.map_nil]);first|done|rfl|(simp only [List.length_drop,List.length_take];rfl)) ?_;(with_reducible refine (newyear_First.calls kj1 a0 t147 t148 _ A5.out).mono ?_);rintro e w7 ⟨rfl,hb⟩;refine ⟨_,rfl,?_⟩;have n0_:=zz00 (zz21 (by repeat (first|(with_reducible first|exact HB.out|apply zz03|apply zz01|apply zz02)|exact HB.out)) hb);clear HB;have HB:=n0_;clear n0_;(try clear hb);(try clear hb2);(try clear hk);(try clear hi))|((with_reducible refine zz23 (f:=80) rfl ?_);refine zz25 (some 22) rfl rfl Tryz.func80 (by kernel_rfl) rfl #[.int .i64 (wrap64 (a0 + 1))] rfl (by (try simp only [List.map_toArray,List.map_cons,List.map_nil]);first|done|rfl|(simp only [List.length_drop,List.length_take];rfl)) ?_;(with_reducible refine (newyear_First.calls kj1 (wrap64 (a0 + 1)) t149 t150 _ A6.out).mono ?_);rintro e w8 ⟨rfl,hb⟩;refine ⟨_,rfl,?_⟩;have n0_:=zz00 (zz21 (by repeat (first|(with_reducible first|exact HB.out|apply zz03|apply zz01|apply zz02)|exact HB.out)) hb);clear HB;have HB:=n0_;clear n0_;(try clear hb);(try clear hb2);(try clear hk);(try clear hi)))
    go_ret2
    exact ⟨by first|rfl|(simp [errW_none,errW_some] <;> rfl)|(simp [*,errW_none,errW_some] <;> rfl),by repeat (first|(with_reducible first|exact HB.out|apply zz03|apply zz01|apply zz02)|exact HB.out)⟩

def keviah_Of.f (k : Nat) (a0 : Int) : Option (Int × Int × Bool × Int) := (keviah_Long.f k a0).bind fun bt152 => (if bt152.2 = 0 then ((newyear_First.f k a0).bind fun bt154 => ((cycle_Leap.f a0).bind fun bt156 => ((molad_Weekday.f bt154.1).bind fun t158 => (some (t158, Int.tmod (wrap64 (bt152.1 - 353)) 30, bt156.1, 0))))) else (some (0, 0, false, bt152.2)))
set_option maxHeartbeats 8000000 in
set_option maxRecDepth 100000 in
theorem keviah_Of.calls (k : Nat) (a0 : Int) (r1 : Int) (r2 : Int) (r3 : Bool) (r4 : Int) (w : World) (h : keviah_Of.f k a0 = some (r1, r2, r3, r4)) :
  Calls Tryz.prog 93 #[.int .i64 a0] w fun e w' => e = .returned (.tuple #[.agg #[.int .i64 r1, .int .i64 r2, .bool r3], .int .i64 r4]) ∧ Below w.heap.size w w' := by
 have hu93 := Tryz.underlying93
 have HB := zz00 (Below.refl w.heap.size w)
 have H : ((keviah_Long.f k a0).bind fun bt152=>(if bt152.2 = 0 then ((newyear_First.f k a0).bind fun bt154=>((cycle_Leap.f a0).bind fun bt156=>((molad_Weekday.f bt154.1).bind fun t158=>(some (t158,Int.tmod (wrap64 (bt152.1 - 353)) 30,bt156.1,0))))) else (some (0,0,false,bt152.2)))) = some (r1,r2,r3,r4):=h
 clear h
 replace H := zz14.mp H
 obtain ⟨⟨t152, t153⟩, A20, H⟩ := H
 replace H : (if t153 = 0 then ((newyear_First.f k a0).bind fun bt154=>((cycle_Leap.f a0).bind fun bt156=>((molad_Weekday.f bt154.1).bind fun t158=>(some (t158,Int.tmod (wrap64 (t152 - 353)) 30,bt156.1,0))))) else (some (0,0,false,t153))) = some (r1,r2,r3,r4):=H
 have A2 := zz00 A20
 clear A20
 by_cases c3 : t153 = 0
 ·
  rw [if_pos c3] at H
  have c3b0 : (t153 == 0) = true := zz29.mpr c3
  have c3b1 : (t153 != 0) = false := zz26.mpr c3
  clear c3
  replace H := zz14.mp H
  obtain ⟨⟨t154, t155⟩, A40, H⟩ := H
  replace H : ((cycle_Leap.f a0).bind fun bt156 => ((molad_Weekday.f t154).bind fun t158 => (some (t158, Int.tmod (wrap64 (t152 - 353)) 30, bt156.1, 0)))) = some (r1, r2, r3, r4) := H
  have A4 := zz00 A40
  clear A40
  replace H := zz14.mp H
  obtain ⟨⟨t156, t157⟩, A50, H⟩ := H
  replace H : ((molad_Weekday.f t154).bind fun t158 => (some (t158, Int.tmod (wrap64 (t152 - 353)) 30, t156, 0))) = some (r1, r2, r3, r4) := H
  have A5 := zz00 A50
  clear A50
  replace H := zz14.mp H
  obtain ⟨t158, A60, H⟩ := H
  replace H : (some (t158, Int.tmod (wrap64 (t152 - 353)) 30, t156, 0)) = some (r1, r2, r3, r4) := H
  have A6 := zz00 A60
  clear A60
  simp only [zz15, zz16] at H
  obtain ⟨rfl, rfl, rfl, rfl⟩ := H
  go_enter Tryz.func93, Tryz.ntmps93
  go_wp2_with (first|((with_reducible refine zz24 (N:=2) rfl ?_);refine zz30 ?hg (N:=2) ?hd (cs:=#[.int .i64 0,.int .i64 0,.bool false]) (t:=93) ?hr ?_;(case hd=>rfl);(case hg=>rfl);(case hr=>first|(go_simp;done)|(go_simp;rfl));intro gb151 hg w7 hbox hb;have n0_:=zz00 (zz21 (by repeat (first|(with_reducible first|exact HB.out|apply zz03|apply zz01|apply zz02)|exact HB.out)) hb);have n1_:=zz00 (hbox);have n2_:=zz00 ((by rw [hg];exact (zz22 (by repeat (first|(with_reducible first|exact HB.out|apply zz03|apply zz01|apply zz02)|exact HB.out))) : w.heap.size ≤ gb151));have n3_:=zz00 ((by rw [hg];exact (zz22 (by repeat (first|(with_reducible first|exact HB.out|apply zz03|apply zz01|apply zz02)|exact HB.out))) : w.heap.size ≤ gb151));clear HB;have HB:=n0_;have BK151:=n1_;have GW151:=n2_;have GE151:=n3_;clear n0_ n1_ n2_ n3_;clear hb hbox hg)|((with_reducible refine zz23 (f:=143) rfl ?_);refine zz25 (some 12) rfl rfl Tryz.func143 (by kernel_rfl) rfl #[.int .i64 a0] rfl (by (try simp only [List.map_toArray,List.map_cons,List.map_nil]);first|done|rfl|(simp only [List.length_drop,List.length_take];rfl)) ?_;(with_reducible refine (keviah_Long.calls k a0 t152 t153 _ A2.out).mono ?_);rintro e w8 ⟨rfl,hb⟩;refine ⟨_,rfl,?_⟩;have n0_:=zz00 (zz34 (g:=gb151) (o:=.cells #[.int .i64 0,.int .i64 0,.bool false] 93 (0,0)) (by (with_reducible repeat (first|refine zz07 ?_ _|refine zz09 ?_|refine zz08 ?_ _));exact BK151.out) hb);have n1_:=zz00 (zz21 (by repeat (first|(with_reducible first|exact HB.out|apply zz03|apply zz01|apply zz02|refine zz10 ?_ GE151.out)|exact HB.out)) hb);clear BK151;clear HB;have BK151:=n0_;have HB:=n1_;clear n0_ n1_;(try clear hb);(try clear hb2);(try clear hk);(try clear hi))|((with_reducible refine zz23 (f:=80) rfl ?_);refine zz25 (some 21) rfl rfl Tryz.func80 (by kernel_rfl) rfl #[.int .i64 a0] rfl (by (try simp only [List.map_toArray,List.map_cons,List.map_nil]);first|done|rfl|(simp only [List.length_drop,List.length_take];rfl)) ?_;(with_reducible refine (newyear_First.calls k a0 t154 t155 _ A4.out).mono ?_);rintro e w9 ⟨rfl,hb⟩;refine ⟨_,rfl,?_⟩;have n0_:=zz00 (zz34 (g:=gb151) (o:=.cells #[.int .i64 0,.int .i64 0,.bool false] 93 (0,0)) (by (with_reducible repeat (first|refine zz07 ?_ _|refine zz09 ?_|refine zz08 ?_ _));exact BK151.out) hb);have n1_:=zz00 (zz21 (by repeat (first|(with_reducible first|exact HB.out|apply zz03|apply zz01|apply zz02|refine zz10 ?_ GE151.out)|exact HB.out)) hb);clear BK151;clear HB;have BK151:=n0_;have HB:=n1_;clear n0_ n1_;(try clear hb);(try clear hb2);(try clear hk);(try clear hi))|((with_reducible refine zz23 (f:=103) rfl ?_);refine zz25 (some 26) rfl rfl Tryz.func103 (by kernel_rfl) rfl #[.int .i64 a0] rfl (by (try simp only [List.map_toArray,List.map_cons,List.map_nil]);first|done|rfl|(simp only [List.length_drop,List.length_take];rfl)) ?_;(with_reducible refine (cycle_Leap.calls a0 t156 t157 _ A5.out).mono ?_);rintro e w' ⟨rfl,⟨nd,rfl⟩⟩;refine ⟨_,rfl,?_⟩;(try (rw [drewN_self w9];generalize hq_ : World.drewN w9 _ = w9;have n0_ : Aside0 (w9.heap[gb151]? = some (.cells #[.int .i64 0,.int .i64 0,.bool false] 93 (0,0))):=⟨by rw [← hq_];exact (by (with_reducible repeat (first|refine zz07 ?_ _|refine zz09 ?_|refine zz08 ?_ _));exact BK151.out)⟩;have n1_ : Aside0 (Below w.heap.size w w9):=⟨by rw [← hq_];exact (by repeat (first|(with_reducible first|exact HB.out|apply zz03|apply zz01|apply zz02|refine zz10 ?_ GE151.out)|exact HB.out))⟩;clear BK151 HB hq_;have BK151:=n0_;have HB:=n1_;clear n0_ n1_)))|((with_reducible refine zz23 (f:=130) rfl ?_);refine zz25 (some 30) rfl rfl Tryz.func130 (by kernel_rfl) rfl #[.int .i64 t154] rfl (by (try simp only [List.map_toArray,List.map_cons,List.map_nil]);first|done|rfl|(simp only [List.length_drop,List.length_take];rfl)) ?_;(with_reducible refine (molad_Weekday.calls t154 t158 _ A6.out).mono ?_);rintro e w' ⟨rfl,⟨nd,rfl⟩⟩;refine ⟨_,rfl,?_⟩;(try (rw [drewN_self w9];generalize hq_ : World.drewN w9 _ = w9;have n0_ : Aside0 (w9.heap[gb151]? = some (.cells #[.int .i64 0,.int .i64 0,.bool false] 93 (0,0))):=⟨by rw [← hq_];exact (by (with_reducible repeat (first|refine zz07 ?_ _|refine zz09 ?_|refine zz08 ?_ _));exact BK151.out)⟩;have n1_ : Aside0 (Below w.heap.size w w9):=⟨by rw [← hq_];exact (by repeat (first|(with_reducible first|exact HB.out|apply zz03|apply zz01|apply zz02|refine zz10 ?_ GE151.out)|exact HB.out))⟩;clear BK151 HB hq_;have BK151:=n0_;have HB:=n1_;clear n0_ n1_));have hcz10_0 : w9.cell? ⟨gb151,0,none⟩ = some (.int .i64 0):=(zz18 BK151.out 0).trans rfl;have hcz10_1 : w9.cell? ⟨gb151,1,none⟩ = some (.int .i64 0):=(zz18 BK151.out 1).trans rfl;have hcz10_2 : w9.cell? ⟨gb151,2,none⟩ = some (.bool false):=(zz18 BK151.out 2).trans rfl;have hfz10_0:=zz17 BK151.out 0;have hfz10_1:=zz17 BK151.out 1;have hfz10_2:=zz17 BK151.out 2))
  refine bodyPost_ret (results_ct rfl _ _ gb151 93 #[.int .i64 t158,.int .i64 (Int.tmod (wrap64 (t152 - 353)) 30),.bool t156] (0,0) _ rfl (by (with_reducible repeat (first|refine zz07 ?_ _|refine zz09 ?_|refine zz08 ?_ _));refine zz35 (cs:=#[.int .i64 t158,.int .i64 (Int.tmod (wrap64 (t152 - 353)) 30),.bool false]) ?_ 2 _ rfl;(with_reducible repeat (first|refine zz07 ?_ _|refine zz09 ?_|refine zz08 ?_ _));refine zz35 (cs:=#[.int .i64 t158,.int .i64 0,.bool false]) ?_ 1 _ rfl;(with_reducible repeat (first|refine zz07 ?_ _|refine zz09 ?_|refine zz08 ?_ _));refine zz35 (cs:=#[.int .i64 0,.int .i64 0,.bool false]) ?_ 0 _ rfl;(with_reducible repeat (first|refine zz07 ?_ _|refine zz09 ?_|refine zz08 ?_ _));exact BK151.out) Tryz.underlying93 rfl (by kernel_rfl)) rfl ?_
  exact ⟨by first|rfl|(simp [errW_none,errW_some] <;> rfl)|(simp [*,errW_none,errW_some] <;> rfl),by repeat (first|(with_reducible first|exact HB.out|apply zz03|apply zz01|apply zz02|refine zz10 ?_ GE151.out)|exact HB.out)⟩
 ·
  rw [if_neg c3] at H
  have c3b0 : (t153 == 0) = false := zz27.mpr c3
  have c3b1 : (t153 != 0) = true := zz28.mpr c3
  simp only [zz15, zz16] at H
  obtain ⟨rfl, rfl, rfl, rfl⟩ := H
  go_enter Tryz.func93, Tryz.ntmps93
  go_wp2_with (first|((with_reducible refine zz24 (N:=2) rfl ?_);refine zz30 ?hg (N:=2) ?hd (cs:=#[.int .i64 0,.int .i64 0,.bool false]) (t:=93) ?hr ?_;(case hd=>rfl);(case hg=>rfl);(case hr=>first|(go_simp;done)|(go_simp;rfl));intro gb151 hg w11 hbox hb;have n0_:=zz00 (zz21 (by repeat (first|(with_reducible first|exact HB.out|apply zz03|apply zz01|apply zz02)|exact HB.out)) hb);have n1_:=zz00 (hbox);have n2_:=zz00 ((by rw [hg];exact (zz22 (by repeat (first|(with_reducible first|exact HB.out|apply zz03|apply zz01|apply zz02)|exact HB.out))) : w.heap.size ≤ gb151));have n3_:=zz00 ((by rw [hg];exact (zz22 (by repeat (first|(with_reducible first|exact HB.out|apply zz03|apply zz01|apply zz02)|exact HB.out))) : w.heap.size ≤ gb151));clear HB;have HB:=n0_;have BK151:=n1_;have GW151:=n2_;have GE151:=n3_;clear n0_ n1_ n2_ n3_;clear hb hbox hg)|((with_reducible refine zz23 (f:=143) rfl ?_);refine zz25 (some 12) rfl rfl Tryz.func143 (by kernel_rfl) rfl #[.int .i64 a0] rfl (by (try simp only [List.map_toArray,List.map_cons,List.map_nil]);first|done|rfl|(simp only [List.length_drop,List.length_take];rfl)) ?_;(with_reducible refine (keviah_Long.calls k a0 t152 t153 _ A2.out).mono ?_);rintro e w12 ⟨rfl,hb⟩;refine ⟨_,rfl,?_⟩;have n0_:=zz00 (zz34 (g:=gb151) (o:=.cells #[.int .i64 0,.int .i64 0,.bool false] 93 (0,0)) (by (with_reducible repeat (first|refine zz07 ?_ _|refine zz09 ?_|refine zz08 ?_ _));exact BK151.out) hb);have n1_:=zz00 (zz21 (by repeat (first|(with_reducible first|exact HB.out|apply zz03|apply zz01|apply zz02|refine zz10 ?_ GE151.out)|exact HB.out)) hb);clear BK151;clear HB;have BK151:=n0_;have HB:=n1_;clear n0_ n1_;(try clear hb);(try clear hb2);(try clear hk);(try clear hi);have hcz13_0 : w12.cell? ⟨gb151,0,none⟩ = some (.int .i64 0):=(zz18 BK151.out 0).trans rfl;have hcz13_1 : w12.cell? ⟨gb151,1,none⟩ = some (.int .i64 0):=(zz18 BK151.out 1).trans rfl;have hcz13_2 : w12.cell? ⟨gb151,2,none⟩ = some (.bool false):=(zz18 BK151.out 2).trans rfl;have hfz13_0:=zz17 BK151.out 0;have hfz13_1:=zz17 BK151.out 1;have hfz13_2:=zz17 BK151.out 2))
  refine bodyPost_ret (results_ct rfl _ _ gb151 93 #[.int .i64 0,.int .i64 0,.bool false] (0,0) _ rfl (by (with_reducible repeat (first|refine zz07 ?_ _|refine zz09 ?_|refine zz08 ?_ _));refine zz35 (cs:=#[.int .i64 0,.int .i64 0,.bool false]) ?_ 2 _ rfl;(with_reducible repeat (first|refine zz07 ?_ _|refine zz09 ?_|refine zz08 ?_ _));refine zz35 (cs:=#[.int .i64 0,.int .i64 0,.bool false]) ?_ 1 _ rfl;(with_reducible repeat (first|refine zz07 ?_ _|refine zz09 ?_|refine zz08 ?_ _));refine zz35 (cs:=#[.int .i64 0,.int .i64 0,.bool false]) ?_ 0 _ rfl;(with_reducible repeat (first|refine zz07 ?_ _|refine zz09 ?_|refine zz08 ?_ _));exact BK151.out) Tryz.underlying93 rfl (by kernel_rfl)) rfl ?_
  exact ⟨by first|rfl|(simp [errW_none,errW_some] <;> rfl)|(simp [*,errW_none,errW_some] <;> rfl),by repeat (first|(with_reducible first|exact HB.out|apply zz03|apply zz01|apply zz02|refine zz10 ?_ GE151.out)|exact HB.out)⟩

def code_Right.f (a0_0 : Int) (a0_1 : Bool) : Option (Bool) := if a0_0 > 0 then (if a0_0 ≤ 12 then (if a0_0 = 5 then (some true) else (some (!a0_1))) else (some false)) else (some false)
set_option maxHeartbeats 8000000 in
set_option maxRecDepth 100000 in
theorem code_Right.calls (a0_0 : Int) (a0_1 : Bool) (r : Bool) (w : World) (h : code_Right.f a0_0 a0_1 = some r) :
  Calls Tryz.prog 113 #[.agg #[.int .i64 a0_0, .bool a0_1]] w fun e w' => e = .returned (.bool r) ∧ Below w.heap.size w w' := by
 have hu32 := Tryz.underlying32
 have HB := zz00 (Below.refl w.heap.size w)
 have H : (if a0_0 > 0 then (if a0_0 ≤ 12 then (if a0_0 = 5 then (some true) else (some (!a0_1))) else (some false)) else (some false)) = some r := h
 clear h
 by_cases c2 : a0_0 > 0
 ·
  rw [if_pos c2] at H
  have c2b0 : decide (0 < a0_0) = true := decide_eq_true c2
  clear c2
  by_cases c3 : a0_0 ≤ 12
  ·
   rw [if_pos c3] at H
   have c3b0 : decide (a0_0 ≤ 12) = true := decide_eq_true c3
   clear c3
   by_cases c4 : a0_0 = 5
   ·
    rw [if_pos c4] at H
    have c4b0 : (a0_0 == 5) = true := zz29.mpr c4
    have c4b1 : (a0_0 != 5) = false := zz26.mpr c4
    clear c4
    obtain rfl := Option.some.inj H
    go_enter Tryz.func113, Tryz.ntmps113
    go_wp2_with (first|((with_reducible refine zz24 (N:=1) rfl ?_);refine zz30 ?hg (N:=1) ?hd (cs:=#[.int .i64 a0_0,.bool a0_1]) (t:=32) ?hr ?_;(case hd=>rfl);(case hg=>rfl);(case hr=>first|(go_simp;done)|(go_simp;rfl));intro gb159 hg w5 hbox hb;have n0_:=zz00 (zz21 (by repeat (first|(with_reducible first|exact HB.out|apply zz03|apply zz01|apply zz02)|exact HB.out)) hb);have n1_:=zz00 (hbox);have n2_:=zz00 ((by rw [hg];exact (zz22 (by repeat (first|(with_reducible first|exact HB.out|apply zz03|apply zz01|apply zz02)|exact HB.out))) : w.heap.size ≤ gb159));have n3_:=zz00 ((by rw [hg];exact (zz22 (by repeat (first|(with_reducible first|exact HB.out|apply zz03|apply zz01|apply zz02)|exact HB.out))) : w.heap.size ≤ gb159));clear HB;have HB:=n0_;have BK159:=n1_;have GW159:=n2_;have GE159:=n3_;clear n0_ n1_ n2_ n3_;clear hb hbox hg;have hcz6_0 : w5.cell? ⟨gb159,0,none⟩ = some (.int .i64 a0_0):=(zz18 BK159.out 0).trans rfl;have hcz6_1 : w5.cell? ⟨gb159,1,none⟩ = some (.bool a0_1):=(zz18 BK159.out 1).trans rfl;have hfz6_0:=zz17 BK159.out 0;have hfz6_1:=zz17 BK159.out 1))
    go_ret
    exact ⟨by first|rfl|(simp [errW_none,errW_some] <;> rfl)|(simp [*,errW_none,errW_some] <;> rfl),by repeat (first|(with_reducible first|exact HB.out|apply zz03|apply zz01|apply zz02|refine zz10 ?_ GE159.out)|exact HB.out)⟩
   ·
    rw [if_neg c4] at H
    have c4b0 : (a0_0 == 5) = false := zz27.mpr c4
    have c4b1 : (a0_0 != 5) = true := zz28.mpr c4
    obtain rfl := Option.some.inj H
    go_enter Tryz.func113, Tryz.ntmps113
    go_wp2_with (first|((with_reducible refine zz24 (N:=1) rfl ?_);refine zz30 ?hg (N:=1) ?hd (cs:=#[.int .i64 a0_0,.bool a0_1]) (t:=32) ?hr ?_;(case hd=>rfl);(case hg=>rfl);(case hr=>first|(go_simp;done)|(go_simp;rfl));intro gb159 hg w7 hbox hb;have n0_:=zz00 (zz21 (by repeat (first|(with_reducible first|exact HB.out|apply zz03|apply zz01|apply zz02)|exact HB.out)) hb);have n1_:=zz00 (hbox);have n2_:=zz00 ((by rw [hg];exact (zz22 (by repeat (first|(with_reducible first|exact HB.out|apply zz03|apply zz01|apply zz02)|exact HB.out))) : w.heap.size ≤ gb159));have n3_:=zz00 ((by rw [hg];exact (zz22 (by repeat (first|(with_reducible first|exact HB.out|apply zz03|apply zz01|apply zz02)|exact HB.out))) : w.heap.size ≤ gb159));clear HB;have HB:=n0_;have BK159:=n1_;have GW159:=n2_;have GE159:=n3_;clear n0_ n1_ n2_ n3_;clear hb hbox hg;have hcz8_0 : w7.cell? ⟨gb159,0,none⟩ = some (.int .i64 a0_0):=(zz18 BK159.out 0).trans rfl;have hcz8_1 : w7.cell? ⟨gb159,1,none⟩ = some (.bool a0_1):=(zz18 BK159.out 1).trans rfl;have hfz8_0:=zz17 BK159.out 0;have hfz8_1:=zz17 BK159.out 1))
    go_ret
    exact ⟨by first|rfl|(simp [errW_none,errW_some] <;> rfl)|(simp [*,errW_none,errW_some] <;> rfl),by repeat (first|(with_reducible first|exact HB.out|apply zz03|apply zz01|apply zz02|refine zz10 ?_ GE159.out)|exact HB.out)⟩
  ·
   rw [if_neg c3] at H
   have c3b0 : decide (a0_0 ≤ 12) = false := decide_eq_false c3
   clear c3
   obtain rfl := Option.some.inj H
   go_enter Tryz.func113, Tryz.ntmps113
   go_wp2_with (first|((with_reducible refine zz24 (N:=1) rfl ?_);refine zz30 ?hg (N:=1) ?hd (cs:=#[.int .i64 a0_0,.bool a0_1]) (t:=32) ?hr ?_;(case hd=>rfl);(case hg=>rfl);(case hr=>first|(go_simp;done)|(go_simp;rfl));intro gb159 hg w9 hbox hb;have n0_:=zz00 (zz21 (by repeat (first|(with_reducible first|exact HB.out|apply zz03|apply zz01|apply zz02)|exact HB.out)) hb);have n1_:=zz00 (hbox);have n2_:=zz00 ((by rw [hg];exact (zz22 (by repeat (first|(with_reducible first|exact HB.out|apply zz03|apply zz01|apply zz02)|exact HB.out))) : w.heap.size ≤ gb159));have n3_:=zz00 ((by rw [hg];exact (zz22 (by repeat (first|(with_reducible first|exact HB.out|apply zz03|apply zz01|apply zz02)|exact HB.out))) : w.heap.size ≤ gb159));clear HB;have HB:=n0_;have BK159:=n1_;have GW159:=n2_;have GE159:=n3_;clear n0_ n1_ n2_ n3_;clear hb hbox hg;have hcz10_0 : w9.cell? ⟨gb159,0,none⟩ = some (.int .i64 a0_0):=(zz18 BK159.out 0).trans rfl;have hcz10_1 : w9.cell? ⟨gb159,1,none⟩ = some (.bool a0_1):=(zz18 BK159.out 1).trans rfl;have hfz10_0:=zz17 BK159.out 0;have hfz10_1:=zz17 BK159.out 1))
   go_ret
   exact ⟨by first|rfl|(simp [errW_none,errW_some] <;> rfl)|(simp [*,errW_none,errW_some] <;> rfl),by repeat (first|(with_reducible first|exact HB.out|apply zz03|apply zz01|apply zz02|refine zz10 ?_ GE159.out)|exact HB.out)⟩
 ·
  rw [if_neg c2] at H
  have c2b0 : decide (0 < a0_0) = false := decide_eq_false c2
  clear c2
  obtain rfl := Option.some.inj H
  go_enter Tryz.func113, Tryz.ntmps113
  go_wp2_with (first|((with_reducible refine zz24 (N:=1) rfl ?_);refine zz30 ?hg (N:=1) ?hd (cs:=#[.int .i64 a0_0,.bool a0_1]) (t:=32) ?hr ?_;(case hd=>rfl);(case hg=>rfl);(case hr=>first|(go_simp;done)|(go_simp;rfl));intro gb159 hg w11 hbox hb;have n0_:=zz00 (zz21 (by repeat (first|(with_reducible first|exact HB.out|apply zz03|apply zz01|apply zz02)|exact HB.out)) hb);have n1_:=zz00 (hbox);have n2_:=zz00 ((by rw [hg];exact (zz22 (by repeat (first|(with_reducible first|exact HB.out|apply zz03|apply zz01|apply zz02)|exact HB.out))) : w.heap.size ≤ gb159));have n3_:=zz00 ((by rw [hg];exact (zz22 (by repeat (first|(with_reducible first|exact HB.out|apply zz03|apply zz01|apply zz02)|exact HB.out))) : w.heap.size ≤ gb159));clear HB;have HB:=n0_;have BK159:=n1_;have GW159:=n2_;have GE159:=n3_;clear n0_ n1_ n2_ n3_;clear hb hbox hg;have hcz12_0 : w11.cell? ⟨gb159,0,none⟩ = some (.int .i64 a0_0):=(zz18 BK159.out 0).trans rfl;have hcz12_1 : w11.cell? ⟨gb159,1,none⟩ = some (.bool a0_1):=(zz18 BK159.out 1).trans rfl;have hfz12_0:=zz17 BK159.out 0;have hfz12_1:=zz17 BK159.out 1))
  go_ret
  exact ⟨by first|rfl|(simp [errW_none,errW_some] <;> rfl)|(simp [*,errW_none,errW_some] <;> rfl),by repeat (first|(with_reducible first|exact HB.out|apply zz03|apply zz01|apply zz02|refine zz10 ?_ GE159.out)|exact HB.out)⟩

def code_Place.j0 : Nat → Bool → Bool → Int → Bool → Option (Int × Bool)
  | 0, _, _, _, _ => none
  | k + 1, x0, x6, x161000, x161001 => if x6 = true then (some (0, false)) else (if x0 = true then (if x161001 = true then (some (wrap64 (x161000 + 1), true)) else (if x161000 > 5 then (some (wrap64 (x161000 + 1), true)) else (some (x161000, true)))) else (some (x161000, true)))
def code_Place.f (k : Nat) (a0 : Bool) (a1_0 : Int) (a1_1 : Bool) : Option (Int × Bool) := (code_Right.f a1_0 a1_1).bind fun t161 => (if t161 = true then (if a1_1 = true then (code_Place.j0 k a0 (!a0) a1_0 a1_1) else (code_Place.j0 k a0 false a1_0 a1_1)) else (code_Place.j0 k a0 true a1_0 a1_1))
theorem code_Place.mono_l : ∀ k, (∀ y0 y1 y2 y3, LeO (code_Place.j0 k y0 y1 y2 y3) (code_Place.j0 (k + 1) y0 y1 y2 y3))
 | 0 => fun _ _ _ _ r h => by simp [code_Place.j0] at h
 | k + 1 => by
  have ih0 := code_Place.mono_l k
  ·
   intro y0 y1 y2 y3
   unfold code_Place.j0
   repeat' first
   | (with_reducible exact ih0 _ _ _ _)
   | (with_reducible exact LeO.refl _)
   | (with_reducible exact LeO.none _)
   | (with_reducible refine LeO.ite ?_ ?_)
   | (with_reducible refine LeO.bind ?_ (fun _ => ?_))
   | exact ih0 _ _ _ _
   | exact LeO.none _
   | refine LeO.ite ?_ ?_
   | refine LeO.bind ?_ (fun _ => ?_)
theorem code_Place.mono : ∀ a0 a1 a2 k, LeO (code_Place.f k a0 a1 a2) (code_Place.f (k + 1) a0 a1 a2) := by
 intro a0 a1 a2 k
 have ih0 := code_Place.mono_l k
 unfold code_Place.f
 repeat' first
   | (with_reducible exact ih0 _ _ _ _)
   | (with_reducible exact LeO.refl _)
   | (with_reducible exact LeO.none _)
   | (with_reducible refine LeO.ite ?_ ?_)
   | (with_reducible refine LeO.bind ?_ (fun _ => ?_))
   | exact ih0 _ _ _ _
   | exact LeO.none _
   | refine LeO.ite ?_ ?_
   | refine LeO.bind ?_ (fun _ => ?_)
set_option maxHeartbeats 8000000 in
set_option maxRecDepth 100000 in
theorem code_Place.calls (k : Nat) (a0 : Bool) (a1_0 : Int) (a1_1 : Bool) (r1 : Int) (r2 : Bool) (w : World) (h : code_Place.f k a0 a1_0 a1_1 = some (r1, r2)) :
  Calls Tryz.prog 149 #[.bool a0, .agg #[.int .i64 a1_0, .bool a1_1]] w fun e w' => e = .returned (.tuple #[.int .i64 r1, .bool r2]) ∧ Below w.heap.size w w' := by
 have hu32 := Tryz.underlying32
 have HB := zz00 (Below.refl w.heap.size w)
 have H : ((code_Right.f a1_0 a1_1).bind fun t161=>(if t161 = true then (if a1_1 = true then (code_Place.j0 k a0 (!a0) a1_0 a1_1) else (code_Place.j0 k a0 false a1_0 a1_1)) else (code_Place.j0 k a0 true a1_0 a1_1))) = some (r1,r2):=h
 clear h
 have HC3 := zz00 H
 clear H
 go_enter Tryz.func149, Tryz.ntmps149
 go_upto_region 1 with (first|((with_reducible refine zz24 (N:=3) rfl ?_);refine zz30 ?hg (N:=3) ?hd (cs:=#[.int .i64 a1_0,.bool a1_1]) (t:=32) ?hr ?_;(case hd=>rfl);(case hg=>rfl);(case hr=>first|(go_simp;done)|(go_simp;rfl));intro gb160 hg w4 hbox hb;have n0_:=zz00 (zz21 (by repeat (first|(with_reducible first|exact HB.out|apply zz03|apply zz01|apply zz02)|exact HB.out)) hb);have n1_:=zz00 (hbox);have n2_:=zz00 ((by rw [hg];exact (zz22 (by repeat (first|(with_reducible first|exact HB.out|apply zz03|apply zz01|apply zz02)|exact HB.out))) : w.heap.size ≤ gb160));have n3_:=zz00 ((by rw [hg];exact (zz22 (by repeat (first|(with_reducible first|exact HB.out|apply zz03|apply zz01|apply zz02)|exact HB.out))) : w.heap.size ≤ gb160));clear HB;have HB:=n0_;have BK160:=n1_;have GW160:=n2_;have GE160:=n3_;clear n0_ n1_ n2_ n3_;clear hb hbox hg))
 (try simp only [Act.put, zz11, zz12, zz13])
 go_cut [6] (fun v6 wc=>∃ (kq : Nat) (x6_2 : Bool),v6 = .bool x6_2 ∧ Aside0 (code_Place.j0 kq a0 x6_2 a1_0 a1_1 = some (r1,r2)) ∧ Aside0 (kq ≤ k) ∧ Aside0 (wc.heap[gb160]? = some (.cells #[.int .i64 a1_0,.bool a1_1] 32 (0,0))) ∧ Aside0 (Below w.heap.size w wc))
 case first =>
  have H := HC3.out
  clear HC3
  replace H := zz14.mp H
  obtain ⟨t161, A50, H⟩ := H
  replace H : (if t161 = true then (if a1_1 = true then (code_Place.j0 k a0 (!a0) a1_0 a1_1) else (code_Place.j0 k a0 false a1_0 a1_1)) else (code_Place.j0 k a0 true a1_0 a1_1)) = some (r1, r2) := H
  have A5 := zz00 A50
  clear A50
  by_cases c6 : t161 = true
  ·
   subst c6
   have H1 : (if a1_1 = true then (code_Place.j0 k a0 (!a0) a1_0 a1_1) else (code_Place.j0 k a0 false a1_0 a1_1)) = some (r1, r2) := by rw [if_pos rfl] at H; exact H
   clear H
   have H := H1
   clear H1
   by_cases c7 : a1_1 = true
   ·
    subst c7
    have H1 : (code_Place.j0 k a0 (!a0) a1_0 true) = some (r1, r2) := by rw [if_pos rfl] at H; exact H
    clear H
    have H := H1
    clear H1
    have H' := zz00 H
    clear H
    have hcz8_0 : w4.cell? ⟨gb160, 0, none⟩ = some (.int .i64 a1_0) := (zz18 BK160.out 0).trans rfl
    have hcz8_1 : w4.cell? ⟨gb160, 1, none⟩ = some (.bool true) := (zz18 BK160.out 1).trans rfl
    have hfz8_0 := zz17 BK160.out 0
    have hfz8_1 := zz17 BK160.out 1
    go_wp2_with (first|((with_reducible refine zz23 (f:=113) rfl ?_);refine zz25 (some 8) rfl rfl Tryz.func113 (by kernel_rfl) rfl #[.agg #[.int .i64 a1_0,.bool true]] rfl (by (try simp only [List.map_toArray,List.map_cons,List.map_nil]);first|done|rfl|(simp only [List.length_drop,List.length_take];rfl)) ?_;(with_reducible refine (code_Right.calls a1_0 true true _ A5.out).mono ?_);rintro e w9 ⟨rfl,hb⟩;refine ⟨_,rfl,?_⟩;have n0_:=zz00 (zz34 (g:=gb160) (o:=.cells #[.int .i64 a1_0,.bool true] 32 (0,0)) (by (with_reducible repeat (first|refine zz07 ?_ _|refine zz09 ?_|refine zz08 ?_ _));exact BK160.out) hb);have n1_:=zz00 (zz21 (by repeat (first|(with_reducible first|exact HB.out|apply zz03|apply zz01|apply zz02|refine zz10 ?_ GE160.out)|exact HB.out)) hb);clear BK160;clear HB;have BK160:=n0_;have HB:=n1_;clear n0_ n1_;(try clear hb);(try clear hb2);(try clear hk);(try clear hi);have hcz10_0 : w9.cell? ⟨gb160,0,none⟩ = some (.int .i64 a1_0):=(zz18 BK160.out 0).trans rfl;have hcz10_1 : w9.cell? ⟨gb160,1,none⟩ = some (.bool true):=(zz18 BK160.out 1).trans rfl;have hfz10_0:=zz17 BK160.out 0;have hfz10_1:=zz17 BK160.out 1))
    go_meet
    case rel=>exact ⟨_,(!a0),(by first|rfl|(simp;done)|(simp [*];done)),H',⟨by first|omega|exact Nat.le_refl _⟩,⟨by (with_reducible repeat (first|refine zz07 ?_ _|refine zz09 ?_|refine zz08 ?_ _));exact BK160.out⟩,⟨by repeat (first|(with_reducible first|exact HB.out|apply zz03|apply zz01|apply zz02|refine zz10 ?_ GE160.out)|exact HB.out)⟩⟩
   ·
    replace c7 := zz32.mpr c7
    subst c7
    have H1 : (code_Place.j0 k a0 false a1_0 false) = some (r1, r2) := by rw [if_neg (show ¬ (false = true) by decide)] at H; exact H
    clear H
    have H := H1
    clear H1
    have H' := zz00 H
    clear H
    have hcz11_0 : w4.cell? ⟨gb160, 0, none⟩ = some (.int .i64 a1_0) := (zz18 BK160.out 0).trans rfl
    have hcz11_1 : w4.cell? ⟨gb160, 1, none⟩ = some (.bool false) := (zz18 BK160.out 1).trans rfl
    have hfz11_0 := zz17 BK160.out 0
    have hfz11_1 := zz17 BK160.out 1
    go_wp2_with (first|((with_reducible refine zz23 (f:=113) rfl ?_);refine zz25 (some 8) rfl rfl Tryz.func113 (by kernel_rfl) rfl #[.agg #[.int .i64 a1_0,.bool false]] rfl (by (try simp only [List.map_toArray,List.map_cons,List.map_nil]);first|done|rfl|(simp only [List.length_drop,List.length_take];rfl)) ?_;(with_reducible refine (code_Right.calls a1_0 false true _ A5.out).mono ?_);rintro e w12 ⟨rfl,hb⟩;refine ⟨_,rfl,?_⟩;have n0_:=zz00 (zz34 (g:=gb160) (o:=.cells #[.int .i64 a1_0,.bool false] 32 (0,0)) (by (with_reducible repeat (first|refine zz07 ?_ _|refine zz09 ?_|refine zz08 ?_ _));exact BK160.out) hb);have n1_:=zz00 (zz21 (by repeat (first|(with_reducible first|exact HB.out|apply zz03|apply zz01|apply zz02|refine zz10 ?_ GE160.out)|exact HB.out)) hb);clear BK160;clear HB;have BK160:=n0_;have HB:=n1_;clear n0_ n1_;(try clear hb);(try clear hb2);(try clear hk);(try clear hi);have hcz13_0 : w12.cell? ⟨gb160,0,none⟩ = some (.int .i64 a1_0):=(zz18 BK160.out 0).trans rfl;have hcz13_1 : w12.cell? ⟨gb160,1,none⟩ = some (.bool false):=(zz18 BK160.out 1).trans rfl;have hfz13_0:=zz17 BK160.out 0;have hfz13_1:=zz17 BK160.out 1))
    go_meet
    case rel=>exact ⟨_,(false),(by first|rfl|(simp;done)|(simp [*];done)),H',⟨by first|omega|exact Nat.le_refl _⟩,⟨by (with_reducible repeat (first|refine zz07 ?_ _|refine zz09 ?_|refine zz08 ?_ _));exact BK160.out⟩,⟨by repeat (first|(with_reducible first|exact HB.out|apply zz03|apply zz01|apply zz02|refine zz10 ?_ GE160.out)|exact HB.out)⟩⟩
  ·
   replace c6 := zz32.mpr c6
   subst c6
   have H1 : (code_Place.j0 k a0 true a1_0 a1_1) = some (r1, r2) := by rw [if_neg (show ¬ (false = true) by decide)] at H; exact H
   clear H
   have H := H1
   clear H1
   have H' := zz00 H
   clear H
   have hcz14_0 : w4.cell? ⟨gb160, 0, none⟩ = some (.int .i64 a1_0) := (zz18 BK160.out 0).trans rfl
   have hcz14_1 : w4.cell? ⟨gb160, 1, none⟩ = some (.bool a1_1) := (zz18 BK160.out 1).trans rfl
   have hfz14_0 := zz17 BK160.out 0
   have hfz14_1 := zz17 BK160.out 1
   go_wp2_with (first|((with_reducible refine zz23 (f:=113) rfl ?_);refine zz25 (some 8) rfl rfl Tryz.func113 (by kernel_rfl) rfl #[.agg #[.int .i64 a1_0,.bool a1_1]] rfl (by (try simp only [List.map_toArray,List.map_cons,List.map_nil]);first|done|rfl|(simp only [List.length_drop,List.length_take];rfl)) ?_;(with_reducible refine (code_Right.calls a1_0 a1_1 false _ A5.out).mono ?_);rintro e w15 ⟨rfl,hb⟩;refine ⟨_,rfl,?_⟩;have n0_:=zz00 (zz34 (g:=gb160) (o:=.cells #[.int .i64 a1_0,.bool a1_1] 32 (0,0)) (by (with_reducible repeat (first|refine zz07 ?_ _|refine zz09 ?_|refine zz08 ?_ _));exact BK160.out) hb);have n1_:=zz00 (zz21 (by repeat (first|(with_reducible first|exact HB.out|apply zz03|apply zz01|apply zz02|refine zz10 ?_ GE160.out)|exact HB.out)) hb);clear BK160;clear HB;have BK160:=n0_;have HB:=n1_;clear n0_ n1_;(try clear hb);(try clear hb2);(try clear hk);(try clear hi)))
   go_meet
   case rel=>exact ⟨_,(true),(by first|rfl|(simp;done)|(simp [*];done)),H',⟨by first|omega|exact Nat.le_refl _⟩,⟨by (with_reducible repeat (first|refine zz07 ?_ _|refine zz09 ?_|refine zz08 ?_ _));exact BK160.out⟩,⟨by repeat (first|(with_reducible first|exact HB.out|apply zz03|apply zz01|apply zz02|refine zz10 ?_ GE160.out)|exact HB.out)⟩⟩
 case rest =>
  clear HC3
  try clear c1
  try clear p2
  try clear c6
  try clear c7
  try clear c11
  try clear c14
  try clear hcz10_0
  try clear hcz10_1
  try clear hcz11_0
  try clear hcz11_1
  try clear hcz13_0
  try clear hcz13_1
  try clear hcz14_0
  try clear hcz14_1
  try clear hcz8_0
  try clear hcz8_1
  try clear hfz10_0
  try clear hfz10_1
  try clear hfz11_0
  try clear hfz11_1
  try clear hfz13_0
  try clear hfz13_1
  try clear hfz14_0
  try clear hfz14_1
  try clear hfz8_0
  try clear hfz8_1
  obtain ⟨kq, x6_2, rfl, HA, HJ2, BK160, HB⟩ := hcut
  cases kq with
  | zero => exact absurd HA.out (by simp [code_Place.j0])
  | succ kj2 =>
   have H := HA.out
   clear HA
   simp only [code_Place.j0] at H
   by_cases c16 : x6_2 = true
   ·
    subst c16
    have H1 : (some (0, false)) = some (r1, r2) := by rw [if_pos rfl] at H; exact H
    clear H
    have H := H1
    clear H1
    simp only [zz15, zz16] at H
    obtain ⟨rfl, rfl⟩ := H
    go_wp2
    go_ret2
    exact ⟨by first|rfl|(simp [errW_none,errW_some] <;> rfl)|(simp [*,errW_none,errW_some] <;> rfl),by repeat (first|(with_reducible first|exact HB.out|apply zz03|apply zz01|apply zz02|refine zz10 ?_ GE160.out)|exact HB.out)⟩
   ·
    replace c16 := zz32.mpr c16
    subst c16
    have H1 : (if a0 = true then (if a1_1 = true then (some (wrap64 (a1_0 + 1),true)) else (if a1_0 > 5 then (some (wrap64 (a1_0 + 1),true)) else (some (a1_0,true)))) else (some (a1_0,true))) = some (r1,r2):=by rw [if_neg (show ¬ (false = true) by decide)] at H;exact H
    clear H
    have H := H1
    clear H1
    by_cases c17 : a0 = true
    ·
     subst c17
     have H1 : (if a1_1 = true then (some (wrap64 (a1_0 + 1),true)) else (if a1_0 > 5 then (some (wrap64 (a1_0 + 1),true)) else (some (a1_0,true)))) = some (r1,r2):=by rw [if_pos rfl] at H;exact H
     clear H
     have H := H1
     clear H1
     by_cases c18 : a1_1 = true
     ·
      subst c18
      have H1 : (some (wrap64 (a1_0 + 1), true)) = some (r1, r2) := by rw [if_pos rfl] at H; exact H
      clear H
      have H := H1
      clear H1
      simp only [zz15, zz16] at H
      obtain ⟨rfl, rfl⟩ := H
      have hcz19_0 : wc.cell? ⟨gb160, 0, none⟩ = some (.int .i64 a1_0) := (zz18 BK160.out 0).trans rfl
      have hcz19_1 : wc.cell? ⟨gb160, 1, none⟩ = some (.bool true) := (zz18 BK160.out 1).trans rfl
      have hfz19_0 := zz17 BK160.out 0
      have hfz19_1 := zz17 BK160.out 1
      go_wp2
      go_ret2
      exact ⟨by first|rfl|(simp [errW_none,errW_some] <;> rfl)|(simp [*,errW_none,errW_some] <;> rfl),by repeat (first|(with_reducible first|exact HB.out|apply zz03|apply zz01|apply zz02|refine zz10 ?_ GE160.out)|exact HB.out)⟩
     ·
      replace c18 := zz32.mpr c18
      subst c18
      have H1 : (if a1_0 > 5 then (some (wrap64 (a1_0 + 1), true)) else (some (a1_0, true))) = some (r1, r2) := by rw [if_neg (show ¬ (false = true) by decide)] at H; exact H
      clear H
      have H := H1
      clear H1
      by_cases c20 : a1_0 > 5
      ·
       rw [if_pos c20] at H
       have c20b0 : decide (5 < a1_0) = true := decide_eq_true c20
       clear c20
       simp only [zz15, zz16] at H
       obtain ⟨rfl, rfl⟩ := H
       have hcz21_0 : wc.cell? ⟨gb160, 0, none⟩ = some (.int .i64 a1_0) := (zz18 BK160.out 0).trans rfl
       have hcz21_1 : wc.cell? ⟨gb160, 1, none⟩ = some (.bool false) := (zz18 BK160.out 1).trans rfl
       have hfz21_0 := zz17 BK160.out 0
       have hfz21_1 := zz17 BK160.out 1
       go_wp2
       go_ret2
       exact ⟨by first|rfl|(simp [errW_none,errW_some] <;> rfl)|(simp [*,errW_none,errW_some] <;> rfl),by repeat (first|(with_reducible first|exact HB.out|apply zz03|apply zz01|apply zz02|refine zz10 ?_ GE160.out)|exact HB.out)⟩
      ·
       rw [if_neg c20] at H
       have c20b0 : decide (5 < a1_0) = false := decide_eq_false c20
       clear c20
       simp only [zz15, zz16] at H
       obtain ⟨rfl, rfl⟩ := H
       have hcz22_0 : wc.cell? ⟨gb160, 0, none⟩ = some (.int .i64 a1_0) := (zz18 BK160.out 0).trans rfl
       have hcz22_1 : wc.cell? ⟨gb160, 1, none⟩ = some (.bool false) := (zz18 BK160.out 1).trans rfl
       have hfz22_0 := zz17 BK160.out 0
       have hfz22_1 := zz17 BK160.out 1
       go_wp2
       go_ret2
       exact ⟨by first|rfl|(simp [errW_none,errW_some] <;> rfl)|(simp [*,errW_none,errW_some] <;> rfl),by repeat (first|(with_reducible first|exact HB.out|apply zz03|apply zz01|apply zz02|refine zz10 ?_ GE160.out)|exact HB.out)⟩
    ·
     replace c17 := zz32.mpr c17
     subst c17
     have H1 : (some (a1_0, true)) = some (r1, r2) := by rw [if_neg (show ¬ (false = true) by decide)] at H; exact H
     clear H
     have H := H1
     clear H1
     simp only [zz15, zz16] at H
     obtain ⟨rfl, rfl⟩ := H
     have hcz23_0 : wc.cell? ⟨gb160, 0, none⟩ = some (.int .i64 a1_0) := (zz18 BK160.out 0).trans rfl
     have hcz23_1 : wc.cell? ⟨gb160, 1, none⟩ = some (.bool a1_1) := (zz18 BK160.out 1).trans rfl
     have hfz23_0 := zz17 BK160.out 0
     have hfz23_1 := zz17 BK160.out 1
     go_wp2
     go_ret2
     exact ⟨by first|rfl|(simp [errW_none,errW_some] <;> rfl)|(simp [*,errW_none,errW_some] <;> rfl),by repeat (first|(with_reducible first|exact HB.out|apply zz03|apply zz01|apply zz02|refine zz10 ?_ GE160.out)|exact HB.out)⟩

def heb_find.f (k : Nat) (a0 : Int) (a1_0 : Int) (a1_1 : Bool) : Option (Int × Int × Bool × Int × Int) := (keviah_Of.f k a0).bind fun bt164 => (if bt164.2.2.2 = 0 then ((code_Place.f k bt164.2.2.1 a1_0 a1_1).bind fun bt169 => (if bt169.2 = true then (some (bt164.1, bt164.2.1, bt164.2.2.1, bt169.1, 0)) else (some (0, 0, false, 0, 3)))) else (some (0, 0, false, 0, bt164.2.2.2)))
set_option maxHeartbeats 8000000 in
set_option maxRecDepth 100000 in
theorem heb_find.calls (k : Nat) (a0 : Int) (a1_0 : Int) (a1_1 : Bool) (r1 : Int) (r2 : Int) (r3 : Bool) (r4 : Int) (r5 : Int) (w : World) (h : heb_find.f k a0 a1_0 a1_1 = some (r1, r2, r3, r4, r5)) :
  Calls Tryz.prog 101 #[.int .i64 a0,.agg #[.int .i64 a1_0,.bool a1_1]] w fun e w'=>e = .returned (.tuple #[.agg #[.int .i64 r1,.int .i64 r2,.bool r3,.int .i64 r4],.int .i64 r5]) ∧ Below w.heap.size w w':=by
 have hu32 := Tryz.underlying32
 have hu95 := Tryz.underlying95
 have hu93 := Tryz.underlying93
 have HB := zz00 (Below.refl w.heap.size w)
 have H : ((keviah_Of.f k a0).bind fun bt164=>(if bt164.2.2.2 = 0 then ((code_Place.f k bt164.2.2.1 a1_0 a1_1).bind fun bt169=>(if bt169.2 = true then (some (bt164.1,bt164.2.1,bt164.2.2.1,bt169.1,0)) else (some (0,0,false,0,3)))) else (some (0,0,false,0,bt164.2.2.2)))) = some (r1,r2,r3,r4,r5):=h
 clear h
 replace H := zz14.mp H
 obtain ⟨⟨t164, t165, t166, t167⟩, A30, H⟩ := H
 replace H : (if t167 = 0 then ((code_Place.f k t166 a1_0 a1_1).bind fun bt169=>(if bt169.2 = true then (some (t164,t165,t166,bt169.1,0)) else (some (0,0,false,0,3)))) else (some (0,0,false,0,t167))) = some (r1,r2,r3,r4,r5):=H
 have A3 := zz00 A30
 clear A30
 by_cases c4 : t167 = 0
 ·
  rw [if_pos c4] at H
  have c4b0 : (t167 == 0) = true := zz29.mpr c4
  have c4b1 : (t167 != 0) = false := zz26.mpr c4
  clear c4
  replace H := zz14.mp H
  obtain ⟨⟨t169, t170⟩, A50, H⟩ := H
  replace H : (if t170 = true then (some (t164, t165, t166, t169, 0)) else (some (0, 0, false, 0, 3))) = some (r1, r2, r3, r4, r5) := H
  have A5 := zz00 A50
  clear A50
  by_cases c6 : t170 = true
  ·
   subst c6
   have H1 : (some (t164, t165, t166, t169, 0)) = some (r1, r2, r3, r4, r5) := by rw [if_pos rfl] at H; exact H
   clear H
   have H := H1
   clear H1
   simp only [zz15, zz16] at H
   obtain ⟨rfl, rfl, rfl, rfl, rfl⟩ := H
   go_enter Tryz.func101, Tryz.ntmps101
   go_wp2_with (first|((with_reducible refine zz24 (N:=3) rfl ?_);refine zz30 ?hg (N:=3) ?hd (cs:=#[.int .i64 a1_0,.bool a1_1]) (t:=32) ?hr ?_;(case hd=>rfl);(case hg=>rfl);(case hr=>first|(go_simp;done)|(go_simp;rfl));intro gb162 hg w7 hbox hb;have n0_:=zz00 (zz21 (by repeat (first|(with_reducible first|exact HB.out|apply zz03|apply zz01|apply zz02)|exact HB.out)) hb);have n1_:=zz00 (hbox);have n2_:=zz00 ((by rw [hg];exact (zz22 (by repeat (first|(with_reducible first|exact HB.out|apply zz03|apply zz01|apply zz02)|exact HB.out))) : w.heap.size ≤ gb162));have n3_:=zz00 ((by rw [hg];exact (zz22 (by repeat (first|(with_reducible first|exact HB.out|apply zz03|apply zz01|apply zz02)|exact HB.out))) : w.heap.size ≤ gb162));clear HB;have HB:=n0_;have BK162:=n1_;have GW162:=n2_;have GE162:=n3_;clear n0_ n1_ n2_ n3_;clear hb hbox hg)|((with_reducible refine zz24 (N:=4) rfl ?_);refine zz30 ?hg (N:=4) ?hd (cs:=#[.int .i64 0,.int .i64 0,.bool false,.int .i64 0]) (t:=95) ?hr ?_;(case hd=>rfl);(case hg=>rfl);(case hr=>first|(go_simp;done)|(go_simp;rfl));intro gb163 hg w8 hbox hb;have n0_:=zz00 (zz34 (g:=gb162) (o:=.cells #[.int .i64 a1_0,.bool a1_1] 32 (0,0)) (by (with_reducible repeat (first|refine zz07 ?_ _|refine zz09 ?_|refine zz08 ?_ _));exact BK162.out) hb);have n1_:=zz00 (zz21 (by repeat (first|(with_reducible first|exact HB.out|apply zz03|apply zz01|apply zz02|refine zz10 ?_ GE162.out)|exact HB.out)) hb);have n2_:=zz00 (hbox);have n3_:=zz00 ((by rw [hg];exact (zz22 (by repeat (first|(with_reducible first|exact HB.out|apply zz03|apply zz01|apply zz02|refine zz10 ?_ GE162.out)|exact HB.out))) : w.heap.size ≤ gb163));have n4_:=zz00 ((by rw [hg];exact (zz22 (by repeat (first|(with_reducible first|exact HB.out|apply zz03|apply zz01|apply zz02|refine zz10 ?_ GE162.out)|exact HB.out))) : w.heap.size ≤ gb163));have n5_:=zz00 ((by rw [hg];exact Nat.ne_of_lt (blk_lt (g:=gb162) (o:=.cells #[.int .i64 a1_0,.bool a1_1] 32 (0,0)) (by (with_reducible repeat (first|refine zz07 ?_ _|refine zz09 ?_|refine zz08 ?_ _));exact BK162.out)) : gb162 ≠ gb163));have n6_:=zz00 ((by rw [hg];exact Nat.ne_of_gt (blk_lt (g:=gb162) (o:=.cells #[.int .i64 a1_0,.bool a1_1] 32 (0,0)) (by (with_reducible repeat (first|refine zz07 ?_ _|refine zz09 ?_|refine zz08 ?_ _));exact BK162.out)) : gb163 ≠ gb162));clear BK162;clear HB;have BK162:=n0_;have HB:=n1_;have BK163:=n2_;have GW163:=n3_;have GE163:=n4_;have NB162_163:=n5_;have NB163_162:=n6_;clear n0_ n1_ n2_ n3_ n4_ n5_ n6_;clear hb hbox hg)|((with_reducible refine zz23 (f:=93) rfl ?_);refine zz25 (some 12) rfl rfl Tryz.func93 (by kernel_rfl) rfl #[.int .i64 a0] rfl (by (try simp only [List.map_toArray,List.map_cons,List.map_nil]);first|done|rfl|(simp only [List.length_drop,List.length_take];rfl)) ?_;(with_reducible refine (keviah_Of.calls k a0 t164 t165 t166 t167 _ A3.out).mono ?_);rintro e w9 ⟨rfl,hb⟩;refine ⟨_,rfl,?_⟩;have n0_:=zz00 (zz34 (g:=gb162) (o:=.cells #[.int .i64 a1_0,.bool a1_1] 32 (0,0)) (by (with_reducible repeat (first|refine zz07 ?_ _|refine zz09 ?_|refine zz08 ?_ _));exact BK162.out) hb);have n1_:=zz00 (zz34 (g:=gb163) (o:=.cells #[.int .i64 0,.int .i64 0,.bool false,.int .i64 0] 95 (0,0)) (by (with_reducible repeat (first|refine zz07 ?_ _|refine zz09 ?_|refine zz08 ?_ _));exact BK163.out) hb);have n2_:=zz00 (zz21 (by repeat (first|(with_reducible first|exact HB.out|apply zz03|apply zz01|apply zz02|refine zz10 ?_ GE162.out|refine zz10 ?_ GE163.out)|exact HB.out)) hb);clear BK162;clear BK163;clear HB;have BK162:=n0_;have BK163:=n1_;have HB:=n2_;clear n0_ n1_ n2_;(try clear hb);(try clear hb2);(try clear hk);(try clear hi))|((with_reducible refine zz24 (N:=6) rfl ?_);refine zz30 ?hg (N:=6) ?hd (cs:=#[.int .i64 0,.int .i64 0,.bool false]) (t:=93) ?hr ?_;(case hd=>rfl);(case hg=>rfl);(case hr=>first|(go_simp;done)|(go_simp;rfl));intro gb168 hg w10 hbox hb;have n0_:=zz00 (zz34 (g:=gb162) (o:=.cells #[.int .i64 a1_0,.bool a1_1] 32 (0,0)) (by (with_reducible repeat (first|refine zz07 ?_ _|refine zz09 ?_|refine zz08 ?_ _));exact BK162.out) hb);have n1_:=zz00 (zz34 (g:=gb163) (o:=.cells #[.int .i64 0,.int .i64 0,.bool false,.int .i64 0] 95 (0,0)) (by (with_reducible repeat (first|refine zz07 ?_ _|refine zz09 ?_|refine zz08 ?_ _));exact BK163.out) hb);have n2_:=zz00 (zz21 (by repeat (first|(with_reducible first|exact HB.out|apply zz03|apply zz01|apply zz02|refine zz10 ?_ GE162.out|refine zz10 ?_ GE163.out)|exact HB.out)) hb);have n3_:=zz00 (hbox);have n4_:=zz00 ((by rw [hg];exact (zz22 (by repeat (first|(with_reducible first|exact HB.out|apply zz03|apply zz01|apply zz02|refine zz10 ?_ GE162.out|refine zz10 ?_ GE163.out)|exact HB.out))) : w.heap.size ≤ gb168));have n5_:=zz00 ((by rw [hg];exact (zz22 (by repeat (first|(with_reducible first|exact HB.out|apply zz03|apply zz01|apply zz02|refine zz10 ?_ GE162.out|refine zz10 ?_ GE163.out)|exact HB.out))) : w.heap.size ≤ gb168));have n6_:=zz00 ((by rw [hg];exact Nat.ne_of_lt (blk_lt (g:=gb162) (o:=.cells #[.int .i64 a1_0,.bool a1_1] 32 (0,0)) (by (with_reducible repeat (first|refine zz07 ?_ _|refine zz09 ?_|refine zz08 ?_ _));exact BK162.out)) : gb162 ≠ gb168));have n7_:=zz00 ((by rw [hg];exact Nat.ne_of_gt (blk_lt (g:=gb162) (o:=.cells #[.int .i64 a1_0,.bool a1_1] 32 (0,0)) (by (with_reducible repeat (first|refine zz07 ?_ _|refine zz09 ?_|refine zz08 ?_ _));exact BK162.out)) : gb168 ≠ gb162));have n8_:=zz00 ((by rw [hg];exact Nat.ne_of_lt (blk_lt (g:=gb163) (o:=.cells #[.int .i64 0,.int .i64 0,.bool false,.int .i64 0] 95 (0,0)) (by (with_reducible repeat (first|refine zz07 ?_ _|refine zz09 ?_|refine zz08 ?_ _));exact BK163.out)) : gb163 ≠ gb168));have n9_:=zz00 ((by rw [hg];exact Nat.ne_of_gt (blk_lt (g:=gb163) (o:=.cells #[.int .i64 0,.int .i64 0,.bool false,.int .i64 0] 95 (0,0)) (by (with_reducible repeat (first|refine zz07 ?_ _|refine zz09 ?_|refine zz08 ?_ _));exact BK163.out)) : gb168 ≠ gb163));clear BK162;clear BK163;clear HB;have BK162:=n0_;have BK163:=n1_;have HB:=n2_;have BK168:=n3_;have GW168:=n4_;have GE168:=n5_;have NB162_168:=n6_;have NB168_162:=n7_;have NB163_168:=n8_;have NB168_163:=n9_;clear n0_ n1_ n2_ n3_ n4_ n5_ n6_ n7_ n8_ n9_;clear hb hbox hg;have hnb11:=NB168_162.out;have hnc11:=NB162_168.out;have hnb12:=NB168_163.out;have hnc12:=NB163_168.out;have hcz13_0 : w10.cell? ⟨gb168,0,none⟩ = some (.int .i64 0):=(zz18 BK168.out 0).trans rfl;have hcz13_1 : w10.cell? ⟨gb168,1,none⟩ = some (.int .i64 0):=(zz18 BK168.out 1).trans rfl;have hcz13_2 : w10.cell? ⟨gb168,2,none⟩ = some (.bool false):=(zz18 BK168.out 2).trans rfl;have hfz13_0:=zz17 BK168.out 0;have hfz13_1:=zz17 BK168.out 1;have hfz13_2:=zz17 BK168.out 2;have hnb14:=NB162_163.out;have hnc14:=NB163_162.out;have hcz15_0 : w10.cell? ⟨gb162,0,none⟩ = some (.int .i64 a1_0):=(zz18 BK162.out 0).trans rfl;have hcz15_1 : w10.cell? ⟨gb162,1,none⟩ = some (.bool a1_1):=(zz18 BK162.out 1).trans rfl;have hfz15_0:=zz17 BK162.out 0;have hfz15_1:=zz17 BK162.out 1)|((with_reducible refine zz23 (f:=149) rfl ?_);refine zz25 (some 23) rfl rfl Tryz.func149 (by kernel_rfl) rfl #[.bool t166,.agg #[.int .i64 a1_0,.bool a1_1]] rfl (by (try simp only [List.map_toArray,List.map_cons,List.map_nil]);first|done|rfl|(simp only [List.length_drop,List.length_take];rfl)) ?_;(with_reducible refine (code_Place.calls k t166 a1_0 a1_1 t169 true _ A5.out).mono ?_);rintro e w16 ⟨rfl,hb⟩;refine ⟨_,rfl,?_⟩;have n0_:=zz00 (zz34 (g:=gb162) (o:=.cells #[.int .i64 a1_0,.bool a1_1] 32 (0,0)) (by (with_reducible repeat (first|refine zz07 ?_ _|refine zz09 ?_|refine zz08 ?_ _));refine zz33 ?_ NB162_168.out _;(with_reducible repeat (first|refine zz07 ?_ _|refine zz09 ?_|refine zz08 ?_ _));refine zz33 ?_ NB162_168.out _;(with_reducible repeat (first|refine zz07 ?_ _|refine zz09 ?_|refine zz08 ?_ _));refine zz33 ?_ NB162_168.out _;(with_reducible repeat (first|refine zz07 ?_ _|refine zz09 ?_|refine zz08 ?_ _));exact BK162.out) hb);have n1_:=zz00 (zz34 (g:=gb163) (o:=.cells #[.int .i64 0,.int .i64 0,.bool false,.int .i64 0] 95 (0,0)) (by (with_reducible repeat (first|refine zz07 ?_ _|refine zz09 ?_|refine zz08 ?_ _));refine zz33 ?_ NB163_168.out _;(with_reducible repeat (first|refine zz07 ?_ _|refine zz09 ?_|refine zz08 ?_ _));refine zz33 ?_ NB163_168.out _;(with_reducible repeat (first|refine zz07 ?_ _|refine zz09 ?_|refine zz08 ?_ _));refine zz33 ?_ NB163_168.out _;(with_reducible repeat (first|refine zz07 ?_ _|refine zz09 ?_|refine zz08 ?_ _));exact BK163.out) hb);have n2_:=zz00 (zz34 (g:=gb168) (o:=.cells #[.int .i64 t164,.int .i64 t165,.bool t166] 93 (0,0)) (by (with_reducible repeat (first|refine zz07 ?_ _|refine zz09 ?_|refine zz08 ?_ _));refine zz35 (cs:=#[.int .i64 t164,.int .i64 t165,.bool false]) ?_ 2 _ rfl;(with_reducible repeat (first|refine zz07 ?_ _|refine zz09 ?_|refine zz08 ?_ _));refine zz35 (cs:=#[.int .i64 t164,.int .i64 0,.bool false]) ?_ 1 _ rfl;(with_reducible repeat (first|refine zz07 ?_ _|refine zz09 ?_|refine zz08 ?_ _));refine zz35 (cs:=#[.int .i64 0,.int .i64 0,.bool false]) ?_ 0 _ rfl;(with_reducible repeat (first|refine zz07 ?_ _|refine zz09 ?_|refine zz08 ?_ _));exact BK168.out) hb);have n3_:=zz00 (zz21 (by repeat (first|(with_reducible first|exact HB.out|apply zz03|apply zz01|apply zz02|refine zz10 ?_ GE162.out|refine zz10 ?_ GE163.out|refine zz10 ?_ GE168.out)|exact HB.out)) hb);clear BK162;clear BK163;clear BK168;clear HB;have BK162:=n0_;have BK163:=n1_;have BK168:=n2_;have HB:=n3_;clear n0_ n1_ n2_ n3_;(try clear hb);(try clear hb2);(try clear hk);(try clear hi);have hcz17_0 : w16.cell? ⟨gb168,0,none⟩ = some (.int .i64 t164):=(zz18 BK168.out 0).trans rfl;have hcz17_1 : w16.cell? ⟨gb168,1,none⟩ = some (.int .i64 t165):=(zz18 BK168.out 1).trans rfl;have hcz17_2 : w16.cell? ⟨gb168,2,none⟩ = some (.bool t166):=(zz18 BK168.out 2).trans rfl;have hfz17_0:=zz17 BK168.out 0;have hfz17_1:=zz17 BK168.out 1;have hfz17_2:=zz17 BK168.out 2;have hcz18_0 : w16.cell? ⟨gb163,0,none⟩ = some (.int .i64 0):=(zz18 BK163.out 0).trans rfl;have hcz18_1 : w16.cell? ⟨gb163,1,none⟩ = some (.int .i64 0):=(zz18 BK163.out 1).trans rfl;have hcz18_2 : w16.cell? ⟨gb163,2,none⟩ = some (.bool false):=(zz18 BK163.out 2).trans rfl;have hcz18_3 : w16.cell? ⟨gb163,3,none⟩ = some (.int .i64 0):=(zz18 BK163.out 3).trans rfl;have hfz18_0:=zz17 BK163.out 0;have hfz18_1:=zz17 BK163.out 1;have hfz18_2:=zz17 BK163.out 2;have hfz18_3:=zz17 BK163.out 3))
   refine bodyPost_ret (results_ct rfl _ _ gb163 95 #[.int .i64 t164,.int .i64 t165,.bool t166,.int .i64 t169] (0,0) _ rfl (by (with_reducible repeat (first|refine zz07 ?_ _|refine zz09 ?_|refine zz08 ?_ _));refine zz35 (cs:=#[.int .i64 t164,.int .i64 t165,.bool t166,.int .i64 0]) ?_ 3 _ rfl;(with_reducible repeat (first|refine zz07 ?_ _|refine zz09 ?_|refine zz08 ?_ _));refine zz35 (cs:=#[.int .i64 t164,.int .i64 t165,.bool false,.int .i64 0]) ?_ 2 _ rfl;(with_reducible repeat (first|refine zz07 ?_ _|refine zz09 ?_|refine zz08 ?_ _));refine zz35 (cs:=#[.int .i64 t164,.int .i64 0,.bool false,.int .i64 0]) ?_ 1 _ rfl;(with_reducible repeat (first|refine zz07 ?_ _|refine zz09 ?_|refine zz08 ?_ _));refine zz35 (cs:=#[.int .i64 0,.int .i64 0,.bool false,.int .i64 0]) ?_ 0 _ rfl;(with_reducible repeat (first|refine zz07 ?_ _|refine zz09 ?_|refine zz08 ?_ _));exact BK163.out) Tryz.underlying95 rfl (by kernel_rfl)) rfl ?_
   exact ⟨by first|rfl|(simp [errW_none,errW_some] <;> rfl)|(simp [*,errW_none,errW_some] <;> rfl),by repeat (first|(with_reducible first|exact HB.out|apply zz03|apply zz01|apply zz02|refine zz10 ?_ GE162.out|refine zz10 ?_ GE163.out|refine zz10 ?_ GE168.out)|exact HB.out)⟩
  ·
   replace c6 := zz32.mpr c6
   subst c6
   have H1 : (some (0, 0, false, 0, 3)) = some (r1, r2, r3, r4, r5) := by rw [if_neg (show ¬ (false = true) by decide)] at H; exact H
   clear H
   have H := H1
   clear H1
   simp only [zz15, zz16] at H
   obtain ⟨rfl, rfl, rfl, rfl, rfl⟩ := H
   go_enter Tryz.func101, Tryz.ntmps101
   go_wp2_with (first|((with_reducible refine zz24 (N:=3) rfl ?_);refine zz30 ?hg (N:=3) ?hd (cs:=#[.int .i64 a1_0,.bool a1_1]) (t:=32) ?hr ?_;(case hd=>rfl);(case hg=>rfl);(case hr=>first|(go_simp;done)|(go_simp;rfl));intro gb162 hg w19 hbox hb;have n0_:=zz00 (zz21 (by repeat (first|(with_reducible first|exact HB.out|apply zz03|apply zz01|apply zz02)|exact HB.out)) hb);have n1_:=zz00 (hbox);have n2_:=zz00 ((by rw [hg];exact (zz22 (by repeat (first|(with_reducible first|exact HB.out|apply zz03|apply zz01|apply zz02)|exact HB.out))) : w.heap.size ≤ gb162));have n3_:=zz00 ((by rw [hg];exact (zz22 (by repeat (first|(with_reducible first|exact HB.out|apply zz03|apply zz01|apply zz02)|exact HB.out))) : w.heap.size ≤ gb162));clear HB;have HB:=n0_;have BK162:=n1_;have GW162:=n2_;have GE162:=n3_;clear n0_ n1_ n2_ n3_;clear hb hbox hg)|((with_reducible refine zz24 (N:=4) rfl ?_);refine zz30 ?hg (N:=4) ?hd (cs:=#[.int .i64 0,.int .i64 0,.bool false,.int .i64 0]) (t:=95) ?hr ?_;(case hd=>rfl);(case hg=>rfl);(case hr=>first|(go_simp;done)|(go_simp;rfl));intro gb163 hg w20 hbox hb;have n0_:=zz00 (zz34 (g:=gb162) (o:=.cells #[.int .i64 a1_0,.bool a1_1] 32 (0,0)) (by (with_reducible repeat (first|refine zz07 ?_ _|refine zz09 ?_|refine zz08 ?_ _));exact BK162.out) hb);have n1_:=zz00 (zz21 (by repeat (first|(with_reducible first|exact HB.out|apply zz03|apply zz01|apply zz02|refine zz10 ?_ GE162.out)|exact HB.out)) hb);have n2_:=zz00 (hbox);have n3_:=zz00 ((by rw [hg];exact (zz22 (by repeat (first|(with_reducible first|exact HB.out|apply zz03|apply zz01|apply zz02|refine zz10 ?_ GE162.out)|exact HB.out))) : w.heap.size ≤ gb163));have n4_:=zz00 ((by rw [hg];exact (zz22 (by repeat (first|(with_reducible first|exact HB.out|apply zz03|apply zz01|apply zz02|refine zz10 ?_ GE162.out)|exact HB.out))) : w.heap.size ≤ gb163));have n5_:=zz00 ((by rw [hg];exact Nat.ne_of_lt (blk_lt (g:=gb162) (o:=.cells #[.int .i64 a1_0,.bool a1_1] 32 (0,0)) (by (with_reducible repeat (first|refine zz07 ?_ _|refine zz09 ?_|refine zz08 ?_ _));exact BK162.out)) : gb162 ≠ gb163));have n6_:=zz00 ((by rw [hg];exact Nat.ne_of_gt (blk_lt (g:=gb162) (o:=.cells #[.int .i64 a1_0,.bool a1_1] 32 (0,0)) (by (with_reducible repeat (first|refine zz07 ?_ _|refine zz09 ?_|refine zz08 ?_ _));exact BK162.out)) : gb163 ≠ gb162));clear BK162;clear HB;have BK162:=n0_;have HB:=n1_;have BK163:=n2_;have GW163:=n3_;have GE163:=n4_;have NB162_163:=n5_;have NB163_162:=n6_;clear n0_ n1_ n2_ n3_ n4_ n5_ n6_;clear hb hbox hg)|((with_reducible refine zz23 (f:=93) rfl ?_);refine zz25 (some 12) rfl rfl Tryz.func93 (by kernel_rfl) rfl #[.int .i64 a0] rfl (by (try simp only [List.map_toArray,List.map_cons,List.map_nil]);first|done|rfl|(simp only [List.length_drop,List.length_take];rfl)) ?_;(with_reducible refine (keviah_Of.calls k a0 t164 t165 t166 t167 _ A3.out).mono ?_);rintro e w21 ⟨rfl,hb⟩;refine ⟨_,rfl,?_⟩;have n0_:=zz00 (zz34 (g:=gb162) (o:=.cells #[.int .i64 a1_0,.bool a1_1] 32 (0,0)) (by (with_reducible repeat (first|refine zz07 ?_ _|refine zz09 ?_|refine zz08 ?_ _));exact BK162.out) hb);have n1_:=zz00 (zz34 (g:=gb163) (o:=.cells #[.int .i64 0,.int .i64 0,.bool false,.int .i64 0] 95 (0,0)) (by (with_reducible repeat (first|refine zz07 ?_ _|refine zz09 ?_|refine zz08 ?_ _));exact BK163.out) hb);have n2_:=zz00 (zz21 (by repeat (first|(with_reducible first|exact HB.out|apply zz03|apply zz01|apply zz02|refine zz10 ?_ GE162.out|refine zz10 ?_ GE163.out)|exact HB.out)) hb);clear BK162;clear BK163;clear HB;have BK162:=n0_;have BK163:=n1_;have HB:=n2_;clear n0_ n1_ n2_;(try clear hb);(try clear hb2);(try clear hk);(try clear hi))|((with_reducible refine zz24 (N:=6) rfl ?_);refine zz30 ?hg (N:=6) ?hd (cs:=#[.int .i64 0,.int .i64 0,.bool false]) (t:=93) ?hr ?_;(case hd=>rfl);(case hg=>rfl);(case hr=>first|(go_simp;done)|(go_simp;rfl));intro gb168 hg w22 hbox hb;have n0_:=zz00 (zz34 (g:=gb162) (o:=.cells #[.int .i64 a1_0,.bool a1_1] 32 (0,0)) (by (with_reducible repeat (first|refine zz07 ?_ _|refine zz09 ?_|refine zz08 ?_ _));exact BK162.out) hb);have n1_:=zz00 (zz34 (g:=gb163) (o:=.cells #[.int .i64 0,.int .i64 0,.bool false,.int .i64 0] 95 (0,0)) (by (with_reducible repeat (first|refine zz07 ?_ _|refine zz09 ?_|refine zz08 ?_ _));exact BK163.out) hb);have n2_:=zz00 (zz21 (by repeat (first|(with_reducible first|exact HB.out|apply zz03|apply zz01|apply zz02|refine zz10 ?_ GE162.out|refine zz10 ?_ GE163.out)|exact HB.out)) hb);have n3_:=zz00 (hbox);have n4_:=zz00 ((by rw [hg];exact (zz22 (by repeat (first|(with_reducible first|exact HB.out|apply zz03|apply zz01|apply zz02|refine zz10 ?_ GE162.out|refine zz10 ?_ GE163.out)|exact HB.out))) : w.heap.size ≤ gb168));have n5_:=zz00 ((by rw [hg];exact (zz22 (by repeat (first|(with_reducible first|exact HB.out|apply zz03|apply zz01|apply zz02|refine zz10 ?_ GE162.out|refine zz10 ?_ GE163.out)|exact HB.out))) : w.heap.size ≤ gb168));have n6_:=zz00 ((by rw [hg];exact Nat.ne_of_lt (blk_lt (g:=gb162) (o:=.cells #[.int .i64 a1_0,.bool a1_1] 32 (0,0)) (by (with_reducible repeat (first|refine zz07 ?_ _|refine zz09 ?_|refine zz08 ?_ _));exact BK162.out)) : gb162 ≠ gb168));have n7_:=zz00 ((by rw [hg];exact Nat.ne_of_gt (blk_lt (g:=gb162) (o:=.cells #[.int .i64 a1_0,.bool a1_1] 32 (0,0)) (by (with_reducible repeat (first|refine zz07 ?_ _|refine zz09 ?_|refine zz08 ?_ _));exact BK162.out)) : gb168 ≠ gb162));have n8_:=zz00 ((by rw [hg];exact Nat.ne_of_lt (blk_lt (g:=gb163) (o:=.cells #[.int .i64 0,.int .i64 0,.bool false,.int .i64 0] 95 (0,0)) (by (with_reducible repeat (first|refine zz07 ?_ _|refine zz09 ?_|refine zz08 ?_ _));exact BK163.out)) : gb163 ≠ gb168));have n9_:=zz00 ((by rw [hg];exact Nat.ne_of_gt (blk_lt (g:=gb163) (o:=.cells #[.int .i64 0,.int .i64 0,.bool false,.int .i64 0] 95 (0,0)) (by (with_reducible repeat (first|refine zz07 ?_ _|refine zz09 ?_|refine zz08 ?_ _));exact BK163.out)) : gb168 ≠ gb163));clear BK162;clear BK163;clear HB;have BK162:=n0_;have BK163:=n1_;have HB:=n2_;have BK168:=n3_;have GW168:=n4_;have GE168:=n5_;have NB162_168:=n6_;have NB168_162:=n7_;have NB163_168:=n8_;have NB168_163:=n9_;clear n0_ n1_ n2_ n3_ n4_ n5_ n6_ n7_ n8_ n9_;clear hb hbox hg;have hnb23:=NB168_162.out;have hnc23:=NB162_168.out;have hnb24:=NB168_163.out;have hnc24:=NB163_168.out;have hcz25_0 : w22.cell? ⟨gb168,0,none⟩ = some (.int .i64 0):=(zz18 BK168.out 0).trans rfl;have hcz25_1 : w22.cell? ⟨gb168,1,none⟩ = some (.int .i64 0):=(zz18 BK168.out 1).trans rfl;have hcz25_2 : w22.cell? ⟨gb168,2,none⟩ = some (.bool false):=(zz18 BK168.out 2).trans rfl;have hfz25_0:=zz17 BK168.out 0;have hfz25_1:=zz17 BK168.out 1;have hfz25_2:=zz17 BK168.out 2;have hnb26:=NB162_163.out;have hnc26:=NB163_162.out;have hcz27_0 : w22.cell? ⟨gb162,0,none⟩ = some (.int .i64 a1_0):=(zz18 BK162.out 0).trans rfl;have hcz27_1 : w22.cell? ⟨gb162,1,none⟩ = some (.bool a1_1):=(zz18 BK162.out 1).trans rfl;have hfz27_0:=zz17 BK162.out 0;have hfz27_1:=zz17 BK162.out 1)|((with_reducible refine zz23 (f:=149) rfl ?_);refine zz25 (some 23) rfl rfl Tryz.func149 (by kernel_rfl) rfl #[.bool t166,.agg #[.int .i64 a1_0,.bool a1_1]] rfl (by (try simp only [List.map_toArray,List.map_cons,List.map_nil]);first|done|rfl|(simp only [List.length_drop,List.length_take];rfl)) ?_;(with_reducible refine (code_Place.calls k t166 a1_0 a1_1 t169 false _ A5.out).mono ?_);rintro e w28 ⟨rfl,hb⟩;refine ⟨_,rfl,?_⟩;have n0_:=zz00 (zz34 (g:=gb162) (o:=.cells #[.int .i64 a1_0,.bool a1_1] 32 (0,0)) (by (with_reducible repeat (first|refine zz07 ?_ _|refine zz09 ?_|refine zz08 ?_ _));refine zz33 ?_ NB162_168.out _;(with_reducible repeat (first|refine zz07 ?_ _|refine zz09 ?_|refine zz08 ?_ _));refine zz33 ?_ NB162_168.out _;(with_reducible repeat (first|refine zz07 ?_ _|refine zz09 ?_|refine zz08 ?_ _));refine zz33 ?_ NB162_168.out _;(with_reducible repeat (first|refine zz07 ?_ _|refine zz09 ?_|refine zz08 ?_ _));exact BK162.out) hb);have n1_:=zz00 (zz34 (g:=gb163) (o:=.cells #[.int .i64 0,.int .i64 0,.bool false,.int .i64 0] 95 (0,0)) (by (with_reducible repeat (first|refine zz07 ?_ _|refine zz09 ?_|refine zz08 ?_ _));refine zz33 ?_ NB163_168.out _;(with_reducible repeat (first|refine zz07 ?_ _|refine zz09 ?_|refine zz08 ?_ _));refine zz33 ?_ NB163_168.out _;(with_reducible repeat (first|refine zz07 ?_ _|refine zz09 ?_|refine zz08 ?_ _));refine zz33 ?_ NB163_168.out _;(with_reducible repeat (first|refine zz07 ?_ _|refine zz09 ?_|refine zz08 ?_ _));exact BK163.out) hb);have n2_:=zz00 (zz34 (g:=gb168) (o:=.cells #[.int .i64 t164,.int .i64 t165,.bool t166] 93 (0,0)) (by (with_reducible repeat (first|refine zz07 ?_ _|refine zz09 ?_|refine zz08 ?_ _));refine zz35 (cs:=#[.int .i64 t164,.int .i64 t165,.bool false]) ?_ 2 _ rfl;(with_reducible repeat (first|refine zz07 ?_ _|refine zz09 ?_|refine zz08 ?_ _));refine zz35 (cs:=#[.int .i64 t164,.int .i64 0,.bool false]) ?_ 1 _ rfl;(with_reducible repeat (first|refine zz07 ?_ _|refine zz09 ?_|refine zz08 ?_ _));refine zz35 (cs:=#[.int .i64 0,.int .i64 0,.bool false]) ?_ 0 _ rfl;(with_reducible repeat (first|refine zz07 ?_ _|refine zz09 ?_|refine zz08 ?_ _));exact BK168.out) hb);have n3_:=zz00 (zz21 (by repeat (first|(with_reducible first|exact HB.out|apply zz03|apply zz01|apply zz02|refine zz10 ?_ GE162.out|refine zz10 ?_ GE163.out|refine zz10 ?_ GE168.out)|exact HB.out)) hb);clear BK162;clear BK163;clear BK168;clear HB;have BK162:=n0_;have BK163:=n1_;have BK168:=n2_;have HB:=n3_;clear n0_ n1_ n2_ n3_;(try clear hb);(try clear hb2);(try clear hk);(try clear hi);have hcz29_0 : w28.cell? ⟨gb163,0,none⟩ = some (.int .i64 0):=(zz18 BK163.out 0).trans rfl;have hcz29_1 : w28.cell? ⟨gb163,1,none⟩ = some (.int .i64 0):=(zz18 BK163.out 1).trans rfl;have hcz29_2 : w28.cell? ⟨gb163,2,none⟩ = some (.bool false):=(zz18 BK163.out 2).trans rfl;have hcz29_3 : w28.cell? ⟨gb163,3,none⟩ = some (.int .i64 0):=(zz18 BK163.out 3).trans rfl;have hfz29_0:=zz17 BK163.out 0;have hfz29_1:=zz17 BK163.out 1;have hfz29_2:=zz17 BK163.out 2;have hfz29_3:=zz17 BK163.out 3))
   refine bodyPost_ret (results_ct rfl _ _ gb163 95 #[.int .i64 0,.int .i64 0,.bool false,.int .i64 0] (0,0) _ rfl (by (with_reducible repeat (first|refine zz07 ?_ _|refine zz09 ?_|refine zz08 ?_ _));refine zz35 (cs:=#[.int .i64 0,.int .i64 0,.bool false,.int .i64 0]) ?_ 3 _ rfl;(with_reducible repeat (first|refine zz07 ?_ _|refine zz09 ?_|refine zz08 ?_ _));refine zz35 (cs:=#[.int .i64 0,.int .i64 0,.bool false,.int .i64 0]) ?_ 2 _ rfl;(with_reducible repeat (first|refine zz07 ?_ _|refine zz09 ?_|refine zz08 ?_ _));refine zz35 (cs:=#[.int .i64 0,.int .i64 0,.bool false,.int .i64 0]) ?_ 1 _ rfl;(with_reducible repeat (first|refine zz07 ?_ _|refine zz09 ?_|refine zz08 ?_ _));refine zz35 (cs:=#[.int .i64 0,.int .i64 0,.bool false,.int .i64 0]) ?_ 0 _ rfl;(with_reducible repeat (first|refine zz07 ?_ _|refine zz09 ?_|refine zz08 ?_ _));exact BK163.out) Tryz.underlying95 rfl (by kernel_rfl)) rfl ?_
   exact ⟨by first|rfl|(simp [errW_none,errW_some] <;> rfl)|(simp [*,errW_none,errW_some] <;> rfl),by repeat (first|(with_reducible first|exact HB.out|apply zz03|apply zz01|apply zz02|refine zz10 ?_ GE162.out|refine zz10 ?_ GE163.out|refine zz10 ?_ GE168.out)|exact HB.out)⟩
 ·
  rw [if_neg c4] at H
  have c4b0 : (t167 == 0) = false := zz27.mpr c4
  have c4b1 : (t167 != 0) = true := zz28.mpr c4
  simp only [zz15, zz16] at H
  obtain ⟨rfl, rfl, rfl, rfl, rfl⟩ := H
  go_enter Tryz.func101, Tryz.ntmps101
  go_wp2_with (first|((with_reducible refine zz24 (N:=3) rfl ?_);refine zz30 ?hg (N:=3) ?hd (cs:=#[.int .i64 a1_0,.bool a1_1]) (t:=32) ?hr ?_;(case hd=>rfl);(case hg=>rfl);(case hr=>first|(go_simp;done)|(go_simp;rfl));intro gb162 hg w30 hbox hb;have n0_:=zz00 (zz21 (by repeat (first|(with_reducible first|exact HB.out|apply zz03|apply zz01|apply zz02)|exact HB.out)) hb);have n1_:=zz00 (hbox);have n2_:=zz00 ((by rw [hg];exact (zz22 (by repeat (first|(with_reducible first|exact HB.out|apply zz03|apply zz01|apply zz02)|exact HB.out))) : w.heap.size ≤ gb162));have n3_:=zz00 ((by rw [hg];exact (zz22 (by repeat (first|(with_reducible first|exact HB.out|apply zz03|apply zz01|apply zz02)|exact HB.out))) : w.heap.size ≤ gb162));clear HB;have HB:=n0_;have BK162:=n1_;have GW162:=n2_;have GE162:=n3_;clear n0_ n1_ n2_ n3_;clear hb hbox hg)|((with_reducible refine zz24 (N:=4) rfl ?_);refine zz30 ?hg (N:=4) ?hd (cs:=#[.int .i64 0,.int .i64 0,.bool false,.int .i64 0]) (t:=95) ?hr ?_;(case hd=>rfl);(case hg=>rfl);(case hr=>first|(go_simp;done)|(go_simp;rfl));intro gb163 hg w31 hbox hb;have n0_:=zz00 (zz34 (g:=gb162) (o:=.cells #[.int .i64 a1_0,.bool a1_1] 32 (0,0)) (by (with_reducible repeat (first|refine zz07 ?_ _|refine zz09 ?_|refine zz08 ?_ _));exact BK162.out) hb);have n1_:=zz00 (zz21 (by repeat (first|(with_reducible first|exact HB.out|apply zz03|apply zz01|apply zz02|refine zz10 ?_ GE162.out)|exact HB.out)) hb);have n2_:=zz00 (hbox);have n3_:=zz00 ((by rw [hg];exact (zz22 (by repeat (first|(with_reducible first|exact HB.out|apply zz03|apply zz01|apply zz02|refine zz10 ?_ GE162.out)|exact HB.out))) : w.heap.size ≤ gb163));have n4_:=zz00 ((by rw [hg];exact (zz22 (by repeat (first|(with_reducible first|exact HB.out|apply zz03|apply zz01|apply zz02|refine zz10 ?_ GE162.out)|exact HB.out))) : w.heap.size ≤ gb163));have n5_:=zz00 ((by rw [hg];exact Nat.ne_of_lt (blk_lt (g:=gb162) (o:=.cells #[.int .i64 a1_0,.bool a1_1] 32 (0,0)) (by (with_reducible repeat (first|refine zz07 ?_ _|refine zz09 ?_|refine zz08 ?_ _));exact BK162.out)) : gb162 ≠ gb163));have n6_:=zz00 ((by rw [hg];exact Nat.ne_of_gt (blk_lt (g:=gb162) (o:=.cells #[.int .i64 a1_0,.bool a1_1] 32 (0,0)) (by (with_reducible repeat (first|refine zz07 ?_ _|refine zz09 ?_|refine zz08 ?_ _));exact BK162.out)) : gb163 ≠ gb162));clear BK162;clear HB;have BK162:=n0_;have HB:=n1_;have BK163:=n2_;have GW163:=n3_;have GE163:=n4_;have NB162_163:=n5_;have NB163_162:=n6_;clear n0_ n1_ n2_ n3_ n4_ n5_ n6_;clear hb hbox hg)|((with_reducible refine zz23 (f:=93) rfl ?_);refine zz25 (some 12) rfl rfl Tryz.func93 (by kernel_rfl) rfl #[.int .i64 a0] rfl (by (try simp only [List.map_toArray,List.map_cons,List.map_nil]);first|done|rfl|(simp only [List.length_drop,List.length_take];rfl)) ?_;(with_reducible refine (keviah_Of.calls k a0 t164 t165 t166 t167 _ A3.out).mono ?_);rintro e w32 ⟨rfl,hb⟩;refine ⟨_,rfl,?_⟩;have n0_:=zz00 (zz34 (g:=gb162) (o:=.cells #[.int .i64 a1_0,.bool a1_1] 32 (0,0)) (by (with_reducible repeat (first|refine zz07 ?_ _|refine zz09 ?_|refine zz08 ?_ _));exact BK162.out) hb);have n1_:=zz00 (zz34 (g:=gb163) (o:=.cells #[.int .i64 0,.int .i64 0,.bool false,.int .i64 0] 95 (0,0)) (by (with_reducible repeat (first|refine zz07 ?_ _|refine zz09 ?_|refine zz08 ?_ _));exact BK163.out) hb);have n2_:=zz00 (zz21 (by repeat (first|(with_reducible first|exact HB.out|apply zz03|apply zz01|apply zz02|refine zz10 ?_ GE162.out|refine zz10 ?_ GE163.out)|exact HB.out)) hb);clear BK162;clear BK163;clear HB;have BK162:=n0_;have BK163:=n1_;have HB:=n2_;clear n0_ n1_ n2_;(try clear hb);(try clear hb2);(try clear hk);(try clear hi))|((with_reducible refine zz24 (N:=6) rfl ?_);refine zz30 ?hg (N:=6) ?hd (cs:=#[.int .i64 0,.int .i64 0,.bool false]) (t:=93) ?hr ?_;(case hd=>rfl);(case hg=>rfl);(case hr=>first|(go_simp;done)|(go_simp;rfl));intro gb168 hg w33 hbox hb;have n0_:=zz00 (zz34 (g:=gb162) (o:=.cells #[.int .i64 a1_0,.bool a1_1] 32 (0,0)) (by (with_reducible repeat (first|refine zz07 ?_ _|refine zz09 ?_|refine zz08 ?_ _));exact BK162.out) hb);have n1_:=zz00 (zz34 (g:=gb163) (o:=.cells #[.int .i64 0,.int .i64 0,.bool false,.int .i64 0] 95 (0,0)) (by (with_reducible repeat (first|refine zz07 ?_ _|refine zz09 ?_|refine zz08 ?_ _));exact BK163.out) hb);have n2_:=zz00 (zz21 (by repeat (first|(with_reducible first|exact HB.out|apply zz03|apply zz01|apply zz02|refine zz10 ?_ GE162.out|refine zz10 ?_ GE163.out)|exact HB.out)) hb);have n3_:=zz00 (hbox);have n4_:=zz00 ((by rw [hg];exact (zz22 (by repeat (first|(with_reducible first|exact HB.out|apply zz03|apply zz01|apply zz02|refine zz10 ?_ GE162.out|refine zz10 ?_ GE163.out)|exact HB.out))) : w.heap.size ≤ gb168));have n5_:=zz00 ((by rw [hg];exact (zz22 (by repeat (first|(with_reducible first|exact HB.out|apply zz03|apply zz01|apply zz02|refine zz10 ?_ GE162.out|refine zz10 ?_ GE163.out)|exact HB.out))) : w.heap.size ≤ gb168));have n6_:=zz00 ((by rw [hg];exact Nat.ne_of_lt (blk_lt (g:=gb162) (o:=.cells #[.int .i64 a1_0,.bool a1_1] 32 (0,0)) (by (with_reducible repeat (first|refine zz07 ?_ _|refine zz09 ?_|refine zz08 ?_ _));exact BK162.out)) : gb162 ≠ gb168));have n7_:=zz00 ((by rw [hg];exact Nat.ne_of_gt (blk_lt (g:=gb162) (o:=.cells #[.int .i64 a1_0,.bool a1_1] 32 (0,0)) (by (with_reducible repeat (first|refine zz07 ?_ _|refine zz09 ?_|refine zz08 ?_ _));exact BK162.out)) : gb168 ≠ gb162));have n8_:=zz00 ((by rw [hg];exact Nat.ne_of_lt (blk_lt (g:=gb163) (o:=.cells #[.int .i64 0,.int .i64 0,.bool false,.int .i64 0] 95 (0,0)) (by (with_reducible repeat (first|refine zz07 ?_ _|refine zz09 ?_|refine zz08 ?_ _));exact BK163.out)) : gb163 ≠ gb168));have n9_:=zz00 ((by rw [hg];exact Nat.ne_of_gt (blk_lt (g:=gb163) (o:=.cells #[.int .i64 0,.int .i64 0,.bool false,.int .i64 0] 95 (0,0)) (by (with_reducible repeat (first|refine zz07 ?_ _|refine zz09 ?_|refine zz08 ?_ _));exact BK163.out)) : gb168 ≠ gb163));clear BK162;clear BK163;clear HB;have BK162:=n0_;have BK163:=n1_;have HB:=n2_;have BK168:=n3_;have GW168:=n4_;have GE168:=n5_;have NB162_168:=n6_;have NB168_162:=n7_;have NB163_168:=n8_;have NB168_163:=n9_;clear n0_ n1_ n2_ n3_ n4_ n5_ n6_ n7_ n8_ n9_;clear hb hbox hg;have hnb34:=NB168_162.out;have hnc34:=NB162_168.out;have hnb35:=NB168_163.out;have hnc35:=NB163_168.out;have hcz36_0 : w33.cell? ⟨gb168,0,none⟩ = some (.int .i64 0):=(zz18 BK168.out 0).trans rfl;have hcz36_1 : w33.cell? ⟨gb168,1,none⟩ = some (.int .i64 0):=(zz18 BK168.out 1).trans rfl;have hcz36_2 : w33.cell? ⟨gb168,2,none⟩ = some (.bool false):=(zz18 BK168.out 2).trans rfl;have hfz36_0:=zz17 BK168.out 0;have hfz36_1:=zz17 BK168.out 1;have hfz36_2:=zz17 BK168.out 2;have hnb37:=NB163_162.out;have hnc37:=NB162_163.out;have hcz38_0 : w33.cell? ⟨gb163,0,none⟩ = some (.int .i64 0):=(zz18 BK163.out 0).trans rfl;have hcz38_1 : w33.cell? ⟨gb163,1,none⟩ = some (.int .i64 0):=(zz18 BK163.out 1).trans rfl;have hcz38_2 : w33.cell? ⟨gb163,2,none⟩ = some (.bool false):=(zz18 BK163.out 2).trans rfl;have hcz38_3 : w33.cell? ⟨gb163,3,none⟩ = some (.int .i64 0):=(zz18 BK163.out 3).trans rfl;have hfz38_0:=zz17 BK163.out 0;have hfz38_1:=zz17 BK163.out 1;have hfz38_2:=zz17 BK163.out 2;have hfz38_3:=zz17 BK163.out 3))
  refine bodyPost_ret (results_ct rfl _ _ gb163 95 #[.int .i64 0,.int .i64 0,.bool false,.int .i64 0] (0,0) _ rfl (by (with_reducible repeat (first|refine zz07 ?_ _|refine zz09 ?_|refine zz08 ?_ _));refine zz35 (cs:=#[.int .i64 0,.int .i64 0,.bool false,.int .i64 0]) ?_ 3 _ rfl;(with_reducible repeat (first|refine zz07 ?_ _|refine zz09 ?_|refine zz08 ?_ _));refine zz35 (cs:=#[.int .i64 0,.int .i64 0,.bool false,.int .i64 0]) ?_ 2 _ rfl;(with_reducible repeat (first|refine zz07 ?_ _|refine zz09 ?_|refine zz08 ?_ _));refine zz35 (cs:=#[.int .i64 0,.int .i64 0,.bool false,.int .i64 0]) ?_ 1 _ rfl;(with_reducible repeat (first|refine zz07 ?_ _|refine zz09 ?_|refine zz08 ?_ _));refine zz35 (cs:=#[.int .i64 0,.int .i64 0,.bool false,.int .i64 0]) ?_ 0 _ rfl;(with_reducible repeat (first|refine zz07 ?_ _|refine zz09 ?_|refine zz08 ?_ _));refine zz33 ?_ NB163_168.out _;(with_reducible repeat (first|refine zz07 ?_ _|refine zz09 ?_|refine zz08 ?_ _));refine zz33 ?_ NB163_168.out _;(with_reducible repeat (first|refine zz07 ?_ _|refine zz09 ?_|refine zz08 ?_ _));refine zz33 ?_ NB163_168.out _;(with_reducible repeat (first|refine zz07 ?_ _|refine zz09 ?_|refine zz08 ?_ _));exact BK163.out) Tryz.underlying95 rfl (by kernel_rfl)) rfl ?_
  exact ⟨by first|rfl|(simp [errW_none,errW_some] <;> rfl)|(simp [*,errW_none,errW_some] <;> rfl),by repeat (first|(with_reducible first|exact HB.out|apply zz03|apply zz01|apply zz02|refine zz10 ?_ GE162.out|refine zz10 ?_ GE163.out|refine zz10 ?_ GE168.out)|exact HB.out)⟩

def heb_Last.f (k : Nat) (a0 : Int) (a1_0 : Int) (a1_1 : Bool) : Option (Int × Int) := (heb_find.f k a0 a1_0 a1_1).bind fun bt172 => (if bt172.2.2.2.2 = 0 then ((month_Days.f bt172.1 bt172.2.1 bt172.2.2.1 bt172.2.2.2.1).bind fun t178 => (some (t178, 0))) else (some (0, bt172.2.2.2.2)))
set_option maxHeartbeats 8000000 in
set_option maxRecDepth 100000 in
theorem heb_Last.calls (k : Nat) (a0 : Int) (a1_0 : Int) (a1_1 : Bool) (r1 : Int) (r2 : Int) (w : World) (HGT : GlobT w) (h : heb_Last.f k a0 a1_0 a1_1 = some (r1, r2)) :
  Calls Tryz.prog 46 #[.int .i64 a0, .agg #[.int .i64 a1_0, .bool a1_1]] w fun e w' => e = .returned (.tuple #[.int .i64 r1, .int .i64 r2]) ∧ Below w.heap.size w w' := by
 have hu32 := Tryz.underlying32
 have hu95 := Tryz.underlying95
 have hu93 := Tryz.underlying93
 have HB := zz00 (Below.refl w.heap.size w)
 have H : ((heb_find.f k a0 a1_0 a1_1).bind fun bt172=>(if bt172.2.2.2.2 = 0 then ((month_Days.f bt172.1 bt172.2.1 bt172.2.2.1 bt172.2.2.2.1).bind fun t178=>(some (t178,0))) else (some (0,bt172.2.2.2.2)))) = some (r1,r2):=h
 clear h
 replace H := zz14.mp H
 obtain ⟨⟨t172, t173, t174, t175, t176⟩, A30, H⟩ := H
 replace H : (if t176 = 0 then ((month_Days.f t172 t173 t174 t175).bind fun t178 => (some (t178, 0))) else (some (0, t176))) = some (r1, r2) := H
 have A3 := zz00 A30
 clear A30
 by_cases c4 : t176 = 0
 ·
  rw [if_pos c4] at H
  have c4b0 : (t176 == 0) = true := zz29.mpr c4
  have c4b1 : (t176 != 0) = false := zz26.mpr c4
  clear c4
  replace H := zz14.mp H
  obtain ⟨t178, A50, H⟩ := H
  replace H : (some (t178, 0)) = some (r1, r2) := H
  have A5 := zz00 A50
  clear A50
  simp only [zz15, zz16] at H
  obtain ⟨rfl, rfl⟩ := H
  go_enter Tryz.func46, Tryz.ntmps46
  go_wp2_with (first|((with_reducible refine zz24 (N:=3) rfl ?_);refine zz30 ?hg (N:=3) ?hd (cs:=#[.int .i64 a1_0,.bool a1_1]) (t:=32) ?hr ?_;(case hd=>rfl);(case hg=>rfl);(case hr=>first|(go_simp;done)|(go_simp;rfl));intro gb171 hg w6 hbox hb;have n0_:=zz00 (zz21 (by repeat (first|(with_reducible first|exact HB.out|apply zz03|apply zz01|apply zz02)|exact HB.out)) hb);have n1_:=zz00 (hbox);have n2_:=zz00 ((by rw [hg];exact (zz22 (by repeat (first|(with_reducible first|exact HB.out|apply zz03|apply zz01|apply zz02)|exact HB.out))) : w.heap.size ≤ gb171));have n3_:=zz00 ((by rw [hg];exact (zz22 (by repeat (first|(with_reducible first|exact HB.out|apply zz03|apply zz01|apply zz02)|exact HB.out))) : w.heap.size ≤ gb171));clear HB;have HB:=n0_;have BK171:=n1_;have GW171:=n2_;have GE171:=n3_;clear n0_ n1_ n2_ n3_;clear hb hbox hg;have hcz7_0 : w6.cell? ⟨gb171,0,none⟩ = some (.int .i64 a1_0):=(zz18 BK171.out 0).trans rfl;have hcz7_1 : w6.cell? ⟨gb171,1,none⟩ = some (.bool a1_1):=(zz18 BK171.out 1).trans rfl;have hfz7_0:=zz17 BK171.out 0;have hfz7_1:=zz17 BK171.out 1)|((with_reducible refine zz23 (f:=101) rfl ?_);refine zz25 (some 11) rfl rfl Tryz.func101 (by kernel_rfl) rfl #[.int .i64 a0,.agg #[.int .i64 a1_0,.bool a1_1]] rfl (by (try simp only [List.map_toArray,List.map_cons,List.map_nil]);first|done|rfl|(simp only [List.length_drop,List.length_take];rfl)) ?_;(with_reducible refine (heb_find.calls k a0 a1_0 a1_1 t172 t173 t174 t175 t176 _ A3.out).mono ?_);rintro e w8 ⟨rfl,hb⟩;refine ⟨_,rfl,?_⟩;have n0_:=zz00 (zz34 (g:=gb171) (o:=.cells #[.int .i64 a1_0,.bool a1_1] 32 (0,0)) (by (with_reducible repeat (first|refine zz07 ?_ _|refine zz09 ?_|refine zz08 ?_ _));exact BK171.out) hb);have n1_:=zz00 (zz21 (by repeat (first|(with_reducible first|exact HB.out|apply zz03|apply zz01|apply zz02|refine zz10 ?_ GE171.out)|exact HB.out)) hb);clear BK171;clear HB;have BK171:=n0_;have HB:=n1_;clear n0_ n1_;(try clear hb);(try clear hb2);(try clear hk);(try clear hi))|((with_reducible refine zz24 (N:=6) rfl ?_);refine zz30 ?hg (N:=6) ?hd (cs:=#[.int .i64 0,.int .i64 0,.bool false,.int .i64 0]) (t:=95) ?hr ?_;(case hd=>rfl);(case hg=>rfl);(case hr=>first|(go_simp;done)|(go_simp;rfl));intro gb177 hg w9 hbox hb;have n0_:=zz00 (zz34 (g:=gb171) (o:=.cells #[.int .i64 a1_0,.bool a1_1] 32 (0,0)) (by (with_reducible repeat (first|refine zz07 ?_ _|refine zz09 ?_|refine zz08 ?_ _));exact BK171.out) hb);have n1_:=zz00 (zz21 (by repeat (first|(with_reducible first|exact HB.out|apply zz03|apply zz01|apply zz02|refine zz10 ?_ GE171.out)|exact HB.out)) hb);have n2_:=zz00 (hbox);have n3_:=zz00 ((by rw [hg];exact (zz22 (by repeat (first|(with_reducible first|exact HB.out|apply zz03|apply zz01|apply zz02|refine zz10 ?_ GE171.out)|exact HB.out))) : w.heap.size ≤ gb177));have n4_:=zz00 ((by rw [hg];exact (zz22 (by repeat (first|(with_reducible first|exact HB.out|apply zz03|apply zz01|apply zz02|refine zz10 ?_ GE171.out)|exact HB.out))) : w.heap.size ≤ gb177));have n5_:=zz00 ((by rw [hg];exact Nat.ne_of_lt (blk_lt (g:=gb171) (o:=.cells #[.int .i64 a1_0,.bool a1_1] 32 (0,0)) (by (with_reducible repeat (first|refine zz07 ?_ _|refine zz09 ?_|refine zz08 ?_ _));exact BK171.out)) : gb171 ≠ gb177));have n6_:=zz00 ((by rw [hg];exact Nat.ne_of_gt (blk_lt (g:=gb171) (o:=.cells #[.int .i64 a1_0,.bool a1_1] 32 (0,0)) (by (with_reducible repeat (first|refine zz07 ?_ _|refine zz09 ?_|refine zz08 ?_ _));exact BK171.out)) : gb177 ≠ gb171));clear BK171;clear HB;have BK171:=n0_;have HB:=n1_;have BK177:=n2_;have GW177:=n3_;have GE177:=n4_;have NB171_177:=n5_;have NB177_171:=n6_;clear n0_ n1_ n2_ n3_ n4_ n5_ n6_;clear hb hbox hg;have hnb10:=NB177_171.out;have hnc10:=NB171_177.out;have hcz11_0 : w9.cell? ⟨gb177,0,none⟩ = some (.int .i64 0):=(zz18 BK177.out 0).trans rfl;have hcz11_1 : w9.cell? ⟨gb177,1,none⟩ = some (.int .i64 0):=(zz18 BK177.out 1).trans rfl;have hcz11_2 : w9.cell? ⟨gb177,2,none⟩ = some (.bool false):=(zz18 BK177.out 2).trans rfl;have hcz11_3 : w9.cell? ⟨gb177,3,none⟩ = some (.int .i64 0):=(zz18 BK177.out 3).trans rfl;have hfz11_0:=zz17 BK177.out 0;have hfz11_1:=zz17 BK177.out 1;have hfz11_2:=zz17 BK177.out 2;have hfz11_3:=zz17 BK177.out 3)|((with_reducible refine zz23 (f:=102) rfl ?_);refine zz25 (some 21) rfl rfl Tryz.func102 (by kernel_rfl) rfl #[.agg #[.int .i64 t172,.int .i64 t173,.bool t174],.int .i64 t175] rfl (by (try simp only [List.map_toArray,List.map_cons,List.map_nil]);first|done|rfl|(simp only [List.length_drop,List.length_take];rfl)) ?_;(with_reducible refine (month_Days.calls t172 t173 t174 t175 t178 _ ?side1 A5.out).mono ?_);(case side1=>exact GlobT.below HGT (by repeat (first|(with_reducible first|exact HB.out|apply zz03|apply zz01|apply zz02|refine zz10 ?_ GE171.out|refine zz10 ?_ GE177.out)|exact HB.out)));rintro e w12 ⟨rfl,hb⟩;refine ⟨_,rfl,?_⟩;have n0_:=zz00 (zz34 (g:=gb171) (o:=.cells #[.int .i64 a1_0,.bool a1_1] 32 (0,0)) (by (with_reducible repeat (first|refine zz07 ?_ _|refine zz09 ?_|refine zz08 ?_ _));refine zz33 ?_ NB171_177.out _;(with_reducible repeat (first|refine zz07 ?_ _|refine zz09 ?_|refine zz08 ?_ _));refine zz33 ?_ NB171_177.out _;(with_reducible repeat (first|refine zz07 ?_ _|refine zz09 ?_|refine zz08 ?_ _));refine zz33 ?_ NB171_177.out _;(with_reducible repeat (first|refine zz07 ?_ _|refine zz09 ?_|refine zz08 ?_ _));refine zz33 ?_ NB171_177.out _;(with_reducible repeat (first|refine zz07 ?_ _|refine zz09 ?_|refine zz08 ?_ _));exact BK171.out) hb);have n1_:=zz00 (zz34 (g:=gb177) (o:=.cells #[.int .i64 t172,.int .i64 t173,.bool t174,.int .i64 t175] 95 (0,0)) (by (with_reducible repeat (first|refine zz07 ?_ _|refine zz09 ?_|refine zz08 ?_ _));refine zz35 (cs:=#[.int .i64 t172,.int .i64 t173,.bool t174,.int .i64 0]) ?_ 3 _ rfl;(with_reducible repeat (first|refine zz07 ?_ _|refine zz09 ?_|refine zz08 ?_ _));refine zz35 (cs:=#[.int .i64 t172,.int .i64 t173,.bool false,.int .i64 0]) ?_ 2 _ rfl;(with_reducible repeat (first|refine zz07 ?_ _|refine zz09 ?_|refine zz08 ?_ _));refine zz35 (cs:=#[.int .i64 t172,.int .i64 0,.bool false,.int .i64 0]) ?_ 1 _ rfl;(with_reducible repeat (first|refine zz07 ?_ _|refine zz09 ?_|refine zz08 ?_ _));refine zz35 (cs:=#[.int .i64 0,.int .i64 0,.bool false,.int .i64 0]) ?_ 0 _ rfl;(with_reducible repeat (first|refine zz07 ?_ _|refine zz09 ?_|refine zz08 ?_ _));exact BK177.out) hb);have n2_:=zz00 (zz21 (by repeat (first|(with_reducible first|exact HB.out|apply zz03|apply zz01|apply zz02|refine zz10 ?_ GE171.out|refine zz10 ?_ GE177.out)|exact HB.out)) hb);clear BK171;clear BK177;clear HB;have BK171:=n0_;have BK177:=n1_;have HB:=n2_;clear n0_ n1_ n2_;(try clear hb);(try clear hb2);(try clear hk);(try clear hi)))
  go_ret2
  exact ⟨by first|rfl|(simp [errW_none,errW_some] <;> rfl)|(simp [*,errW_none,errW_some] <;> rfl),by repeat (first|(with_reducible first|exact HB.out|apply zz03|apply zz01|apply zz02|refine zz10 ?_ GE171.out|refine zz10 ?_ GE177.out)|exact HB.out)⟩
 ·
  rw [if_neg c4] at H
  have c4b0 : (t176 == 0) = false := zz27.mpr c4
  have c4b1 : (t176 != 0) = true := zz28.mpr c4
  simp only [zz15, zz16] at H
  obtain ⟨rfl, rfl⟩ := H
  go_enter Tryz.func46, Tryz.ntmps46
  go_wp2_with (first|((with_reducible refine zz24 (N:=3) rfl ?_);refine zz30 ?hg (N:=3) ?hd (cs:=#[.int .i64 a1_0,.bool a1_1]) (t:=32) ?hr ?_;(case hd=>rfl);(case hg=>rfl);(case hr=>first|(go_simp;done)|(go_simp;rfl));intro gb171 hg w13 hbox hb;have n0_:=zz00 (zz21 (by repeat (first|(with_reducible first|exact HB.out|apply zz03|apply zz01|apply zz02)|exact HB.out)) hb);have n1_:=zz00 (hbox);have n2_:=zz00 ((by rw [hg];exact (zz22 (by repeat (first|(with_reducible first|exact HB.out|apply zz03|apply zz01|apply zz02)|exact HB.out))) : w.heap.size ≤ gb171));have n3_:=zz00 ((by rw [hg];exact (zz22 (by repeat (first|(with_reducible first|exact HB.out|apply zz03|apply zz01|apply zz02)|exact HB.out))) : w.heap.size ≤ gb171));clear HB;have HB:=n0_;have BK171:=n1_;have GW171:=n2_;have GE171:=n3_;clear n0_ n1_ n2_ n3_;clear hb hbox hg;have hcz14_0 : w13.cell? ⟨gb171,0,none⟩ = some (.int .i64 a1_0):=(zz18 BK171.out 0).trans rfl;have hcz14_1 : w13.cell? ⟨gb171,1,none⟩ = some (.bool a1_1):=(zz18 BK171.out 1).trans rfl;have hfz14_0:=zz17 BK171.out 0;have hfz14_1:=zz17 BK171.out 1)|((with_reducible refine zz23 (f:=101) rfl ?_);refine zz25 (some 11) rfl rfl Tryz.func101 (by kernel_rfl) rfl #[.int .i64 a0,.agg #[.int .i64 a1_0,.bool a1_1]] rfl (by (try simp only [List.map_toArray,List.map_cons,List.map_nil]);first|done|rfl|(simp only [List.length_drop,List.length_take];rfl)) ?_;(with_reducible refine (heb_find.calls k a0 a1_0 a1_1 t172 t173 t174 t175 t176 _ A3.out).mono ?_);rintro e w15 ⟨rfl,hb⟩;refine ⟨_,rfl,?_⟩;have n0_:=zz00 (zz34 (g:=gb171) (o:=.cells #[.int .i64 a1_0,.bool a1_1] 32 (0,0)) (by (with_reducible repeat (first|refine zz07 ?_ _|refine zz09 ?_|refine zz08 ?_ _));exact BK171.out) hb);have n1_:=zz00 (zz21 (by repeat (first|(with_reducible first|exact HB.out|apply zz03|apply zz01|apply zz02|refine zz10 ?_ GE171.out)|exact HB.out)) hb);clear BK171;clear HB;have BK171:=n0_;have HB:=n1_;clear n0_ n1_;(try clear hb);(try clear hb2);(try clear hk);(try clear hi))|((with_reducible refine zz24 (N:=6) rfl ?_);refine zz30 ?hg (N:=6) ?hd (cs:=#[.int .i64 0,.int .i64 0,.bool false,.int .i64 0]) (t:=95) ?hr ?_;(case hd=>rfl);(case hg=>rfl);(case hr=>first|(go_simp;done)|(go_simp;rfl));intro gb177 hg w16 hbox hb;have n0_:=zz00 (zz34 (g:=gb171) (o:=.cells #[.int .i64 a1_0,.bool a1_1] 32 (0,0)) (by (with_reducible repeat (first|refine zz07 ?_ _|refine zz09 ?_|refine zz08 ?_ _));exact BK171.out) hb);have n1_:=zz00 (zz21 (by repeat (first|(with_reducible first|exact HB.out|apply zz03|apply zz01|apply zz02|refine zz10 ?_ GE171.out)|exact HB.out)) hb);have n2_:=zz00 (hbox);have n3_:=zz00 ((by rw [hg];exact (zz22 (by repeat (first|(with_reducible first|exact HB.out|apply zz03|apply zz01|apply zz02|refine zz10 ?_ GE171.out)|exact HB.out))) : w.heap.size ≤ gb177));have n4_:=zz00 ((by rw [hg];exact (zz22 (by repeat (first|(with_reducible first|exact HB.out|apply zz03|apply zz01|apply zz02|refine zz10 ?_ GE171.out)|exact HB.out))) : w.heap.size ≤ gb177));have n5_:=zz00 ((by rw [hg];exact Nat.ne_of_lt (blk_lt (g:=gb171) (o:=.cells #[.int .i64 a1_0,.bool a1_1] 32 (0,0)) (by (with_reducible repeat (first|refine zz07 ?_ _|refine zz09 ?_|refine zz08 ?_ _));exact BK171.out)) : gb171 ≠ gb177));have n6_:=zz00 ((by rw [hg];exact Nat.ne_of_gt (blk_lt (g:=gb171) (o:=.cells #[.int .i64 a1_0,.bool a1_1] 32 (0,0)) (by (with_reducible repeat (first|refine zz07 ?_ _|refine zz09 ?_|refine zz08 ?_ _));exact BK171.out)) : gb177 ≠ gb171));clear BK171;clear HB;have BK171:=n0_;have HB:=n1_;have BK177:=n2_;have GW177:=n3_;have GE177:=n4_;have NB171_177:=n5_;have NB177_171:=n6_;clear n0_ n1_ n2_ n3_ n4_ n5_ n6_;clear hb hbox hg;have hnb17:=NB177_171.out;have hnc17:=NB171_177.out;have hcz18_0 : w16.cell? ⟨gb177,0,none⟩ = some (.int .i64 0):=(zz18 BK177.out 0).trans rfl;have hcz18_1 : w16.cell? ⟨gb177,1,none⟩ = some (.int .i64 0):=(zz18 BK177.out 1).trans rfl;have hcz18_2 : w16.cell? ⟨gb177,2,none⟩ = some (.bool false):=(zz18 BK177.out 2).trans rfl;have hcz18_3 : w16.cell? ⟨gb177,3,none⟩ = some (.int .i64 0):=(zz18 BK177.out 3).trans rfl;have hfz18_0:=zz17 BK177.out 0;have hfz18_1:=zz17 BK177.out 1;have hfz18_2:=zz17 BK177.out 2;have hfz18_3:=zz17 BK177.out 3))
  go_ret2
  exact ⟨by first|rfl|(simp [errW_none,errW_some] <;> rfl)|(simp [*,errW_none,errW_some] <;> rfl),by repeat (first|(with_reducible first|exact HB.out|apply zz03|apply zz01|apply zz02|refine zz10 ?_ GE171.out|refine zz10 ?_ GE177.out)|exact HB.out)⟩

def name_leap.f (a0 : Int) : Option (Bool) := (cycle_Leap.f a0).bind fun bt179 => (if bt179.1 = true then (some (bt179.2 == 0)) else (some false))
set_option maxHeartbeats 8000000 in
set_option maxRecDepth 100000 in
theorem name_leap.calls (a0 : Int) (r : Bool) (w : World) (h : name_leap.f a0 = some r) :
  Calls Tryz.prog 47 #[.int .i64 a0] w fun e w' => e = .returned (.bool r) ∧ Drawn0 w w' := by
 have H : ((cycle_Leap.f a0).bind fun bt179 => (if bt179.1 = true then (some (bt179.2 == 0)) else (some false))) = some r := h
 clear h
 replace H := zz14.mp H
 obtain ⟨⟨t179, t180⟩, A20, H⟩ := H
 replace H : (if t179 = true then (some (t180 == 0)) else (some false)) = some r := H
 have A2 := zz00 A20
 clear A20
 by_cases c3 : t179 = true
 ·
  subst c3
  have H1 : (some (t180 == 0)) = some r := by rw [if_pos rfl] at H; exact H
  clear H
  have H := H1
  clear H1
  obtain rfl := Option.some.inj H
  go_enter Tryz.func47, Tryz.ntmps47
  go_wp2_with (first|((with_reducible refine zz23 (f:=103) rfl ?_);refine zz25 (some 7) rfl rfl Tryz.func103 (by kernel_rfl) rfl #[.int .i64 a0] rfl (by (try simp only [List.map_toArray,List.map_cons,List.map_nil]);first|done|rfl|(simp only [List.length_drop,List.length_take];rfl)) ?_;(with_reducible refine (cycle_Leap.calls a0 true t180 _ A2.out).mono ?_);rintro e w' ⟨rfl,⟨nd,rfl⟩⟩;refine ⟨_,rfl,?_⟩))
  go_ret
  exact ⟨by first | rfl | (simp; done) | (simp [*]; done), by repeat (first | exact Drawn0.refl _ | apply Drawn0.step)⟩
 ·
  replace c3 := zz32.mpr c3
  subst c3
  have H1 : (some false) = some r := by rw [if_neg (show ¬ (false = true) by decide)] at H; exact H
  clear H
  have H := H1
  clear H1
  obtain rfl := Option.some.inj H
  go_enter Tryz.func47, Tryz.ntmps47
  go_wp2_with (first|((with_reducible refine zz23 (f:=103) rfl ?_);refine zz25 (some 7) rfl rfl Tryz.func103 (by kernel_rfl) rfl #[.int .i64 a0] rfl (by (try simp only [List.map_toArray,List.map_cons,List.map_nil]);first|done|rfl|(simp only [List.length_drop,List.length_take];rfl)) ?_;(with_reducible refine (cycle_Leap.calls a0 false t180 _ A2.out).mono ?_);rintro e w' ⟨rfl,⟨nd,rfl⟩⟩;refine ⟨_,rfl,?_⟩))
  go_ret
  exact ⟨by first | rfl | (simp; done) | (simp [*]; done), by repeat (first | exact Drawn0.refl _ | apply Drawn0.step)⟩

end Go.Proofs.YtflpddhoiafhcaaGreatDoor.R
end
