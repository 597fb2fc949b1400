/- Texts of the proof of 'SpecialTells', joined by a program (part 6): contracts of functions, plain laws. -/
import Derived.Test.YtflpddhoiafhcaaGreatDoorJSpecialTells0
import Derived.Test.YtflpddhoiafhcaaGreatDoorJSpecialTells2
import Derived.Test.YtflpddhoiafhcaaGreatDoorJSpecialTells5
import Derived.Test.YtflpddhoiafhcaaGreatDoorJSpecialTells4
set_option linter.unusedVariables false
set_option linter.unusedSimpArgs false
section
-- Written by wip/hprint.py of this repo (holes typed by hand, all else by a program) over the seat YtflpddhoiafhcaaGreatDoor.
namespace Go.Proofs.YtflpddhoiafhcaaGreatDoor.S
open Go.Proofs.YtflpddhoiafhcaaGreatDoor.H
open Go.RowKit Go.Proofs.YtflpddhoiafhcaaGreatDoorW.PrintWords Go.Proofs.YtflpddhoiafhcaaGreatDoorW.PrintLast Go.Proofs.YtflpddhoiafhcaaGreatDoorW.PrintMore
attribute [local go_sem] max2_int min2_int max_two min_two max_three min_three max_four min_four   -- for this text's walks alone
set_option linter.unusedVariables false
set_option linter.unusedSimpArgs false

def almanackerref08_is.f (k : Nat) (a0_0 : Int) (a0_1 : Int) (a0_2 : Bool) (a1 : Int) : Option (Bool) := (almanackerref07_Number.f k a0_0 a0_1 a0_2).bind fun t315 => (if t315 > 0 then (if a1 ≥ 1 then ((almanackerref08_lengths.f k a0_0 a0_1 a0_2).bind fun t316 => (some (decide (a1 ≤ (t316.length : Int))))) else (some false)) else (some false))
theorem almanackerref08_is.mono : ∀ a0 a1 a2 a3 k, LeO (almanackerref08_is.f k a0 a1 a2 a3) (almanackerref08_is.f (k + 1) a0 a1 a2 a3) := by
 intro a0 a1 a2 a3 k
 unfold almanackerref08_is.f
 repeat' first
   | (with_reducible exact almanackerref07_Number.mono _ _ _ _)
   | (with_reducible exact almanackerref08_lengths.mono _ _ _ _)
   | (with_reducible exact LeO.refl _)
   | (with_reducible exact LeO.none _)
   | (with_reducible refine LeO.ite ?_ ?_)
   | (with_reducible refine LeO.bind ?_ (fun _ => ?_))
   | exact almanackerref07_Number.mono _ _ _ _
   | exact almanackerref08_lengths.mono _ _ _ _
   | exact LeO.none _
   | refine LeO.ite ?_ ?_
   | refine LeO.bind ?_ (fun _ => ?_)
set_option maxHeartbeats 8000000 in
set_option maxRecDepth 100000 in
theorem almanackerref08_is.calls (k : Nat) (a0_0 : Int) (a0_1 : Int) (a0_2 : Bool) (a1 : Int) (r : Bool) (w : World) (h : almanackerref08_is.f k a0_0 a0_1 a0_2 a1 = some r) :
  Calls Tryz.prog 151 #[.agg #[.int .i64 a0_0, .int .i64 a0_1, .bool a0_2], .int .i64 a1] w fun e w' => e = .returned (.bool r) ∧ Below w.heap.size w w' := by
 have hu93 := Tryz.underlying93
 have HB := zz00 (Below.refl w.heap.size w)
 have H : ((almanackerref07_Number.f k a0_0 a0_1 a0_2).bind fun t315=>(if t315 > 0 then (if a1 ≥ 1 then ((almanackerref08_lengths.f k a0_0 a0_1 a0_2).bind fun t316=>(some (decide (a1 ≤ (t316.length : Int))))) else (some false)) else (some false))) = some r:=h
 clear h
 replace H := zz14.mp H
 obtain ⟨t315, A30, H⟩ := H
 replace H : (if t315 > 0 then (if a1 ≥ 1 then ((almanackerref08_lengths.f k a0_0 a0_1 a0_2).bind fun t316=>(some (decide (a1 ≤ (t316.length : Int))))) else (some false)) else (some false)) = some r:=H
 have A3 := zz00 A30
 clear A30
 by_cases c4 : t315 > 0
 ·
  rw [if_pos c4] at H
  have c4b0 : decide (0 < t315) = true := decide_eq_true c4
  clear c4
  by_cases c5 : a1 ≥ 1
  ·
   rw [if_pos c5] at H
   have c5b0 : decide (1 ≤ a1) = true := decide_eq_true c5
   clear c5
   replace H := zz14.mp H
   obtain ⟨t316, A60, H⟩ := H
   replace H : (some (decide (a1 ≤ (t316.length : Int)))) = some r := H
   have A6 := zz00 A60
   clear A60
   obtain rfl := Option.some.inj H
   go_enter Tryz.func151, Tryz.ntmps151
   go_wp2_with (first|((with_reducible refine zz24 (N:=2) rfl ?_);(try (refine gate_guard (by rfl) ?_;dsimp only));refine zz30 ?hg (N:=2) ?hd (cs:=#[.int .i64 a0_0,.int .i64 a0_1,.bool a0_2]) (t:=93) ?hr ?_;(case hd=>rfl);(case hg=>rfl);(case hr=>first|(go_simp;done)|(go_simp;rfl));intro gb314 hg w7 hbox hb;have n0_:=zz00 (zz21 (by repeat (first|(with_reducible first|exact HB.out|apply zz03|apply zz01|apply zz02)|exact HB.out)) hb);have n1_:=zz00 (hbox);have n2_:=zz00 ((by rw [hg];exact (zz22 (by repeat (first|(with_reducible first|exact HB.out|apply zz03|apply zz01|apply zz02)|exact HB.out))) : w.heap.size ≤ gb314));have n3_:=zz00 ((by rw [hg];exact (zz22 (by repeat (first|(with_reducible first|exact HB.out|apply zz03|apply zz01|apply zz02)|exact HB.out))) : w.heap.size ≤ gb314));clear HB;have HB:=n0_;have BK314:=n1_;have GW314:=n2_;have GE314:=n3_;clear n0_ n1_ n2_ n3_;clear hb hbox hg;have hcz8_0 : w7.cell? ⟨gb314,0,none⟩ = some (.int .i64 a0_0):=(zz18 BK314.out 0).trans rfl;have hcz8_1 : w7.cell? ⟨gb314,1,none⟩ = some (.int .i64 a0_1):=(zz18 BK314.out 1).trans rfl;have hcz8_2 : w7.cell? ⟨gb314,2,none⟩ = some (.bool a0_2):=(zz18 BK314.out 2).trans rfl;have hfz8_0:=zz17 BK314.out 0;have hfz8_1:=zz17 BK314.out 1;have hfz8_2:=zz17 BK314.out 2)|((with_reducible refine zz23 (f:=199) rfl ?_);refine zz25 (some 6) rfl rfl Tryz.func199 (by kernel_rfl) rfl #[.agg #[.int .i64 a0_0,.int .i64 a0_1,.bool a0_2]] rfl (by (try simp only [List.map_toArray,List.map_cons,List.map_nil]);first|done|rfl|(simp only [List.length_drop,List.length_take];rfl)) ?_;(with_reducible refine (almanackerref07_Number.calls k a0_0 a0_1 a0_2 t315 _ A3.out).mono ?_);rintro e w9 ⟨rfl,hb⟩;refine ⟨_,rfl,?_⟩;have n0_:=zz00 (zz34 (g:=gb314) (o:=.cells #[.int .i64 a0_0,.int .i64 a0_1,.bool a0_2] 93 (0,0)) (by (with_reducible repeat (first|refine zz07 ?_ _|refine zz09 ?_|refine zz08 ?_ _));exact BK314.out) hb);have n1_:=zz00 (zz21 (by repeat (first|(with_reducible first|exact HB.out|apply zz03|apply zz01|apply zz02|refine zz10 ?_ GE314.out)|exact HB.out)) hb);clear BK314;clear HB;have BK314:=n0_;have HB:=n1_;clear n0_ n1_;(try clear hb);(try clear hb2);(try clear hk);(try clear hi);have hcz10_0 : w9.cell? ⟨gb314,0,none⟩ = some (.int .i64 a0_0):=(zz18 BK314.out 0).trans rfl;have hcz10_1 : w9.cell? ⟨gb314,1,none⟩ = some (.int .i64 a0_1):=(zz18 BK314.out 1).trans rfl;have hcz10_2 : w9.cell? ⟨gb314,2,none⟩ = some (.bool a0_2):=(zz18 BK314.out 2).trans rfl;have hfz10_0:=zz17 BK314.out 0;have hfz10_1:=zz17 BK314.out 1;have hfz10_2:=zz17 BK314.out 2)|(go_at_call 152;(with_reducible refine (almanackerref08_lengths.calls k a0_0 a0_1 a0_2 t316 _ A6.out).mono ?_);rintro e w11 ⟨v317,rfl,ho0,hb⟩;have n0_:=zz00 (Kd.R_lower ho0 (zz22 (by repeat (first|(with_reducible first|exact HB.out|apply zz03|apply zz01|apply zz02|refine zz10 ?_ GE314.out)|exact HB.out))));have n1_:=zz00 (zz34 (g:=gb314) (o:=.cells #[.int .i64 a0_0,.int .i64 a0_1,.bool a0_2] 93 (0,0)) (by (with_reducible repeat (first|refine zz07 ?_ _|refine zz09 ?_|refine zz08 ?_ _));exact BK314.out) hb);have n2_:=zz00 (zz21 (by repeat (first|(with_reducible first|exact HB.out|apply zz03|apply zz01|apply zz02|refine zz10 ?_ GE314.out)|exact HB.out)) hb);clear BK314;clear HB;have HO318:=n0_;have BK314:=n1_;have HB:=n2_;clear n0_ n1_ n2_;(try clear hb);(try clear hb2);(try clear hk);(try clear hi);(try clear ho0);obtain ⟨Ao12,co12,eo12⟩:=Kd.R_slice HO318.out;subst eo12))
   go_ret
   exact ⟨by first|rfl|(simp [errW_none,errW_some] <;> rfl)|(simp [*,errW_none,errW_some] <;> rfl),by repeat (first|(with_reducible first|exact HB.out|apply zz03|apply zz01|apply zz02|refine zz10 ?_ GE314.out)|exact HB.out)⟩
  ·
   rw [if_neg c5] at H
   have c5b0 : decide (1 ≤ a1) = false := decide_eq_false c5
   clear c5
   obtain rfl := Option.some.inj H
   go_enter Tryz.func151, Tryz.ntmps151
   go_wp2_with (first|((with_reducible refine zz24 (N:=2) rfl ?_);(try (refine gate_guard (by rfl) ?_;dsimp only));refine zz30 ?hg (N:=2) ?hd (cs:=#[.int .i64 a0_0,.int .i64 a0_1,.bool a0_2]) (t:=93) ?hr ?_;(case hd=>rfl);(case hg=>rfl);(case hr=>first|(go_simp;done)|(go_simp;rfl));intro gb314 hg w13 hbox hb;have n0_:=zz00 (zz21 (by repeat (first|(with_reducible first|exact HB.out|apply zz03|apply zz01|apply zz02)|exact HB.out)) hb);have n1_:=zz00 (hbox);have n2_:=zz00 ((by rw [hg];exact (zz22 (by repeat (first|(with_reducible first|exact HB.out|apply zz03|apply zz01|apply zz02)|exact HB.out))) : w.heap.size ≤ gb314));have n3_:=zz00 ((by rw [hg];exact (zz22 (by repeat (first|(with_reducible first|exact HB.out|apply zz03|apply zz01|apply zz02)|exact HB.out))) : w.heap.size ≤ gb314));clear HB;have HB:=n0_;have BK314:=n1_;have GW314:=n2_;have GE314:=n3_;clear n0_ n1_ n2_ n3_;clear hb hbox hg;have hcz14_0 : w13.cell? ⟨gb314,0,none⟩ = some (.int .i64 a0_0):=(zz18 BK314.out 0).trans rfl;have hcz14_1 : w13.cell? ⟨gb314,1,none⟩ = some (.int .i64 a0_1):=(zz18 BK314.out 1).trans rfl;have hcz14_2 : w13.cell? ⟨gb314,2,none⟩ = some (.bool a0_2):=(zz18 BK314.out 2).trans rfl;have hfz14_0:=zz17 BK314.out 0;have hfz14_1:=zz17 BK314.out 1;have hfz14_2:=zz17 BK314.out 2)|((with_reducible refine zz23 (f:=199) rfl ?_);refine zz25 (some 6) rfl rfl Tryz.func199 (by kernel_rfl) rfl #[.agg #[.int .i64 a0_0,.int .i64 a0_1,.bool a0_2]] rfl (by (try simp only [List.map_toArray,List.map_cons,List.map_nil]);first|done|rfl|(simp only [List.length_drop,List.length_take];rfl)) ?_;(with_reducible refine (almanackerref07_Number.calls k a0_0 a0_1 a0_2 t315 _ A3.out).mono ?_);rintro e w15 ⟨rfl,hb⟩;refine ⟨_,rfl,?_⟩;have n0_:=zz00 (zz34 (g:=gb314) (o:=.cells #[.int .i64 a0_0,.int .i64 a0_1,.bool a0_2] 93 (0,0)) (by (with_reducible repeat (first|refine zz07 ?_ _|refine zz09 ?_|refine zz08 ?_ _));exact BK314.out) hb);have n1_:=zz00 (zz21 (by repeat (first|(with_reducible first|exact HB.out|apply zz03|apply zz01|apply zz02|refine zz10 ?_ GE314.out)|exact HB.out)) hb);clear BK314;clear HB;have BK314:=n0_;have HB:=n1_;clear n0_ n1_;(try clear hb);(try clear hb2);(try clear hk);(try clear hi)))
   go_ret
   exact ⟨by first|rfl|(simp [errW_none,errW_some] <;> rfl)|(simp [*,errW_none,errW_some] <;> rfl),by repeat (first|(with_reducible first|exact HB.out|apply zz03|apply zz01|apply zz02|refine zz10 ?_ GE314.out)|exact HB.out)⟩
 ·
  rw [if_neg c4] at H
  have c4b0 : decide (0 < t315) = false := decide_eq_false c4
  clear c4
  obtain rfl := Option.some.inj H
  go_enter Tryz.func151, Tryz.ntmps151
  go_wp2_with (first|((with_reducible refine zz24 (N:=2) rfl ?_);(try (refine gate_guard (by rfl) ?_;dsimp only));refine zz30 ?hg (N:=2) ?hd (cs:=#[.int .i64 a0_0,.int .i64 a0_1,.bool a0_2]) (t:=93) ?hr ?_;(case hd=>rfl);(case hg=>rfl);(case hr=>first|(go_simp;done)|(go_simp;rfl));intro gb314 hg w16 hbox hb;have n0_:=zz00 (zz21 (by repeat (first|(with_reducible first|exact HB.out|apply zz03|apply zz01|apply zz02)|exact HB.out)) hb);have n1_:=zz00 (hbox);have n2_:=zz00 ((by rw [hg];exact (zz22 (by repeat (first|(with_reducible first|exact HB.out|apply zz03|apply zz01|apply zz02)|exact HB.out))) : w.heap.size ≤ gb314));have n3_:=zz00 ((by rw [hg];exact (zz22 (by repeat (first|(with_reducible first|exact HB.out|apply zz03|apply zz01|apply zz02)|exact HB.out))) : w.heap.size ≤ gb314));clear HB;have HB:=n0_;have BK314:=n1_;have GW314:=n2_;have GE314:=n3_;clear n0_ n1_ n2_ n3_;clear hb hbox hg;have hcz17_0 : w16.cell? ⟨gb314,0,none⟩ = some (.int .i64 a0_0):=(zz18 BK314.out 0).trans rfl;have hcz17_1 : w16.cell? ⟨gb314,1,none⟩ = some (.int .i64 a0_1):=(zz18 BK314.out 1).trans rfl;have hcz17_2 : w16.cell? ⟨gb314,2,none⟩ = some (.bool a0_2):=(zz18 BK314.out 2).trans rfl;have hfz17_0:=zz17 BK314.out 0;have hfz17_1:=zz17 BK314.out 1;have hfz17_2:=zz17 BK314.out 2)|((with_reducible refine zz23 (f:=199) rfl ?_);refine zz25 (some 6) rfl rfl Tryz.func199 (by kernel_rfl) rfl #[.agg #[.int .i64 a0_0,.int .i64 a0_1,.bool a0_2]] rfl (by (try simp only [List.map_toArray,List.map_cons,List.map_nil]);first|done|rfl|(simp only [List.length_drop,List.length_take];rfl)) ?_;(with_reducible refine (almanackerref07_Number.calls k a0_0 a0_1 a0_2 t315 _ A3.out).mono ?_);rintro e w18 ⟨rfl,hb⟩;refine ⟨_,rfl,?_⟩;have n0_:=zz00 (zz34 (g:=gb314) (o:=.cells #[.int .i64 a0_0,.int .i64 a0_1,.bool a0_2] 93 (0,0)) (by (with_reducible repeat (first|refine zz07 ?_ _|refine zz09 ?_|refine zz08 ?_ _));exact BK314.out) hb);have n1_:=zz00 (zz21 (by repeat (first|(with_reducible first|exact HB.out|apply zz03|apply zz01|apply zz02|refine zz10 ?_ GE314.out)|exact HB.out)) hb);clear BK314;clear HB;have BK314:=n0_;have HB:=n1_;clear n0_ n1_;(try clear hb);(try clear hb2);(try clear hk);(try clear hi)))
  go_ret
  exact ⟨by first|rfl|(simp [errW_none,errW_some] <;> rfl)|(simp [*,errW_none,errW_some] <;> rfl),by repeat (first|(with_reducible first|exact HB.out|apply zz03|apply zz01|apply zz02|refine zz10 ?_ GE314.out)|exact HB.out)⟩

def almanackerref08_Days.f (k : Nat) (a0_0 : Int) (a0_1 : Int) (a0_2 : Bool) (a1 : Int) : Option (Int) := (almanackerref08_is.f k a0_0 a0_1 a0_2 a1).bind fun t320 => (if t320 = true then ((almanackerref08_lengths.f k a0_0 a0_1 a0_2).bind fun t321 => (if 0 ≤ (wrap64 (a1 - 1)) then (if (wrap64 (a1 - 1)) < (t321.length : Int) then (some (rd t321 (wrap64 (a1 - 1)))) else (none)) else (none))) else (some 0))
theorem almanackerref08_Days.mono : ∀ a0 a1 a2 a3 k, LeO (almanackerref08_Days.f k a0 a1 a2 a3) (almanackerref08_Days.f (k + 1) a0 a1 a2 a3) := by
 intro a0 a1 a2 a3 k
 unfold almanackerref08_Days.f
 repeat' first
   | (with_reducible exact almanackerref08_is.mono _ _ _ _ _)
   | (with_reducible exact almanackerref08_lengths.mono _ _ _ _)
   | (with_reducible exact LeO.refl _)
   | (with_reducible exact LeO.none _)
   | (with_reducible refine LeO.ite ?_ ?_)
   | (with_reducible refine LeO.bind ?_ (fun _ => ?_))
   | exact almanackerref08_is.mono _ _ _ _ _
   | exact almanackerref08_lengths.mono _ _ _ _
   | exact LeO.none _
   | refine LeO.ite ?_ ?_
   | refine LeO.bind ?_ (fun _ => ?_)
set_option maxHeartbeats 8000000 in
set_option maxRecDepth 100000 in
theorem almanackerref08_Days.calls (k : Nat) (a0_0 : Int) (a0_1 : Int) (a0_2 : Bool) (a1 : Int) (r : Int) (w : World) (h : almanackerref08_Days.f k a0_0 a0_1 a0_2 a1 = some r) :
  Calls Tryz.prog 105 #[.agg #[.int .i64 a0_0, .int .i64 a0_1, .bool a0_2], .int .i64 a1] w fun e w' => e = .returned (.int .i64 r) ∧ Below w.heap.size w w' := by
 have hu93 := Tryz.underlying93
 have HB := zz00 (Below.refl w.heap.size w)
 have H : ((almanackerref08_is.f k a0_0 a0_1 a0_2 a1).bind fun t320=>(if t320 = true then ((almanackerref08_lengths.f k a0_0 a0_1 a0_2).bind fun t321=>(if 0 ≤ (wrap64 (a1 - 1)) then (if (wrap64 (a1 - 1)) < (t321.length : Int) then (some (rd t321 (wrap64 (a1 - 1)))) else (none)) else (none))) else (some 0))) = some r:=h
 clear h
 replace H := zz14.mp H
 obtain ⟨t320, A30, H⟩ := H
 replace H : (if t320 = true then ((almanackerref08_lengths.f k a0_0 a0_1 a0_2).bind fun t321=>(if 0 ≤ (wrap64 (a1 - 1)) then (if (wrap64 (a1 - 1)) < (t321.length : Int) then (some (rd t321 (wrap64 (a1 - 1)))) else (none)) else (none))) else (some 0)) = some r:=H
 have A3 := zz00 A30
 clear A30
 by_cases c4 : t320 = true
 ·
  subst c4
  have H1 : ((almanackerref08_lengths.f k a0_0 a0_1 a0_2).bind fun t321=>(if 0 ≤ (wrap64 (a1 - 1)) then (if (wrap64 (a1 - 1)) < (t321.length : Int) then (some (rd t321 (wrap64 (a1 - 1)))) else (none)) else (none))) = some r:=by rw [if_pos rfl] at H;exact H
  clear H
  have H := H1
  clear H1
  replace H := zz14.mp H
  obtain ⟨t321, A50, H⟩ := H
  replace H : (if 0 ≤ (wrap64 (a1 - 1)) then (if (wrap64 (a1 - 1)) < (t321.length : Int) then (some (rd t321 (wrap64 (a1 - 1)))) else (none)) else (none)) = some r := H
  have A5 := zz00 A50
  clear A50
  obtain ⟨ji6, hji6⟩ : ∃ j_ : Int, (wrap64 (a1 - 1)) = j_ := ⟨_, rfl⟩
  replace H : (if 0 ≤ (ji6) then (if (ji6) < (t321.length : Int) then (some (rd t321 (ji6))) else (none)) else (none)) = some r:=by first|(rw [hji6] at H;exact H)|(simp only [hji6] at H ⊢;exact H)
  (try rw [hji6] at A3)
  (try rw [hji6] at A5)
  have hji6w : (IntKind.i64.wrap (a1 - 1)) = ji6 := (i64_w _).trans hji6
  by_cases c7 : 0 ≤ (ji6)
  ·
   rw [if_pos c7] at H
   have c7b0 : decide (0 ≤ (ji6)) = true := decide_eq_true c7
   clear c7
   by_cases c8 : (ji6) < (t321.length : Int)
   ·
    rw [if_pos c8] at H
    have c8b0 : decide ((ji6) < (t321.length : Int)) = true := decide_eq_true c8
    clear c8
    obtain rfl := Option.some.inj H
    go_enter Tryz.func105, Tryz.ntmps105
    go_wp2_with (first|((with_reducible refine zz24 (N:=2) rfl ?_);refine zz30 ?hg (N:=2) ?hd (cs:=#[.int .i64 a0_0,.int .i64 a0_1,.bool a0_2]) (t:=93) ?hr ?_;(case hd=>rfl);(case hg=>rfl);(case hr=>first|(go_simp;done)|(go_simp;rfl));intro gb319 hg w9 hbox hb;have n0_:=zz00 (zz21 (by repeat (first|(with_reducible first|exact HB.out|apply zz03|apply zz01|apply zz02)|exact HB.out)) hb);have n1_:=zz00 (hbox);have n2_:=zz00 ((by rw [hg];exact (zz22 (by repeat (first|(with_reducible first|exact HB.out|apply zz03|apply zz01|apply zz02)|exact HB.out))) : w.heap.size ≤ gb319));have n3_:=zz00 ((by rw [hg];exact (zz22 (by repeat (first|(with_reducible first|exact HB.out|apply zz03|apply zz01|apply zz02)|exact HB.out))) : w.heap.size ≤ gb319));clear HB;have HB:=n0_;have BK319:=n1_;have GW319:=n2_;have GE319:=n3_;clear n0_ n1_ n2_ n3_;clear hb hbox hg;have hcz10_0 : w9.cell? ⟨gb319,0,none⟩ = some (.int .i64 a0_0):=(zz18 BK319.out 0).trans rfl;have hcz10_1 : w9.cell? ⟨gb319,1,none⟩ = some (.int .i64 a0_1):=(zz18 BK319.out 1).trans rfl;have hcz10_2 : w9.cell? ⟨gb319,2,none⟩ = some (.bool a0_2):=(zz18 BK319.out 2).trans rfl;have hfz10_0:=zz17 BK319.out 0;have hfz10_1:=zz17 BK319.out 1;have hfz10_2:=zz17 BK319.out 2)|((with_reducible refine zz23 (f:=151) rfl ?_);refine zz25 (some 7) rfl rfl Tryz.func151 (by kernel_rfl) rfl #[.agg #[.int .i64 a0_0,.int .i64 a0_1,.bool a0_2],.int .i64 a1] rfl (by (try simp only [List.map_toArray,List.map_cons,List.map_nil]);first|done|rfl|(simp only [List.length_drop,List.length_take];rfl)) ?_;(with_reducible refine (almanackerref08_is.calls k a0_0 a0_1 a0_2 a1 true _ A3.out).mono ?_);rintro e w11 ⟨rfl,hb⟩;refine ⟨_,rfl,?_⟩;have n0_:=zz00 (zz34 (g:=gb319) (o:=.cells #[.int .i64 a0_0,.int .i64 a0_1,.bool a0_2] 93 (0,0)) (by (with_reducible repeat (first|refine zz07 ?_ _|refine zz09 ?_|refine zz08 ?_ _));exact BK319.out) hb);have n1_:=zz00 (zz21 (by repeat (first|(with_reducible first|exact HB.out|apply zz03|apply zz01|apply zz02|refine zz10 ?_ GE319.out)|exact HB.out)) hb);clear BK319;clear HB;have BK319:=n0_;have HB:=n1_;clear n0_ n1_;(try clear hb);(try clear hb2);(try clear hk);(try clear hi);have hcz12_0 : w11.cell? ⟨gb319,0,none⟩ = some (.int .i64 a0_0):=(zz18 BK319.out 0).trans rfl;have hcz12_1 : w11.cell? ⟨gb319,1,none⟩ = some (.int .i64 a0_1):=(zz18 BK319.out 1).trans rfl;have hcz12_2 : w11.cell? ⟨gb319,2,none⟩ = some (.bool a0_2):=(zz18 BK319.out 2).trans rfl;have hfz12_0:=zz17 BK319.out 0;have hfz12_1:=zz17 BK319.out 1;have hfz12_2:=zz17 BK319.out 2)|((with_reducible refine zz23 (f:=152) rfl ?_);refine zz25 (some 10) rfl rfl Tryz.func152 (by kernel_rfl) rfl #[.agg #[.int .i64 a0_0,.int .i64 a0_1,.bool a0_2]] rfl (by (try simp only [List.map_toArray,List.map_cons,List.map_nil]);first|done|rfl|(simp only [List.length_drop,List.length_take];rfl)) ?_;(with_reducible refine (almanackerref08_lengths.calls k a0_0 a0_1 a0_2 t321 _ A5.out).mono ?_);rintro e w13 ⟨v322,rfl,ho0,hb⟩;refine ⟨_,rfl,?_⟩;have n0_:=zz00 (Kd.R_lower ho0 (zz22 (by repeat (first|(with_reducible first|exact HB.out|apply zz03|apply zz01|apply zz02|refine zz10 ?_ GE319.out)|exact HB.out))));have n1_:=zz00 (zz34 (g:=gb319) (o:=.cells #[.int .i64 a0_0,.int .i64 a0_1,.bool a0_2] 93 (0,0)) (by (with_reducible repeat (first|refine zz07 ?_ _|refine zz09 ?_|refine zz08 ?_ _));exact BK319.out) hb);have n2_:=zz00 (zz21 (by repeat (first|(with_reducible first|exact HB.out|apply zz03|apply zz01|apply zz02|refine zz10 ?_ GE319.out)|exact HB.out)) hb);clear BK319;clear HB;have HO323:=n0_;have BK319:=n1_;have HB:=n2_;clear n0_ n1_ n2_;(try clear hb);(try clear hb2);(try clear hk);(try clear hi);(try clear ho0);obtain ⟨Ao14,co14,eo14⟩:=Kd.R_slice HO323.out;subst eo14;have p324 : 0 ≤ ((ji6) : Int):=zz31 (by first|(with_reducible assumption)|assumption);have q324 : (ji6) < (t321.length : Int):=zz31 (by first|(with_reducible assumption)|assumption);obtain ⟨ad324,e324,hx324_0⟩:=Kd.at_int (Kd.R_reads' HO323.out).2.2 (ji6) p324 q324;cases e324;replace p324:=eq_true p324;replace q324:=eq_true q324))
    go_ret
    exact ⟨by first|rfl|(simp [errW_none,errW_some] <;> rfl)|(simp only [← hji6];first|rfl|(simp [errW_none,errW_some] <;> rfl))|(simp [*,errW_none,errW_some] <;> rfl),by repeat (first|(with_reducible first|exact HB.out|apply zz03|apply zz01|apply zz02|refine zz10 ?_ GE319.out)|exact HB.out)⟩
   ·
    rw [if_neg c8] at H
    exact absurd H (by simp)
  ·
   rw [if_neg c7] at H
   exact absurd H (by simp)
 ·
  replace c4 := zz32.mpr c4
  subst c4
  have H1 : (some 0) = some r := by rw [if_neg (show ¬ (false = true) by decide)] at H; exact H
  clear H
  have H := H1
  clear H1
  obtain rfl := Option.some.inj H
  go_enter Tryz.func105, Tryz.ntmps105
  go_wp2_with (first|((with_reducible refine zz24 (N:=2) rfl ?_);refine zz30 ?hg (N:=2) ?hd (cs:=#[.int .i64 a0_0,.int .i64 a0_1,.bool a0_2]) (t:=93) ?hr ?_;(case hd=>rfl);(case hg=>rfl);(case hr=>first|(go_simp;done)|(go_simp;rfl));intro gb319 hg w15 hbox hb;have n0_:=zz00 (zz21 (by repeat (first|(with_reducible first|exact HB.out|apply zz03|apply zz01|apply zz02)|exact HB.out)) hb);have n1_:=zz00 (hbox);have n2_:=zz00 ((by rw [hg];exact (zz22 (by repeat (first|(with_reducible first|exact HB.out|apply zz03|apply zz01|apply zz02)|exact HB.out))) : w.heap.size ≤ gb319));have n3_:=zz00 ((by rw [hg];exact (zz22 (by repeat (first|(with_reducible first|exact HB.out|apply zz03|apply zz01|apply zz02)|exact HB.out))) : w.heap.size ≤ gb319));clear HB;have HB:=n0_;have BK319:=n1_;have GW319:=n2_;have GE319:=n3_;clear n0_ n1_ n2_ n3_;clear hb hbox hg;have hcz16_0 : w15.cell? ⟨gb319,0,none⟩ = some (.int .i64 a0_0):=(zz18 BK319.out 0).trans rfl;have hcz16_1 : w15.cell? ⟨gb319,1,none⟩ = some (.int .i64 a0_1):=(zz18 BK319.out 1).trans rfl;have hcz16_2 : w15.cell? ⟨gb319,2,none⟩ = some (.bool a0_2):=(zz18 BK319.out 2).trans rfl;have hfz16_0:=zz17 BK319.out 0;have hfz16_1:=zz17 BK319.out 1;have hfz16_2:=zz17 BK319.out 2)|((with_reducible refine zz23 (f:=151) rfl ?_);refine zz25 (some 7) rfl rfl Tryz.func151 (by kernel_rfl) rfl #[.agg #[.int .i64 a0_0,.int .i64 a0_1,.bool a0_2],.int .i64 a1] rfl (by (try simp only [List.map_toArray,List.map_cons,List.map_nil]);first|done|rfl|(simp only [List.length_drop,List.length_take];rfl)) ?_;(with_reducible refine (almanackerref08_is.calls k a0_0 a0_1 a0_2 a1 false _ A3.out).mono ?_);rintro e w17 ⟨rfl,hb⟩;refine ⟨_,rfl,?_⟩;have n0_:=zz00 (zz34 (g:=gb319) (o:=.cells #[.int .i64 a0_0,.int .i64 a0_1,.bool a0_2] 93 (0,0)) (by (with_reducible repeat (first|refine zz07 ?_ _|refine zz09 ?_|refine zz08 ?_ _));exact BK319.out) hb);have n1_:=zz00 (zz21 (by repeat (first|(with_reducible first|exact HB.out|apply zz03|apply zz01|apply zz02|refine zz10 ?_ GE319.out)|exact HB.out)) hb);clear BK319;clear HB;have BK319:=n0_;have HB:=n1_;clear n0_ n1_;(try clear hb);(try clear hb2);(try clear hk);(try clear hi)))
  go_ret
  exact ⟨by first|rfl|(simp [errW_none,errW_some] <;> rfl)|(simp [*,errW_none,errW_some] <;> rfl),by repeat (first|(with_reducible first|exact HB.out|apply zz03|apply zz01|apply zz02|refine zz10 ?_ GE319.out)|exact HB.out)⟩

def almanackerref10_Last.f (k : Nat) (a0 : Int) (a1_0 : Int) (a1_1 : Bool) : Option (Int × Int) := (almanackerref07_Of.f k a0).bind fun bt326 => (if bt326.2.2.2 = 0 then ((almanackerref09_Place.f k bt326.2.2.1 a1_0 a1_1).bind fun bt331 => (if bt331.2 = true then ((almanackerref08_Days.f k bt326.1 bt326.2.1 bt326.2.2.1 bt331.1).bind fun t333 => (some (t333, 0))) else (some (0, 3)))) else (some (0, bt326.2.2.2)))
set_option maxHeartbeats 8000000 in
set_option maxRecDepth 100000 in
theorem almanackerref10_Last.calls (k : Nat) (a0 : Int) (a1_0 : Int) (a1_1 : Bool) (r1 : Int) (r2 : Int) (w : World) (h : almanackerref10_Last.f k a0 a1_0 a1_1 = some (r1, r2)) :
  Calls Tryz.prog 48 #[.int .i64 a0, .agg #[.int .i64 a1_0, .bool a1_1]] w fun e w' => e = .returned (.tuple #[.int .i64 r1, .int .i64 r2]) ∧ Below w.heap.size w w' := by
 have hu32 := Tryz.underlying32
 have hu93 := Tryz.underlying93
 have HB := zz00 (Below.refl w.heap.size w)
 have H : ((almanackerref07_Of.f k a0).bind fun bt326=>(if bt326.2.2.2 = 0 then ((almanackerref09_Place.f k bt326.2.2.1 a1_0 a1_1).bind fun bt331=>(if bt331.2 = true then ((almanackerref08_Days.f k bt326.1 bt326.2.1 bt326.2.2.1 bt331.1).bind fun t333=>(some (t333,0))) else (some (0,3)))) else (some (0,bt326.2.2.2)))) = some (r1,r2):=h
 clear h
 replace H := zz14.mp H
 obtain ⟨⟨t326, t327, t328, t329⟩, A30, H⟩ := H
 replace H : (if t329 = 0 then ((almanackerref09_Place.f k t328 a1_0 a1_1).bind fun bt331=>(if bt331.2 = true then ((almanackerref08_Days.f k t326 t327 t328 bt331.1).bind fun t333=>(some (t333,0))) else (some (0,3)))) else (some (0,t329))) = some (r1,r2):=H
 have A3 := zz00 A30
 clear A30
 by_cases c4 : t329 = 0
 ·
  rw [if_pos c4] at H
  have c4b0 : (t329 == 0) = true := zz29.mpr c4
  have c4b1 : (t329 != 0) = false := zz26.mpr c4
  clear c4
  replace H := zz14.mp H
  obtain ⟨⟨t331, t332⟩, A50, H⟩ := H
  replace H : (if t332 = true then ((almanackerref08_Days.f k t326 t327 t328 t331).bind fun t333 => (some (t333, 0))) else (some (0, 3))) = some (r1, r2) := H
  have A5 := zz00 A50
  clear A50
  by_cases c6 : t332 = true
  ·
   subst c6
   have H1 : ((almanackerref08_Days.f k t326 t327 t328 t331).bind fun t333 => (some (t333, 0))) = some (r1, r2) := by rw [if_pos rfl] at H; exact H
   clear H
   have H := H1
   clear H1
   replace H := zz14.mp H
   obtain ⟨t333, A70, H⟩ := H
   replace H : (some (t333, 0)) = some (r1, r2) := H
   have A7 := zz00 A70
   clear A70
   simp only [zz15, zz16] at H
   obtain ⟨rfl, rfl⟩ := H
   go_enter Tryz.func48, Tryz.ntmps48
   go_wp2_with (first|((with_reducible refine zz24 (N:=3) rfl ?_);refine zz30 ?hg (N:=3) ?hd (cs:=#[.int .i64 a1_0,.bool a1_1]) (t:=32) ?hr ?_;(case hd=>rfl);(case hg=>rfl);(case hr=>first|(go_simp;done)|(go_simp;rfl));intro gb325 hg w8 hbox hb;have n0_:=zz00 (zz21 (by repeat (first|(with_reducible first|exact HB.out|apply zz03|apply zz01|apply zz02)|exact HB.out)) hb);have n1_:=zz00 (hbox);have n2_:=zz00 ((by rw [hg];exact (zz22 (by repeat (first|(with_reducible first|exact HB.out|apply zz03|apply zz01|apply zz02)|exact HB.out))) : w.heap.size ≤ gb325));have n3_:=zz00 ((by rw [hg];exact (zz22 (by repeat (first|(with_reducible first|exact HB.out|apply zz03|apply zz01|apply zz02)|exact HB.out))) : w.heap.size ≤ gb325));clear HB;have HB:=n0_;have BK325:=n1_;have GW325:=n2_;have GE325:=n3_;clear n0_ n1_ n2_ n3_;clear hb hbox hg)|((with_reducible refine zz23 (f:=97) rfl ?_);refine zz25 (some 12) rfl rfl Tryz.func97 (by kernel_rfl) rfl #[.int .i64 a0] rfl (by (try simp only [List.map_toArray,List.map_cons,List.map_nil]);first|done|rfl|(simp only [List.length_drop,List.length_take];rfl)) ?_;(with_reducible refine (almanackerref07_Of.calls k a0 t326 t327 t328 t329 _ A3.out).mono ?_);rintro e w9 ⟨rfl,hb⟩;refine ⟨_,rfl,?_⟩;have n0_:=zz00 (zz34 (g:=gb325) (o:=.cells #[.int .i64 a1_0,.bool a1_1] 32 (0,0)) (by (with_reducible repeat (first|refine zz07 ?_ _|refine zz09 ?_|refine zz08 ?_ _));exact BK325.out) hb);have n1_:=zz00 (zz21 (by repeat (first|(with_reducible first|exact HB.out|apply zz03|apply zz01|apply zz02|refine zz10 ?_ GE325.out)|exact HB.out)) hb);clear BK325;clear HB;have BK325:=n0_;have HB:=n1_;clear n0_ n1_;(try clear hb);(try clear hb2);(try clear hk);(try clear hi))|((with_reducible refine zz24 (N:=6) rfl ?_);refine zz30 ?hg (N:=6) ?hd (cs:=#[.int .i64 0,.int .i64 0,.bool false]) (t:=93) ?hr ?_;(case hd=>rfl);(case hg=>rfl);(case hr=>first|(go_simp;done)|(go_simp;rfl));intro gb330 hg w10 hbox hb;have n0_:=zz00 (zz34 (g:=gb325) (o:=.cells #[.int .i64 a1_0,.bool a1_1] 32 (0,0)) (by (with_reducible repeat (first|refine zz07 ?_ _|refine zz09 ?_|refine zz08 ?_ _));exact BK325.out) hb);have n1_:=zz00 (zz21 (by repeat (first|(with_reducible first|exact HB.out|apply zz03|apply zz01|apply zz02|refine zz10 ?_ GE325.out)|exact HB.out)) hb);have n2_:=zz00 (hbox);have n3_:=zz00 ((by rw [hg];exact (zz22 (by repeat (first|(with_reducible first|exact HB.out|apply zz03|apply zz01|apply zz02|refine zz10 ?_ GE325.out)|exact HB.out))) : w.heap.size ≤ gb330));have n4_:=zz00 ((by rw [hg];exact (zz22 (by repeat (first|(with_reducible first|exact HB.out|apply zz03|apply zz01|apply zz02|refine zz10 ?_ GE325.out)|exact HB.out))) : w.heap.size ≤ gb330));have n5_:=zz00 ((by rw [hg];exact Nat.ne_of_lt (blk_lt (g:=gb325) (o:=.cells #[.int .i64 a1_0,.bool a1_1] 32 (0,0)) (by (with_reducible repeat (first|refine zz07 ?_ _|refine zz09 ?_|refine zz08 ?_ _));exact BK325.out)) : gb325 ≠ gb330));have n6_:=zz00 ((by rw [hg];exact Nat.ne_of_gt (blk_lt (g:=gb325) (o:=.cells #[.int .i64 a1_0,.bool a1_1] 32 (0,0)) (by (with_reducible repeat (first|refine zz07 ?_ _|refine zz09 ?_|refine zz08 ?_ _));exact BK325.out)) : gb330 ≠ gb325));clear BK325;clear HB;have BK325:=n0_;have HB:=n1_;have BK330:=n2_;have GW330:=n3_;have GE330:=n4_;have NB325_330:=n5_;have NB330_325:=n6_;clear n0_ n1_ n2_ n3_ n4_ n5_ n6_;clear hb hbox hg;have hnb11:=NB330_325.out;have hnc11:=NB325_330.out;have hcz12_0 : w10.cell? ⟨gb330,0,none⟩ = some (.int .i64 0):=(zz18 BK330.out 0).trans rfl;have hcz12_1 : w10.cell? ⟨gb330,1,none⟩ = some (.int .i64 0):=(zz18 BK330.out 1).trans rfl;have hcz12_2 : w10.cell? ⟨gb330,2,none⟩ = some (.bool false):=(zz18 BK330.out 2).trans rfl;have hfz12_0:=zz17 BK330.out 0;have hfz12_1:=zz17 BK330.out 1;have hfz12_2:=zz17 BK330.out 2;have hcz13_0 : w10.cell? ⟨gb325,0,none⟩ = some (.int .i64 a1_0):=(zz18 BK325.out 0).trans rfl;have hcz13_1 : w10.cell? ⟨gb325,1,none⟩ = some (.bool a1_1):=(zz18 BK325.out 1).trans rfl;have hfz13_0:=zz17 BK325.out 0;have hfz13_1:=zz17 BK325.out 1)|((with_reducible refine zz23 (f:=104) rfl ?_);refine zz25 (some 22) rfl rfl Tryz.func104 (by kernel_rfl) rfl #[.bool t328,.agg #[.int .i64 a1_0,.bool a1_1]] rfl (by (try simp only [List.map_toArray,List.map_cons,List.map_nil]);first|done|rfl|(simp only [List.length_drop,List.length_take];rfl)) ?_;(with_reducible refine (almanackerref09_Place.calls k t328 a1_0 a1_1 t331 true _ A5.out).mono ?_);rintro e w14 ⟨rfl,hb⟩;refine ⟨_,rfl,?_⟩;have n0_:=zz00 (zz34 (g:=gb325) (o:=.cells #[.int .i64 a1_0,.bool a1_1] 32 (0,0)) (by (with_reducible repeat (first|refine zz07 ?_ _|refine zz09 ?_|refine zz08 ?_ _));refine zz33 ?_ NB325_330.out _;(with_reducible repeat (first|refine zz07 ?_ _|refine zz09 ?_|refine zz08 ?_ _));refine zz33 ?_ NB325_330.out _;(with_reducible repeat (first|refine zz07 ?_ _|refine zz09 ?_|refine zz08 ?_ _));refine zz33 ?_ NB325_330.out _;(with_reducible repeat (first|refine zz07 ?_ _|refine zz09 ?_|refine zz08 ?_ _));exact BK325.out) hb);have n1_:=zz00 (zz34 (g:=gb330) (o:=.cells #[.int .i64 t326,.int .i64 t327,.bool t328] 93 (0,0)) (by (with_reducible repeat (first|refine zz07 ?_ _|refine zz09 ?_|refine zz08 ?_ _));refine zz35 (cs:=#[.int .i64 t326,.int .i64 t327,.bool false]) ?_ 2 _ rfl;(with_reducible repeat (first|refine zz07 ?_ _|refine zz09 ?_|refine zz08 ?_ _));refine zz35 (cs:=#[.int .i64 t326,.int .i64 0,.bool false]) ?_ 1 _ rfl;(with_reducible repeat (first|refine zz07 ?_ _|refine zz09 ?_|refine zz08 ?_ _));refine zz35 (cs:=#[.int .i64 0,.int .i64 0,.bool false]) ?_ 0 _ rfl;(with_reducible repeat (first|refine zz07 ?_ _|refine zz09 ?_|refine zz08 ?_ _));exact BK330.out) hb);have n2_:=zz00 (zz21 (by repeat (first|(with_reducible first|exact HB.out|apply zz03|apply zz01|apply zz02|refine zz10 ?_ GE325.out|refine zz10 ?_ GE330.out)|exact HB.out)) hb);clear BK325;clear BK330;clear HB;have BK325:=n0_;have BK330:=n1_;have HB:=n2_;clear n0_ n1_ n2_;(try clear hb);(try clear hb2);(try clear hk);(try clear hi);have hcz15_0 : w14.cell? ⟨gb330,0,none⟩ = some (.int .i64 t326):=(zz18 BK330.out 0).trans rfl;have hcz15_1 : w14.cell? ⟨gb330,1,none⟩ = some (.int .i64 t327):=(zz18 BK330.out 1).trans rfl;have hcz15_2 : w14.cell? ⟨gb330,2,none⟩ = some (.bool t328):=(zz18 BK330.out 2).trans rfl;have hfz15_0:=zz17 BK330.out 0;have hfz15_1:=zz17 BK330.out 1;have hfz15_2:=zz17 BK330.out 2)|((with_reducible refine zz23 (f:=105) rfl ?_);refine zz25 (some 29) rfl rfl Tryz.func105 (by kernel_rfl) rfl #[.agg #[.int .i64 t326,.int .i64 t327,.bool t328],.int .i64 t331] rfl (by (try simp only [List.map_toArray,List.map_cons,List.map_nil]);first|done|rfl|(simp only [List.length_drop,List.length_take];rfl)) ?_;(with_reducible refine (almanackerref08_Days.calls k t326 t327 t328 t331 t333 _ A7.out).mono ?_);rintro e w16 ⟨rfl,hb⟩;refine ⟨_,rfl,?_⟩;have n0_:=zz00 (zz34 (g:=gb325) (o:=.cells #[.int .i64 a1_0,.bool a1_1] 32 (0,0)) (by (with_reducible repeat (first|refine zz07 ?_ _|refine zz09 ?_|refine zz08 ?_ _));exact BK325.out) hb);have n1_:=zz00 (zz34 (g:=gb330) (o:=.cells #[.int .i64 t326,.int .i64 t327,.bool t328] 93 (0,0)) (by (with_reducible repeat (first|refine zz07 ?_ _|refine zz09 ?_|refine zz08 ?_ _));exact BK330.out) hb);have n2_:=zz00 (zz21 (by repeat (first|(with_reducible first|exact HB.out|apply zz03|apply zz01|apply zz02|refine zz10 ?_ GE325.out|refine zz10 ?_ GE330.out)|exact HB.out)) hb);clear BK325;clear BK330;clear HB;have BK325:=n0_;have BK330:=n1_;have HB:=n2_;clear n0_ n1_ n2_;(try clear hb);(try clear hb2);(try clear hk);(try clear hi)))
   go_ret2
   exact ⟨by first|rfl|(simp [errW_none,errW_some] <;> rfl)|(simp [*,errW_none,errW_some] <;> rfl),by repeat (first|(with_reducible first|exact HB.out|apply zz03|apply zz01|apply zz02|refine zz10 ?_ GE325.out|refine zz10 ?_ GE330.out)|exact HB.out)⟩
  ·
   replace c6 := zz32.mpr c6
   subst c6
   have H1 : (some (0, 3)) = some (r1, r2) := by rw [if_neg (show ¬ (false = true) by decide)] at H; exact H
   clear H
   have H := H1
   clear H1
   simp only [zz15, zz16] at H
   obtain ⟨rfl, rfl⟩ := H
   go_enter Tryz.func48, Tryz.ntmps48
   go_wp2_with (first|((with_reducible refine zz24 (N:=3) rfl ?_);refine zz30 ?hg (N:=3) ?hd (cs:=#[.int .i64 a1_0,.bool a1_1]) (t:=32) ?hr ?_;(case hd=>rfl);(case hg=>rfl);(case hr=>first|(go_simp;done)|(go_simp;rfl));intro gb325 hg w17 hbox hb;have n0_:=zz00 (zz21 (by repeat (first|(with_reducible first|exact HB.out|apply zz03|apply zz01|apply zz02)|exact HB.out)) hb);have n1_:=zz00 (hbox);have n2_:=zz00 ((by rw [hg];exact (zz22 (by repeat (first|(with_reducible first|exact HB.out|apply zz03|apply zz01|apply zz02)|exact HB.out))) : w.heap.size ≤ gb325));have n3_:=zz00 ((by rw [hg];exact (zz22 (by repeat (first|(with_reducible first|exact HB.out|apply zz03|apply zz01|apply zz02)|exact HB.out))) : w.heap.size ≤ gb325));clear HB;have HB:=n0_;have BK325:=n1_;have GW325:=n2_;have GE325:=n3_;clear n0_ n1_ n2_ n3_;clear hb hbox hg)|((with_reducible refine zz23 (f:=97) rfl ?_);refine zz25 (some 12) rfl rfl Tryz.func97 (by kernel_rfl) rfl #[.int .i64 a0] rfl (by (try simp only [List.map_toArray,List.map_cons,List.map_nil]);first|done|rfl|(simp only [List.length_drop,List.length_take];rfl)) ?_;(with_reducible refine (almanackerref07_Of.calls k a0 t326 t327 t328 t329 _ A3.out).mono ?_);rintro e w18 ⟨rfl,hb⟩;refine ⟨_,rfl,?_⟩;have n0_:=zz00 (zz34 (g:=gb325) (o:=.cells #[.int .i64 a1_0,.bool a1_1] 32 (0,0)) (by (with_reducible repeat (first|refine zz07 ?_ _|refine zz09 ?_|refine zz08 ?_ _));exact BK325.out) hb);have n1_:=zz00 (zz21 (by repeat (first|(with_reducible first|exact HB.out|apply zz03|apply zz01|apply zz02|refine zz10 ?_ GE325.out)|exact HB.out)) hb);clear BK325;clear HB;have BK325:=n0_;have HB:=n1_;clear n0_ n1_;(try clear hb);(try clear hb2);(try clear hk);(try clear hi))|((with_reducible refine zz24 (N:=6) rfl ?_);refine zz30 ?hg (N:=6) ?hd (cs:=#[.int .i64 0,.int .i64 0,.bool false]) (t:=93) ?hr ?_;(case hd=>rfl);(case hg=>rfl);(case hr=>first|(go_simp;done)|(go_simp;rfl));intro gb330 hg w19 hbox hb;have n0_:=zz00 (zz34 (g:=gb325) (o:=.cells #[.int .i64 a1_0,.bool a1_1] 32 (0,0)) (by (with_reducible repeat (first|refine zz07 ?_ _|refine zz09 ?_|refine zz08 ?_ _));exact BK325.out) hb);have n1_:=zz00 (zz21 (by repeat (first|(with_reducible first|exact HB.out|apply zz03|apply zz01|apply zz02|refine zz10 ?_ GE325.out)|exact HB.out)) hb);have n2_:=zz00 (hbox);have n3_:=zz00 ((by rw [hg];exact (zz22 (by repeat (first|(with_reducible first|exact HB.out|apply zz03|apply zz01|apply zz02|refine zz10 ?_ GE325.out)|exact HB.out))) : w.heap.size ≤ gb330));have n4_:=zz00 ((by rw [hg];exact (zz22 (by repeat (first|(with_reducible first|exact HB.out|apply zz03|apply zz01|apply zz02|refine zz10 ?_ GE325.out)|exact HB.out))) : w.heap.size ≤ gb330));have n5_:=zz00 ((by rw [hg];exact Nat.ne_of_lt (blk_lt (g:=gb325) (o:=.cells #[.int .i64 a1_0,.bool a1_1] 32 (0,0)) (by (with_reducible repeat (first|refine zz07 ?_ _|refine zz09 ?_|refine zz08 ?_ _));exact BK325.out)) : gb325 ≠ gb330));have n6_:=zz00 ((by rw [hg];exact Nat.ne_of_gt (blk_lt (g:=gb325) (o:=.cells #[.int .i64 a1_0,.bool a1_1] 32 (0,0)) (by (with_reducible repeat (first|refine zz07 ?_ _|refine zz09 ?_|refine zz08 ?_ _));exact BK325.out)) : gb330 ≠ gb325));clear BK325;clear HB;have BK325:=n0_;have HB:=n1_;have BK330:=n2_;have GW330:=n3_;have GE330:=n4_;have NB325_330:=n5_;have NB330_325:=n6_;clear n0_ n1_ n2_ n3_ n4_ n5_ n6_;clear hb hbox hg;have hnb20:=NB330_325.out;have hnc20:=NB325_330.out;have hcz21_0 : w19.cell? ⟨gb330,0,none⟩ = some (.int .i64 0):=(zz18 BK330.out 0).trans rfl;have hcz21_1 : w19.cell? ⟨gb330,1,none⟩ = some (.int .i64 0):=(zz18 BK330.out 1).trans rfl;have hcz21_2 : w19.cell? ⟨gb330,2,none⟩ = some (.bool false):=(zz18 BK330.out 2).trans rfl;have hfz21_0:=zz17 BK330.out 0;have hfz21_1:=zz17 BK330.out 1;have hfz21_2:=zz17 BK330.out 2;have hcz22_0 : w19.cell? ⟨gb325,0,none⟩ = some (.int .i64 a1_0):=(zz18 BK325.out 0).trans rfl;have hcz22_1 : w19.cell? ⟨gb325,1,none⟩ = some (.bool a1_1):=(zz18 BK325.out 1).trans rfl;have hfz22_0:=zz17 BK325.out 0;have hfz22_1:=zz17 BK325.out 1)|((with_reducible refine zz23 (f:=104) rfl ?_);refine zz25 (some 22) rfl rfl Tryz.func104 (by kernel_rfl) rfl #[.bool t328,.agg #[.int .i64 a1_0,.bool a1_1]] rfl (by (try simp only [List.map_toArray,List.map_cons,List.map_nil]);first|done|rfl|(simp only [List.length_drop,List.length_take];rfl)) ?_;(with_reducible refine (almanackerref09_Place.calls k t328 a1_0 a1_1 t331 false _ A5.out).mono ?_);rintro e w23 ⟨rfl,hb⟩;refine ⟨_,rfl,?_⟩;have n0_:=zz00 (zz34 (g:=gb325) (o:=.cells #[.int .i64 a1_0,.bool a1_1] 32 (0,0)) (by (with_reducible repeat (first|refine zz07 ?_ _|refine zz09 ?_|refine zz08 ?_ _));refine zz33 ?_ NB325_330.out _;(with_reducible repeat (first|refine zz07 ?_ _|refine zz09 ?_|refine zz08 ?_ _));refine zz33 ?_ NB325_330.out _;(with_reducible repeat (first|refine zz07 ?_ _|refine zz09 ?_|refine zz08 ?_ _));refine zz33 ?_ NB325_330.out _;(with_reducible repeat (first|refine zz07 ?_ _|refine zz09 ?_|refine zz08 ?_ _));exact BK325.out) hb);have n1_:=zz00 (zz34 (g:=gb330) (o:=.cells #[.int .i64 t326,.int .i64 t327,.bool t328] 93 (0,0)) (by (with_reducible repeat (first|refine zz07 ?_ _|refine zz09 ?_|refine zz08 ?_ _));refine zz35 (cs:=#[.int .i64 t326,.int .i64 t327,.bool false]) ?_ 2 _ rfl;(with_reducible repeat (first|refine zz07 ?_ _|refine zz09 ?_|refine zz08 ?_ _));refine zz35 (cs:=#[.int .i64 t326,.int .i64 0,.bool false]) ?_ 1 _ rfl;(with_reducible repeat (first|refine zz07 ?_ _|refine zz09 ?_|refine zz08 ?_ _));refine zz35 (cs:=#[.int .i64 0,.int .i64 0,.bool false]) ?_ 0 _ rfl;(with_reducible repeat (first|refine zz07 ?_ _|refine zz09 ?_|refine zz08 ?_ _));exact BK330.out) hb);have n2_:=zz00 (zz21 (by repeat (first|(with_reducible first|exact HB.out|apply zz03|apply zz01|apply zz02|refine zz10 ?_ GE325.out|refine zz10 ?_ GE330.out)|exact HB.out)) hb);clear BK325;clear BK330;clear HB;have BK325:=n0_;have BK330:=n1_;have HB:=n2_;clear n0_ n1_ n2_;(try clear hb);(try clear hb2);(try clear hk);(try clear hi)))
   go_ret2
   exact ⟨by first|rfl|(simp [errW_none,errW_some] <;> rfl)|(simp [*,errW_none,errW_some] <;> rfl),by repeat (first|(with_reducible first|exact HB.out|apply zz03|apply zz01|apply zz02|refine zz10 ?_ GE325.out|refine zz10 ?_ GE330.out)|exact HB.out)⟩
 ·
  rw [if_neg c4] at H
  have c4b0 : (t329 == 0) = false := zz27.mpr c4
  have c4b1 : (t329 != 0) = true := zz28.mpr c4
  simp only [zz15, zz16] at H
  obtain ⟨rfl, rfl⟩ := H
  go_enter Tryz.func48, Tryz.ntmps48
  go_wp2_with (first|((with_reducible refine zz24 (N:=3) rfl ?_);refine zz30 ?hg (N:=3) ?hd (cs:=#[.int .i64 a1_0,.bool a1_1]) (t:=32) ?hr ?_;(case hd=>rfl);(case hg=>rfl);(case hr=>first|(go_simp;done)|(go_simp;rfl));intro gb325 hg w24 hbox hb;have n0_:=zz00 (zz21 (by repeat (first|(with_reducible first|exact HB.out|apply zz03|apply zz01|apply zz02)|exact HB.out)) hb);have n1_:=zz00 (hbox);have n2_:=zz00 ((by rw [hg];exact (zz22 (by repeat (first|(with_reducible first|exact HB.out|apply zz03|apply zz01|apply zz02)|exact HB.out))) : w.heap.size ≤ gb325));have n3_:=zz00 ((by rw [hg];exact (zz22 (by repeat (first|(with_reducible first|exact HB.out|apply zz03|apply zz01|apply zz02)|exact HB.out))) : w.heap.size ≤ gb325));clear HB;have HB:=n0_;have BK325:=n1_;have GW325:=n2_;have GE325:=n3_;clear n0_ n1_ n2_ n3_;clear hb hbox hg)|((with_reducible refine zz23 (f:=97) rfl ?_);refine zz25 (some 12) rfl rfl Tryz.func97 (by kernel_rfl) rfl #[.int .i64 a0] rfl (by (try simp only [List.map_toArray,List.map_cons,List.map_nil]);first|done|rfl|(simp only [List.length_drop,List.length_take];rfl)) ?_;(with_reducible refine (almanackerref07_Of.calls k a0 t326 t327 t328 t329 _ A3.out).mono ?_);rintro e w25 ⟨rfl,hb⟩;refine ⟨_,rfl,?_⟩;have n0_:=zz00 (zz34 (g:=gb325) (o:=.cells #[.int .i64 a1_0,.bool a1_1] 32 (0,0)) (by (with_reducible repeat (first|refine zz07 ?_ _|refine zz09 ?_|refine zz08 ?_ _));exact BK325.out) hb);have n1_:=zz00 (zz21 (by repeat (first|(with_reducible first|exact HB.out|apply zz03|apply zz01|apply zz02|refine zz10 ?_ GE325.out)|exact HB.out)) hb);clear BK325;clear HB;have BK325:=n0_;have HB:=n1_;clear n0_ n1_;(try clear hb);(try clear hb2);(try clear hk);(try clear hi))|((with_reducible refine zz24 (N:=6) rfl ?_);refine zz30 ?hg (N:=6) ?hd (cs:=#[.int .i64 0,.int .i64 0,.bool false]) (t:=93) ?hr ?_;(case hd=>rfl);(case hg=>rfl);(case hr=>first|(go_simp;done)|(go_simp;rfl));intro gb330 hg w26 hbox hb;have n0_:=zz00 (zz34 (g:=gb325) (o:=.cells #[.int .i64 a1_0,.bool a1_1] 32 (0,0)) (by (with_reducible repeat (first|refine zz07 ?_ _|refine zz09 ?_|refine zz08 ?_ _));exact BK325.out) hb);have n1_:=zz00 (zz21 (by repeat (first|(with_reducible first|exact HB.out|apply zz03|apply zz01|apply zz02|refine zz10 ?_ GE325.out)|exact HB.out)) hb);have n2_:=zz00 (hbox);have n3_:=zz00 ((by rw [hg];exact (zz22 (by repeat (first|(with_reducible first|exact HB.out|apply zz03|apply zz01|apply zz02|refine zz10 ?_ GE325.out)|exact HB.out))) : w.heap.size ≤ gb330));have n4_:=zz00 ((by rw [hg];exact (zz22 (by repeat (first|(with_reducible first|exact HB.out|apply zz03|apply zz01|apply zz02|refine zz10 ?_ GE325.out)|exact HB.out))) : w.heap.size ≤ gb330));have n5_:=zz00 ((by rw [hg];exact Nat.ne_of_lt (blk_lt (g:=gb325) (o:=.cells #[.int .i64 a1_0,.bool a1_1] 32 (0,0)) (by (with_reducible repeat (first|refine zz07 ?_ _|refine zz09 ?_|refine zz08 ?_ _));exact BK325.out)) : gb325 ≠ gb330));have n6_:=zz00 ((by rw [hg];exact Nat.ne_of_gt (blk_lt (g:=gb325) (o:=.cells #[.int .i64 a1_0,.bool a1_1] 32 (0,0)) (by (with_reducible repeat (first|refine zz07 ?_ _|refine zz09 ?_|refine zz08 ?_ _));exact BK325.out)) : gb330 ≠ gb325));clear BK325;clear HB;have BK325:=n0_;have HB:=n1_;have BK330:=n2_;have GW330:=n3_;have GE330:=n4_;have NB325_330:=n5_;have NB330_325:=n6_;clear n0_ n1_ n2_ n3_ n4_ n5_ n6_;clear hb hbox hg;have hnb27:=NB330_325.out;have hnc27:=NB325_330.out;have hcz28_0 : w26.cell? ⟨gb330,0,none⟩ = some (.int .i64 0):=(zz18 BK330.out 0).trans rfl;have hcz28_1 : w26.cell? ⟨gb330,1,none⟩ = some (.int .i64 0):=(zz18 BK330.out 1).trans rfl;have hcz28_2 : w26.cell? ⟨gb330,2,none⟩ = some (.bool false):=(zz18 BK330.out 2).trans rfl;have hfz28_0:=zz17 BK330.out 0;have hfz28_1:=zz17 BK330.out 1;have hfz28_2:=zz17 BK330.out 2))
  go_ret2
  exact ⟨by first|rfl|(simp [errW_none,errW_some] <;> rfl)|(simp [*,errW_none,errW_some] <;> rfl),by repeat (first|(with_reducible first|exact HB.out|apply zz03|apply zz01|apply zz02|refine zz10 ?_ GE325.out|refine zz10 ?_ GE330.out)|exact HB.out)⟩

def almanackerref10_Check.f (k : Nat) (a0_0 : Int) (a0_1 : Int) (a0_2 : Bool) (a0_3 : Int) : Option (Int) := (almanackerref10_Last.f k a0_0 a0_1 a0_2).bind fun bt335 => (if bt335.2 = 0 then (if a0_3 < 1 then (some 4) else (if a0_3 > bt335.1 then (some 4) else (some 0))) else (some bt335.2))
set_option maxHeartbeats 8000000 in
set_option maxRecDepth 100000 in
theorem almanackerref10_Check.calls (k : Nat) (a0_0 : Int) (a0_1 : Int) (a0_2 : Bool) (a0_3 : Int) (r : Int) (w : World) (h : almanackerref10_Check.f k a0_0 a0_1 a0_2 a0_3 = some r) :
  Calls Tryz.prog 22 #[.agg #[.int .i64 a0_0, .int .i64 a0_1, .bool a0_2, .int .i64 a0_3]] w fun e w' => e = .returned (.int .i64 r) ∧ Below w.heap.size w w' := by
 have hu34 := Tryz.underlying34
 have hu32 := Tryz.underlying32
 have HB := zz00 (Below.refl w.heap.size w)
 have H : ((almanackerref10_Last.f k a0_0 a0_1 a0_2).bind fun bt335=>(if bt335.2 = 0 then (if a0_3 < 1 then (some 4) else (if a0_3 > bt335.1 then (some 4) else (some 0))) else (some bt335.2))) = some r:=h
 clear h
 replace H := zz14.mp H
 obtain ⟨⟨t335, t336⟩, A20, H⟩ := H
 replace H : (if t336 = 0 then (if a0_3 < 1 then (some 4) else (if a0_3 > t335 then (some 4) else (some 0))) else (some t336)) = some r := H
 have A2 := zz00 A20
 clear A20
 by_cases c3 : t336 = 0
 ·
  rw [if_pos c3] at H
  have c3b0 : (t336 == 0) = true := zz29.mpr c3
  have c3b1 : (t336 != 0) = false := zz26.mpr c3
  clear c3
  by_cases c4 : a0_3 < 1
  ·
   rw [if_pos c4] at H
   have c4b0 : decide (a0_3 < 1) = true := decide_eq_true c4
   clear c4
   obtain rfl := Option.some.inj H
   go_enter Tryz.func22, Tryz.ntmps22
   go_wp2_with (first|((with_reducible refine zz24 (N:=1) rfl ?_);refine zz30 ?hg (N:=1) ?hd (cs:=#[.int .i64 a0_0,.int .i64 a0_1,.bool a0_2,.int .i64 a0_3]) (t:=34) ?hr ?_;(case hd=>rfl);(case hg=>rfl);(case hr=>first|(go_simp;done)|(go_simp;rfl));intro gb334 hg w5 hbox hb;have n0_:=zz00 (zz21 (by repeat (first|(with_reducible first|exact HB.out|apply zz03|apply zz01|apply zz02)|exact HB.out)) hb);have n1_:=zz00 (hbox);have n2_:=zz00 ((by rw [hg];exact (zz22 (by repeat (first|(with_reducible first|exact HB.out|apply zz03|apply zz01|apply zz02)|exact HB.out))) : w.heap.size ≤ gb334));have n3_:=zz00 ((by rw [hg];exact (zz22 (by repeat (first|(with_reducible first|exact HB.out|apply zz03|apply zz01|apply zz02)|exact HB.out))) : w.heap.size ≤ gb334));clear HB;have HB:=n0_;have BK334:=n1_;have GW334:=n2_;have GE334:=n3_;clear n0_ n1_ n2_ n3_;clear hb hbox hg;have hcz6_0 : w5.cell? ⟨gb334,0,none⟩ = some (.int .i64 a0_0):=(zz18 BK334.out 0).trans rfl;have hcz6_1 : w5.cell? ⟨gb334,1,none⟩ = some (.int .i64 a0_1):=(zz18 BK334.out 1).trans rfl;have hcz6_2 : w5.cell? ⟨gb334,2,none⟩ = some (.bool a0_2):=(zz18 BK334.out 2).trans rfl;have hcz6_3 : w5.cell? ⟨gb334,3,none⟩ = some (.int .i64 a0_3):=(zz18 BK334.out 3).trans rfl;have hfz6_0:=zz17 BK334.out 0;have hfz6_1:=zz17 BK334.out 1;have hfz6_2:=zz17 BK334.out 2;have hfz6_3:=zz17 BK334.out 3)|((with_reducible refine zz23 (f:=48) rfl ?_);refine zz25 (some 10) rfl rfl Tryz.func48 (by kernel_rfl) rfl #[.int .i64 a0_0,.agg #[.int .i64 a0_1,.bool a0_2]] rfl (by (try simp only [List.map_toArray,List.map_cons,List.map_nil]);first|done|rfl|(simp only [List.length_drop,List.length_take];rfl)) ?_;(with_reducible refine (almanackerref10_Last.calls k a0_0 a0_1 a0_2 t335 t336 _ A2.out).mono ?_);rintro e w7 ⟨rfl,hb⟩;refine ⟨_,rfl,?_⟩;have n0_:=zz00 (zz34 (g:=gb334) (o:=.cells #[.int .i64 a0_0,.int .i64 a0_1,.bool a0_2,.int .i64 a0_3] 34 (0,0)) (by (with_reducible repeat (first|refine zz07 ?_ _|refine zz09 ?_|refine zz08 ?_ _));exact BK334.out) hb);have n1_:=zz00 (zz21 (by repeat (first|(with_reducible first|exact HB.out|apply zz03|apply zz01|apply zz02|refine zz10 ?_ GE334.out)|exact HB.out)) hb);clear BK334;clear HB;have BK334:=n0_;have HB:=n1_;clear n0_ n1_;(try clear hb);(try clear hb2);(try clear hk);(try clear hi);have hcz8_0 : w7.cell? ⟨gb334,0,none⟩ = some (.int .i64 a0_0):=(zz18 BK334.out 0).trans rfl;have hcz8_1 : w7.cell? ⟨gb334,1,none⟩ = some (.int .i64 a0_1):=(zz18 BK334.out 1).trans rfl;have hcz8_2 : w7.cell? ⟨gb334,2,none⟩ = some (.bool a0_2):=(zz18 BK334.out 2).trans rfl;have hcz8_3 : w7.cell? ⟨gb334,3,none⟩ = some (.int .i64 a0_3):=(zz18 BK334.out 3).trans rfl;have hfz8_0:=zz17 BK334.out 0;have hfz8_1:=zz17 BK334.out 1;have hfz8_2:=zz17 BK334.out 2;have hfz8_3:=zz17 BK334.out 3))
   go_ret
   exact ⟨by first|rfl|(simp [errW_none,errW_some] <;> rfl)|(simp [*,errW_none,errW_some] <;> rfl),by repeat (first|(with_reducible first|exact HB.out|apply zz03|apply zz01|apply zz02|refine zz10 ?_ GE334.out)|exact HB.out)⟩
  ·
   rw [if_neg c4] at H
   have c4b0 : decide (a0_3 < 1) = false := decide_eq_false c4
   clear c4
   by_cases c9 : a0_3 > t335
   ·
    rw [if_pos c9] at H
    have c9b0 : decide (t335 < a0_3) = true := decide_eq_true c9
    clear c9
    obtain rfl := Option.some.inj H
    go_enter Tryz.func22, Tryz.ntmps22
    go_wp2_with (first|((with_reducible refine zz24 (N:=1) rfl ?_);refine zz30 ?hg (N:=1) ?hd (cs:=#[.int .i64 a0_0,.int .i64 a0_1,.bool a0_2,.int .i64 a0_3]) (t:=34) ?hr ?_;(case hd=>rfl);(case hg=>rfl);(case hr=>first|(go_simp;done)|(go_simp;rfl));intro gb334 hg w10 hbox hb;have n0_:=zz00 (zz21 (by repeat (first|(with_reducible first|exact HB.out|apply zz03|apply zz01|apply zz02)|exact HB.out)) hb);have n1_:=zz00 (hbox);have n2_:=zz00 ((by rw [hg];exact (zz22 (by repeat (first|(with_reducible first|exact HB.out|apply zz03|apply zz01|apply zz02)|exact HB.out))) : w.heap.size ≤ gb334));have n3_:=zz00 ((by rw [hg];exact (zz22 (by repeat (first|(with_reducible first|exact HB.out|apply zz03|apply zz01|apply zz02)|exact HB.out))) : w.heap.size ≤ gb334));clear HB;have HB:=n0_;have BK334:=n1_;have GW334:=n2_;have GE334:=n3_;clear n0_ n1_ n2_ n3_;clear hb hbox hg;have hcz11_0 : w10.cell? ⟨gb334,0,none⟩ = some (.int .i64 a0_0):=(zz18 BK334.out 0).trans rfl;have hcz11_1 : w10.cell? ⟨gb334,1,none⟩ = some (.int .i64 a0_1):=(zz18 BK334.out 1).trans rfl;have hcz11_2 : w10.cell? ⟨gb334,2,none⟩ = some (.bool a0_2):=(zz18 BK334.out 2).trans rfl;have hcz11_3 : w10.cell? ⟨gb334,3,none⟩ = some (.int .i64 a0_3):=(zz18 BK334.out 3).trans rfl;have hfz11_0:=zz17 BK334.out 0;have hfz11_1:=zz17 BK334.out 1;have hfz11_2:=zz17 BK334.out 2;have hfz11_3:=zz17 BK334.out 3)|((with_reducible refine zz23 (f:=48) rfl ?_);refine zz25 (some 10) rfl rfl Tryz.func48 (by kernel_rfl) rfl #[.int .i64 a0_0,.agg #[.int .i64 a0_1,.bool a0_2]] rfl (by (try simp only [List.map_toArray,List.map_cons,List.map_nil]);first|done|rfl|(simp only [List.length_drop,List.length_take];rfl)) ?_;(with_reducible refine (almanackerref10_Last.calls k a0_0 a0_1 a0_2 t335 t336 _ A2.out).mono ?_);rintro e w12 ⟨rfl,hb⟩;refine ⟨_,rfl,?_⟩;have n0_:=zz00 (zz34 (g:=gb334) (o:=.cells #[.int .i64 a0_0,.int .i64 a0_1,.bool a0_2,.int .i64 a0_3] 34 (0,0)) (by (with_reducible repeat (first|refine zz07 ?_ _|refine zz09 ?_|refine zz08 ?_ _));exact BK334.out) hb);have n1_:=zz00 (zz21 (by repeat (first|(with_reducible first|exact HB.out|apply zz03|apply zz01|apply zz02|refine zz10 ?_ GE334.out)|exact HB.out)) hb);clear BK334;clear HB;have BK334:=n0_;have HB:=n1_;clear n0_ n1_;(try clear hb);(try clear hb2);(try clear hk);(try clear hi);have hcz13_0 : w12.cell? ⟨gb334,0,none⟩ = some (.int .i64 a0_0):=(zz18 BK334.out 0).trans rfl;have hcz13_1 : w12.cell? ⟨gb334,1,none⟩ = some (.int .i64 a0_1):=(zz18 BK334.out 1).trans rfl;have hcz13_2 : w12.cell? ⟨gb334,2,none⟩ = some (.bool a0_2):=(zz18 BK334.out 2).trans rfl;have hcz13_3 : w12.cell? ⟨gb334,3,none⟩ = some (.int .i64 a0_3):=(zz18 BK334.out 3).trans rfl;have hfz13_0:=zz17 BK334.out 0;have hfz13_1:=zz17 BK334.out 1;have hfz13_2:=zz17 BK334.out 2;have hfz13_3:=zz17 BK334.out 3))
    go_ret
    exact ⟨by first|rfl|(simp [errW_none,errW_some] <;> rfl)|(simp [*,errW_none,errW_some] <;> rfl),by repeat (first|(with_reducible first|exact HB.out|apply zz03|apply zz01|apply zz02|refine zz10 ?_ GE334.out)|exact HB.out)⟩
   ·
    rw [if_neg c9] at H
    have c9b0 : decide (t335 < a0_3) = false := decide_eq_false c9
    clear c9
    obtain rfl := Option.some.inj H
    go_enter Tryz.func22, Tryz.ntmps22
    go_wp2_with (first|((with_reducible refine zz24 (N:=1) rfl ?_);refine zz30 ?hg (N:=1) ?hd (cs:=#[.int .i64 a0_0,.int .i64 a0_1,.bool a0_2,.int .i64 a0_3]) (t:=34) ?hr ?_;(case hd=>rfl);(case hg=>rfl);(case hr=>first|(go_simp;done)|(go_simp;rfl));intro gb334 hg w14 hbox hb;have n0_:=zz00 (zz21 (by repeat (first|(with_reducible first|exact HB.out|apply zz03|apply zz01|apply zz02)|exact HB.out)) hb);have n1_:=zz00 (hbox);have n2_:=zz00 ((by rw [hg];exact (zz22 (by repeat (first|(with_reducible first|exact HB.out|apply zz03|apply zz01|apply zz02)|exact HB.out))) : w.heap.size ≤ gb334));have n3_:=zz00 ((by rw [hg];exact (zz22 (by repeat (first|(with_reducible first|exact HB.out|apply zz03|apply zz01|apply zz02)|exact HB.out))) : w.heap.size ≤ gb334));clear HB;have HB:=n0_;have BK334:=n1_;have GW334:=n2_;have GE334:=n3_;clear n0_ n1_ n2_ n3_;clear hb hbox hg;have hcz15_0 : w14.cell? ⟨gb334,0,none⟩ = some (.int .i64 a0_0):=(zz18 BK334.out 0).trans rfl;have hcz15_1 : w14.cell? ⟨gb334,1,none⟩ = some (.int .i64 a0_1):=(zz18 BK334.out 1).trans rfl;have hcz15_2 : w14.cell? ⟨gb334,2,none⟩ = some (.bool a0_2):=(zz18 BK334.out 2).trans rfl;have hcz15_3 : w14.cell? ⟨gb334,3,none⟩ = some (.int .i64 a0_3):=(zz18 BK334.out 3).trans rfl;have hfz15_0:=zz17 BK334.out 0;have hfz15_1:=zz17 BK334.out 1;have hfz15_2:=zz17 BK334.out 2;have hfz15_3:=zz17 BK334.out 3)|((with_reducible refine zz23 (f:=48) rfl ?_);refine zz25 (some 10) rfl rfl Tryz.func48 (by kernel_rfl) rfl #[.int .i64 a0_0,.agg #[.int .i64 a0_1,.bool a0_2]] rfl (by (try simp only [List.map_toArray,List.map_cons,List.map_nil]);first|done|rfl|(simp only [List.length_drop,List.length_take];rfl)) ?_;(with_reducible refine (almanackerref10_Last.calls k a0_0 a0_1 a0_2 t335 t336 _ A2.out).mono ?_);rintro e w16 ⟨rfl,hb⟩;refine ⟨_,rfl,?_⟩;have n0_:=zz00 (zz34 (g:=gb334) (o:=.cells #[.int .i64 a0_0,.int .i64 a0_1,.bool a0_2,.int .i64 a0_3] 34 (0,0)) (by (with_reducible repeat (first|refine zz07 ?_ _|refine zz09 ?_|refine zz08 ?_ _));exact BK334.out) hb);have n1_:=zz00 (zz21 (by repeat (first|(with_reducible first|exact HB.out|apply zz03|apply zz01|apply zz02|refine zz10 ?_ GE334.out)|exact HB.out)) hb);clear BK334;clear HB;have BK334:=n0_;have HB:=n1_;clear n0_ n1_;(try clear hb);(try clear hb2);(try clear hk);(try clear hi);have hcz17_0 : w16.cell? ⟨gb334,0,none⟩ = some (.int .i64 a0_0):=(zz18 BK334.out 0).trans rfl;have hcz17_1 : w16.cell? ⟨gb334,1,none⟩ = some (.int .i64 a0_1):=(zz18 BK334.out 1).trans rfl;have hcz17_2 : w16.cell? ⟨gb334,2,none⟩ = some (.bool a0_2):=(zz18 BK334.out 2).trans rfl;have hcz17_3 : w16.cell? ⟨gb334,3,none⟩ = some (.int .i64 a0_3):=(zz18 BK334.out 3).trans rfl;have hfz17_0:=zz17 BK334.out 0;have hfz17_1:=zz17 BK334.out 1;have hfz17_2:=zz17 BK334.out 2;have hfz17_3:=zz17 BK334.out 3))
    go_ret
    exact ⟨by first|rfl|(simp [errW_none,errW_some] <;> rfl)|(simp [*,errW_none,errW_some] <;> rfl),by repeat (first|(with_reducible first|exact HB.out|apply zz03|apply zz01|apply zz02|refine zz10 ?_ GE334.out)|exact HB.out)⟩
 ·
  rw [if_neg c3] at H
  have c3b0 : (t336 == 0) = false := zz27.mpr c3
  have c3b1 : (t336 != 0) = true := zz28.mpr c3
  obtain rfl := Option.some.inj H
  go_enter Tryz.func22, Tryz.ntmps22
  go_wp2_with (first|((with_reducible refine zz24 (N:=1) rfl ?_);refine zz30 ?hg (N:=1) ?hd (cs:=#[.int .i64 a0_0,.int .i64 a0_1,.bool a0_2,.int .i64 a0_3]) (t:=34) ?hr ?_;(case hd=>rfl);(case hg=>rfl);(case hr=>first|(go_simp;done)|(go_simp;rfl));intro gb334 hg w18 hbox hb;have n0_:=zz00 (zz21 (by repeat (first|(with_reducible first|exact HB.out|apply zz03|apply zz01|apply zz02)|exact HB.out)) hb);have n1_:=zz00 (hbox);have n2_:=zz00 ((by rw [hg];exact (zz22 (by repeat (first|(with_reducible first|exact HB.out|apply zz03|apply zz01|apply zz02)|exact HB.out))) : w.heap.size ≤ gb334));have n3_:=zz00 ((by rw [hg];exact (zz22 (by repeat (first|(with_reducible first|exact HB.out|apply zz03|apply zz01|apply zz02)|exact HB.out))) : w.heap.size ≤ gb334));clear HB;have HB:=n0_;have BK334:=n1_;have GW334:=n2_;have GE334:=n3_;clear n0_ n1_ n2_ n3_;clear hb hbox hg;have hcz19_0 : w18.cell? ⟨gb334,0,none⟩ = some (.int .i64 a0_0):=(zz18 BK334.out 0).trans rfl;have hcz19_1 : w18.cell? ⟨gb334,1,none⟩ = some (.int .i64 a0_1):=(zz18 BK334.out 1).trans rfl;have hcz19_2 : w18.cell? ⟨gb334,2,none⟩ = some (.bool a0_2):=(zz18 BK334.out 2).trans rfl;have hcz19_3 : w18.cell? ⟨gb334,3,none⟩ = some (.int .i64 a0_3):=(zz18 BK334.out 3).trans rfl;have hfz19_0:=zz17 BK334.out 0;have hfz19_1:=zz17 BK334.out 1;have hfz19_2:=zz17 BK334.out 2;have hfz19_3:=zz17 BK334.out 3)|((with_reducible refine zz23 (f:=48) rfl ?_);refine zz25 (some 10) rfl rfl Tryz.func48 (by kernel_rfl) rfl #[.int .i64 a0_0,.agg #[.int .i64 a0_1,.bool a0_2]] rfl (by (try simp only [List.map_toArray,List.map_cons,List.map_nil]);first|done|rfl|(simp only [List.length_drop,List.length_take];rfl)) ?_;(with_reducible refine (almanackerref10_Last.calls k a0_0 a0_1 a0_2 t335 t336 _ A2.out).mono ?_);rintro e w20 ⟨rfl,hb⟩;refine ⟨_,rfl,?_⟩;have n0_:=zz00 (zz34 (g:=gb334) (o:=.cells #[.int .i64 a0_0,.int .i64 a0_1,.bool a0_2,.int .i64 a0_3] 34 (0,0)) (by (with_reducible repeat (first|refine zz07 ?_ _|refine zz09 ?_|refine zz08 ?_ _));exact BK334.out) hb);have n1_:=zz00 (zz21 (by repeat (first|(with_reducible first|exact HB.out|apply zz03|apply zz01|apply zz02|refine zz10 ?_ GE334.out)|exact HB.out)) hb);clear BK334;clear HB;have BK334:=n0_;have HB:=n1_;clear n0_ n1_;(try clear hb);(try clear hb2);(try clear hk);(try clear hi)))
  go_ret
  exact ⟨by first|rfl|(simp [errW_none,errW_some] <;> rfl)|(simp [*,errW_none,errW_some] <;> rfl),by repeat (first|(with_reducible first|exact HB.out|apply zz03|apply zz01|apply zz02|refine zz10 ?_ GE334.out)|exact HB.out)⟩

def almanackerref08_Ahead.l0 : Nat → Int → Int → Int → Int → Int → Bool → Option (Int)
  | 0, _, _, _, _, _, _ => none
  | k + 1, x1, x5, x6, x338000, x338001, x338002 => if x6 < x1 then ((almanackerref08_lengths.f k x338000 x338001 x338002).bind fun t339 => (if 0 ≤ (wrap64 (x6 - 1)) then (if (wrap64 (x6 - 1)) < (t339.length : Int) then (almanackerref08_Ahead.l0 k x1 (wrap64 (x5 + (rd t339 (wrap64 (x6 - 1))))) (wrap64 (x6 + 1)) x338000 x338001 x338002) else (none)) else (none))) else (some x5)
def almanackerref08_Ahead.f (k : Nat) (a0_0 : Int) (a0_1 : Int) (a0_2 : Bool) (a1 : Int) : Option (Int) := (almanackerref08_is.f k a0_0 a0_1 a0_2 a1).bind fun t338 => (if t338 = true then (almanackerref08_Ahead.l0 k a1 0 1 a0_0 a0_1 a0_2) else (some 0))
theorem almanackerref08_Ahead.mono_l : ∀ k, (∀ y0 y1 y2 y3 y4 y5, LeO (almanackerref08_Ahead.l0 k y0 y1 y2 y3 y4 y5) (almanackerref08_Ahead.l0 (k + 1) y0 y1 y2 y3 y4 y5))
 | 0 => fun _ _ _ _ _ _ r h => by simp [almanackerref08_Ahead.l0] at h
 | k + 1 => by
  have ih0 := almanackerref08_Ahead.mono_l k
  ·
   intro y0 y1 y2 y3 y4 y5
   unfold almanackerref08_Ahead.l0
   repeat' first
   | (with_reducible exact ih0 _ _ _ _ _ _)
   | (with_reducible exact almanackerref08_is.mono _ _ _ _ _)
   | (with_reducible exact almanackerref08_lengths.mono _ _ _ _)
   | (with_reducible exact LeO.refl _)
   | (with_reducible exact LeO.none _)
   | (with_reducible refine LeO.ite ?_ ?_)
   | (with_reducible refine LeO.bind ?_ (fun _ => ?_))
   | exact ih0 _ _ _ _ _ _
   | exact almanackerref08_is.mono _ _ _ _ _
   | exact almanackerref08_lengths.mono _ _ _ _
   | exact LeO.none _
   | refine LeO.ite ?_ ?_
   | refine LeO.bind ?_ (fun _ => ?_)
theorem almanackerref08_Ahead.mono : ∀ a0 a1 a2 a3 k, LeO (almanackerref08_Ahead.f k a0 a1 a2 a3) (almanackerref08_Ahead.f (k + 1) a0 a1 a2 a3) := by
 intro a0 a1 a2 a3 k
 have ih0 := almanackerref08_Ahead.mono_l k
 unfold almanackerref08_Ahead.f
 repeat' first
   | (with_reducible exact ih0 _ _ _ _ _ _)
   | (with_reducible exact almanackerref08_is.mono _ _ _ _ _)
   | (with_reducible exact almanackerref08_lengths.mono _ _ _ _)
   | (with_reducible exact LeO.refl _)
   | (with_reducible exact LeO.none _)
   | (with_reducible refine LeO.ite ?_ ?_)
   | (with_reducible refine LeO.bind ?_ (fun _ => ?_))
   | exact ih0 _ _ _ _ _ _
   | exact almanackerref08_is.mono _ _ _ _ _
   | exact almanackerref08_lengths.mono _ _ _ _
   | exact LeO.none _
   | refine LeO.ite ?_ ?_
   | refine LeO.bind ?_ (fun _ => ?_)
set_option maxHeartbeats 8000000 in
set_option maxRecDepth 100000 in
theorem almanackerref08_Ahead.calls (k : Nat) (a0_0 : Int) (a0_1 : Int) (a0_2 : Bool) (a1 : Int) (r : Int) (w : World) (h : almanackerref08_Ahead.f k a0_0 a0_1 a0_2 a1 = some r) :
  Calls Tryz.prog 138 #[.agg #[.int .i64 a0_0, .int .i64 a0_1, .bool a0_2], .int .i64 a1] w fun e w' => e = .returned (.int .i64 r) ∧ Below w.heap.size w w' := by
 have hu93 := Tryz.underlying93
 have HB := zz00 (Below.refl w.heap.size w)
 have H : ((almanackerref08_is.f k a0_0 a0_1 a0_2 a1).bind fun t338 => (if t338 = true then (almanackerref08_Ahead.l0 k a1 0 1 a0_0 a0_1 a0_2) else (some 0))) = some r := h
 clear h
 replace H := zz14.mp H
 obtain ⟨t338, A30, H⟩ := H
 replace H : (if t338 = true then (almanackerref08_Ahead.l0 k a1 0 1 a0_0 a0_1 a0_2) else (some 0)) = some r := H
 have A3 := zz00 A30
 clear A30
 by_cases c4 : t338 = true
 ·
  subst c4
  have H1 : (almanackerref08_Ahead.l0 k a1 0 1 a0_0 a0_1 a0_2) = some r := by rw [if_pos rfl] at H; exact H
  clear H
  have H := H1
  clear H1
  have H' := zz00 H
  clear H
  go_enter Tryz.func138, Tryz.ntmps138
  go_wp2_with (first|((with_reducible refine zz24 (N:=2) rfl ?_);refine zz30 ?hg (N:=2) ?hd (cs:=#[.int .i64 a0_0,.int .i64 a0_1,.bool a0_2]) (t:=93) ?hr ?_;(case hd=>rfl);(case hg=>rfl);(case hr=>first|(go_simp;done)|(go_simp;rfl));intro gb337 hg w5 hbox hb;have n0_:=zz00 (zz21 (by repeat (first|(with_reducible first|exact HB.out|apply zz03|apply zz01|apply zz02)|exact HB.out)) hb);have n1_:=zz00 (hbox);have n2_:=zz00 ((by rw [hg];exact (zz22 (by repeat (first|(with_reducible first|exact HB.out|apply zz03|apply zz01|apply zz02)|exact HB.out))) : w.heap.size ≤ gb337));have n3_:=zz00 ((by rw [hg];exact (zz22 (by repeat (first|(with_reducible first|exact HB.out|apply zz03|apply zz01|apply zz02)|exact HB.out))) : w.heap.size ≤ gb337));clear HB;have HB:=n0_;have BK337:=n1_;have GW337:=n2_;have GE337:=n3_;clear n0_ n1_ n2_ n3_;clear hb hbox hg;have hcz6_0 : w5.cell? ⟨gb337,0,none⟩ = some (.int .i64 a0_0):=(zz18 BK337.out 0).trans rfl;have hcz6_1 : w5.cell? ⟨gb337,1,none⟩ = some (.int .i64 a0_1):=(zz18 BK337.out 1).trans rfl;have hcz6_2 : w5.cell? ⟨gb337,2,none⟩ = some (.bool a0_2):=(zz18 BK337.out 2).trans rfl;have hfz6_0:=zz17 BK337.out 0;have hfz6_1:=zz17 BK337.out 1;have hfz6_2:=zz17 BK337.out 2)|((with_reducible refine zz23 (f:=151) rfl ?_);refine zz25 (some 9) rfl rfl Tryz.func151 (by kernel_rfl) rfl #[.agg #[.int .i64 a0_0,.int .i64 a0_1,.bool a0_2],.int .i64 a1] rfl (by (try simp only [List.map_toArray,List.map_cons,List.map_nil]);first|done|rfl|(simp only [List.length_drop,List.length_take];rfl)) ?_;(with_reducible refine (almanackerref08_is.calls k a0_0 a0_1 a0_2 a1 true _ A3.out).mono ?_);rintro e w7 ⟨rfl,hb⟩;refine ⟨_,rfl,?_⟩;have n0_:=zz00 (zz34 (g:=gb337) (o:=.cells #[.int .i64 a0_0,.int .i64 a0_1,.bool a0_2] 93 (0,0)) (by (with_reducible repeat (first|refine zz07 ?_ _|refine zz09 ?_|refine zz08 ?_ _));exact BK337.out) hb);have n1_:=zz00 (zz21 (by repeat (first|(with_reducible first|exact HB.out|apply zz03|apply zz01|apply zz02|refine zz10 ?_ GE337.out)|exact HB.out)) hb);clear BK337;clear HB;have BK337:=n0_;have HB:=n1_;clear n0_ n1_;(try clear hb);(try clear hb2);(try clear hk);(try clear hi)))
  go_loopg [5,6] k (fun kq v5 v6 w'=>∃ (x5_1 : Int) (x6_1 : Int),v5 = .int .i64 x5_1 ∧ v6 = .int .i64 x6_1 ∧ Aside0 (almanackerref08_Ahead.l0 kq a1 x5_1 x6_1 a0_0 a0_1 a0_2 = some r) ∧ Aside0 (kq ≤ k) ∧ Aside0 (w'.heap[gb337]? = some (.cells #[.int .i64 a0_0,.int .i64 a0_1,.bool a0_2] 93 (0,0))) ∧ Aside0 (Below w.heap.size w w'))
  case atStart=>exact ⟨(0),(1),(by first|rfl|(simp;done)|(simp [*];done)),(by first|rfl|(simp;done)|(simp [*];done)),H',⟨Nat.le_refl _⟩,⟨by (with_reducible repeat (first|refine zz07 ?_ _|refine zz09 ?_|refine zz08 ?_ _));exact BK337.out⟩,⟨by repeat (first|(with_reducible first|exact HB.out|apply zz03|apply zz01|apply zz02|refine zz10 ?_ GE337.out)|exact HB.out)⟩⟩
  case round =>
   clear H'
   try clear c1
   try clear p2
   try clear c4
   try clear hcz6_0
   try clear hcz6_1
   try clear hcz6_2
   try clear hfz6_0
   try clear hfz6_1
   try clear hfz6_2
   obtain ⟨x5_1, x6_1, rfl, rfl, HA, HK1, BK337, HB⟩ := hrel
   cases gk with
   | zero => exact absurd HA.out (by simp [almanackerref08_Ahead.l0])
   | succ k1 =>
    have H := HA.out
    clear HA
    simp only [almanackerref08_Ahead.l0] at H
    by_cases c8 : x6_1 < a1
    ·
     rw [if_pos c8] at H
     have c8b0 : decide (x6_1 < a1) = true := decide_eq_true c8
     clear c8
     replace H := zz14.mp H
     obtain ⟨t339, A90, H⟩ := H
     replace H : (if 0 ≤ (wrap64 (x6_1 - 1)) then (if (wrap64 (x6_1 - 1)) < (t339.length : Int) then (almanackerref08_Ahead.l0 k1 a1 (wrap64 (x5_1 + (rd t339 (wrap64 (x6_1 - 1))))) (wrap64 (x6_1 + 1)) a0_0 a0_1 a0_2) else (none)) else (none)) = some r:=H
     have A9 := zz00 A90
     clear A90
     obtain ⟨ji10, hji10⟩ : ∃ j_ : Int, (wrap64 (x6_1 - 1)) = j_ := ⟨_, rfl⟩
     replace H : (if 0 ≤ (ji10) then (if (ji10) < (t339.length : Int) then (almanackerref08_Ahead.l0 k1 a1 (wrap64 (x5_1 + (rd t339 (ji10)))) (wrap64 (x6_1 + 1)) a0_0 a0_1 a0_2) else (none)) else (none)) = some r:=by first|(rw [hji10] at H;exact H)|(simp only [hji10] at H ⊢;exact H)
     (try rw [hji10] at A9)
     have hji10w : (IntKind.i64.wrap (x6_1 - 1)) = ji10 := (i64_w _).trans hji10
     by_cases c11 : 0 ≤ (ji10)
     ·
      rw [if_pos c11] at H
      have c11b0 : decide (0 ≤ (ji10)) = true := decide_eq_true c11
      clear c11
      by_cases c12 : (ji10) < (t339.length : Int)
      ·
       rw [if_pos c12] at H
       have c12b0 : decide ((ji10) < (t339.length : Int)) = true := decide_eq_true c12
       clear c12
       have H' := zz00 H
       clear H
       have hcz13_0 : wr.cell? ⟨gb337, 0, none⟩ = some (.int .i64 a0_0) := (zz18 BK337.out 0).trans rfl
       have hcz13_1 : wr.cell? ⟨gb337, 1, none⟩ = some (.int .i64 a0_1) := (zz18 BK337.out 1).trans rfl
       have hcz13_2 : wr.cell? ⟨gb337, 2, none⟩ = some (.bool a0_2) := (zz18 BK337.out 2).trans rfl
       have hfz13_0 := zz17 BK337.out 0
       have hfz13_1 := zz17 BK337.out 1
       have hfz13_2 := zz17 BK337.out 2
       go_wp2_with (first|((with_reducible refine zz23 (f:=152) rfl ?_);refine zz25 (some 18) rfl rfl Tryz.func152 (by kernel_rfl) rfl #[.agg #[.int .i64 a0_0,.int .i64 a0_1,.bool a0_2]] rfl (by (try simp only [List.map_toArray,List.map_cons,List.map_nil]);first|done|rfl|(simp only [List.length_drop,List.length_take];rfl)) ?_;(with_reducible refine (almanackerref08_lengths.calls k1 a0_0 a0_1 a0_2 t339 _ A9.out).mono ?_);rintro e w14 ⟨v340,rfl,ho0,hb⟩;refine ⟨_,rfl,?_⟩;have n0_:=zz00 (Kd.R_lower ho0 (zz22 (by repeat (first|(with_reducible first|exact HB.out|apply zz03|apply zz01|apply zz02|refine zz10 ?_ GE337.out)|exact HB.out))));have n1_:=zz00 (zz34 (g:=gb337) (o:=.cells #[.int .i64 a0_0,.int .i64 a0_1,.bool a0_2] 93 (0,0)) (by (with_reducible repeat (first|refine zz07 ?_ _|refine zz09 ?_|refine zz08 ?_ _));exact BK337.out) hb);have n2_:=zz00 (zz21 (by repeat (first|(with_reducible first|exact HB.out|apply zz03|apply zz01|apply zz02|refine zz10 ?_ GE337.out)|exact HB.out)) hb);clear BK337;clear HB;have HO341:=n0_;have BK337:=n1_;have HB:=n2_;clear n0_ n1_ n2_;(try clear hb);(try clear hb2);(try clear hk);(try clear hi);(try clear ho0);obtain ⟨Ao15,co15,eo15⟩:=Kd.R_slice HO341.out;subst eo15;have p342 : 0 ≤ ((ji10) : Int):=zz31 (by first|(with_reducible assumption)|assumption);have q342 : (ji10) < (t339.length : Int):=zz31 (by first|(with_reducible assumption)|assumption);obtain ⟨ad342,e342,hx342_0⟩:=Kd.at_int (Kd.R_reads' HO341.out).2.2 (ji10) p342 q342;cases e342;replace p342:=eq_true p342;replace q342:=eq_true q342))
       go_roundg k1
       case measure => have := HK1.out; omega
       case rel=>exact ⟨(wrap64 (x5_1 + (rd t339 (ji10)))),(wrap64 (x6_1 + 1)),(by first|rfl|(simp;done)|(simp only [← hji10] <;> (first|rfl|simp))|(simp [*];done)),(by first|rfl|(simp;done)|(simp [*];done)),H',⟨by have:=HK1.out;omega⟩,⟨by (with_reducible repeat (first|refine zz07 ?_ _|refine zz09 ?_|refine zz08 ?_ _));exact BK337.out⟩,⟨by repeat (first|(with_reducible first|exact HB.out|apply zz03|apply zz01|apply zz02|refine zz10 ?_ GE337.out)|exact HB.out)⟩⟩
      ·
       rw [if_neg c12] at H
       exact absurd H (by simp)
     ·
      rw [if_neg c11] at H
      exact absurd H (by simp)
    ·
     rw [if_neg c8] at H
     have c8b0 : decide (x6_1 < a1) = false := decide_eq_false c8
     clear c8
     obtain rfl := Option.some.inj H
     go_wp2
     go_ret
     exact ⟨by first|rfl|(simp [errW_none,errW_some] <;> rfl)|(simp [*,errW_none,errW_some] <;> rfl),by repeat (first|(with_reducible first|exact HB.out|apply zz03|apply zz01|apply zz02|refine zz10 ?_ GE337.out)|exact HB.out)⟩
 ·
  replace c4 := zz32.mpr c4
  subst c4
  have H1 : (some 0) = some r := by rw [if_neg (show ¬ (false = true) by decide)] at H; exact H
  clear H
  have H := H1
  clear H1
  obtain rfl := Option.some.inj H
  go_enter Tryz.func138, Tryz.ntmps138
  go_wp2_with (first|((with_reducible refine zz24 (N:=2) rfl ?_);refine zz30 ?hg (N:=2) ?hd (cs:=#[.int .i64 a0_0,.int .i64 a0_1,.bool a0_2]) (t:=93) ?hr ?_;(case hd=>rfl);(case hg=>rfl);(case hr=>first|(go_simp;done)|(go_simp;rfl));intro gb337 hg w16 hbox hb;have n0_:=zz00 (zz21 (by repeat (first|(with_reducible first|exact HB.out|apply zz03|apply zz01|apply zz02)|exact HB.out)) hb);have n1_:=zz00 (hbox);have n2_:=zz00 ((by rw [hg];exact (zz22 (by repeat (first|(with_reducible first|exact HB.out|apply zz03|apply zz01|apply zz02)|exact HB.out))) : w.heap.size ≤ gb337));have n3_:=zz00 ((by rw [hg];exact (zz22 (by repeat (first|(with_reducible first|exact HB.out|apply zz03|apply zz01|apply zz02)|exact HB.out))) : w.heap.size ≤ gb337));clear HB;have HB:=n0_;have BK337:=n1_;have GW337:=n2_;have GE337:=n3_;clear n0_ n1_ n2_ n3_;clear hb hbox hg;have hcz17_0 : w16.cell? ⟨gb337,0,none⟩ = some (.int .i64 a0_0):=(zz18 BK337.out 0).trans rfl;have hcz17_1 : w16.cell? ⟨gb337,1,none⟩ = some (.int .i64 a0_1):=(zz18 BK337.out 1).trans rfl;have hcz17_2 : w16.cell? ⟨gb337,2,none⟩ = some (.bool a0_2):=(zz18 BK337.out 2).trans rfl;have hfz17_0:=zz17 BK337.out 0;have hfz17_1:=zz17 BK337.out 1;have hfz17_2:=zz17 BK337.out 2)|((with_reducible refine zz23 (f:=151) rfl ?_);refine zz25 (some 9) rfl rfl Tryz.func151 (by kernel_rfl) rfl #[.agg #[.int .i64 a0_0,.int .i64 a0_1,.bool a0_2],.int .i64 a1] rfl (by (try simp only [List.map_toArray,List.map_cons,List.map_nil]);first|done|rfl|(simp only [List.length_drop,List.length_take];rfl)) ?_;(with_reducible refine (almanackerref08_is.calls k a0_0 a0_1 a0_2 a1 false _ A3.out).mono ?_);rintro e w18 ⟨rfl,hb⟩;refine ⟨_,rfl,?_⟩;have n0_:=zz00 (zz34 (g:=gb337) (o:=.cells #[.int .i64 a0_0,.int .i64 a0_1,.bool a0_2] 93 (0,0)) (by (with_reducible repeat (first|refine zz07 ?_ _|refine zz09 ?_|refine zz08 ?_ _));exact BK337.out) hb);have n1_:=zz00 (zz21 (by repeat (first|(with_reducible first|exact HB.out|apply zz03|apply zz01|apply zz02|refine zz10 ?_ GE337.out)|exact HB.out)) hb);clear BK337;clear HB;have BK337:=n0_;have HB:=n1_;clear n0_ n1_;(try clear hb);(try clear hb2);(try clear hk);(try clear hi)))
  go_ret
  exact ⟨by first|rfl|(simp [errW_none,errW_some] <;> rfl)|(simp [*,errW_none,errW_some] <;> rfl),by repeat (first|(with_reducible first|exact HB.out|apply zz03|apply zz01|apply zz02|refine zz10 ?_ GE337.out)|exact HB.out)⟩

def almanackerref10_ToDay.f (k : Nat) (a0_0 : Int) (a0_1 : Int) (a0_2 : Bool) (a0_3 : Int) : Option (Int × Int) := (almanackerref10_Check.f k a0_0 a0_1 a0_2 a0_3).bind fun t344 => (if t344 = 0 then ((almanackerref07_Of.f k a0_0).bind fun bt345 => ((almanackerref09_Place.f k bt345.2.2.1 a0_1 a0_2).bind fun bt350 => ((almanackerref05_First.f k a0_0).bind fun bt352 => ((almanackerref08_Ahead.f k bt345.1 bt345.2.1 bt345.2.2.1 bt350.1).bind fun t354 => (some (wrap64 ((wrap64 ((wrap64 (bt352.1 + t354)) + a0_3)) - 1), 0)))))) else (some (0, t344)))
def almanackerref10_ToDay.T7 : Bool × List (List Nat × List Nat) := (true, [([], []), ([], []), ([], []), ([1, 2], [1, 2]), ([0, 3], [0, 3]), ([], []), ([5], [5]), ([4, 6], [4, 6]), ([7], [7]), ([8, 3, 0, 1, 2, 3, 4, 5, 6, 7, 8], [8]), ([9, 0, 1, 2, 3, 4, 5, 6, 7, 8, 9], [])])
def almanackerref10_ToDay.B7 : List Nat := [0, 0, 0, 6, 15, 0, 32, 127, 255, 511, 1023]
theorem almanackerref10_ToDay.tab7 : rtab .any (opsOf Tryz.f91 7) = almanackerref10_ToDay.T7 := by kernel_rfl
theorem almanackerref10_ToDay.bits7 : waitsOk almanackerref10_ToDay.T7.2 almanackerref10_ToDay.B7 = true := by kernel_rfl
set_option maxHeartbeats 8000000 in
set_option maxRecDepth 100000 in
theorem almanackerref10_ToDay.calls (k : Nat) (a0_0 : Int) (a0_1 : Int) (a0_2 : Bool) (a0_3 : Int) (r1 : Int) (r2 : Int) (w : World) (h : almanackerref10_ToDay.f k a0_0 a0_1 a0_2 a0_3 = some (r1, r2)) :
  Calls Tryz.prog 91 #[.agg #[.int .i64 a0_0, .int .i64 a0_1, .bool a0_2, .int .i64 a0_3]] w fun e w' => e = .returned (.tuple #[.int .i64 r1, .int .i64 r2]) ∧ Below w.heap.size w w' := by
 have hu34 := Tryz.underlying34
 have hu93 := Tryz.underlying93
 have hu32 := Tryz.underlying32
 have HB := zz00 (Below.refl w.heap.size w)
 have H : ((almanackerref10_Check.f k a0_0 a0_1 a0_2 a0_3).bind fun t344=>(if t344 = 0 then ((almanackerref07_Of.f k a0_0).bind fun bt345=>((almanackerref09_Place.f k bt345.2.2.1 a0_1 a0_2).bind fun bt350=>((almanackerref05_First.f k a0_0).bind fun bt352=>((almanackerref08_Ahead.f k bt345.1 bt345.2.1 bt345.2.2.1 bt350.1).bind fun t354=>(some (wrap64 ((wrap64 ((wrap64 (bt352.1 + t354)) + a0_3)) - 1),0)))))) else (some (0,t344)))) = some (r1,r2):=h
 clear h
 replace H := zz14.mp H
 obtain ⟨t344, A20, H⟩ := H
 replace H : (if t344 = 0 then ((almanackerref07_Of.f k a0_0).bind fun bt345=>((almanackerref09_Place.f k bt345.2.2.1 a0_1 a0_2).bind fun bt350=>((almanackerref05_First.f k a0_0).bind fun bt352=>((almanackerref08_Ahead.f k bt345.1 bt345.2.1 bt345.2.2.1 bt350.1).bind fun t354=>(some (wrap64 ((wrap64 ((wrap64 (bt352.1 + t354)) + a0_3)) - 1),0)))))) else (some (0,t344))) = some (r1,r2):=H
 have A2 := zz00 A20
 clear A20
 by_cases c3 : t344 = 0
 ·
  rw [if_pos c3] at H
  have c3b0 : (t344 == 0) = true := zz29.mpr c3
  have c3b1 : (t344 != 0) = false := zz26.mpr c3
  clear c3
  replace H := zz14.mp H
  obtain ⟨⟨t345, t346, t347, t348⟩, A40, H⟩ := H
  replace H : ((almanackerref09_Place.f k t347 a0_1 a0_2).bind fun bt350=>((almanackerref05_First.f k a0_0).bind fun bt352=>((almanackerref08_Ahead.f k t345 t346 t347 bt350.1).bind fun t354=>(some (wrap64 ((wrap64 ((wrap64 (bt352.1 + t354)) + a0_3)) - 1),0))))) = some (r1,r2):=H
  have A4 := zz00 A40
  clear A40
  replace H := zz14.mp H
  obtain ⟨⟨t350, t351⟩, A50, H⟩ := H
  replace H : ((almanackerref05_First.f k a0_0).bind fun bt352=>((almanackerref08_Ahead.f k t345 t346 t347 t350).bind fun t354=>(some (wrap64 ((wrap64 ((wrap64 (bt352.1 + t354)) + a0_3)) - 1),0)))) = some (r1,r2):=H
  have A5 := zz00 A50
  clear A50
  replace H := zz14.mp H
  obtain ⟨⟨t352, t353⟩, A60, H⟩ := H
  replace H : ((almanackerref08_Ahead.f k t345 t346 t347 t350).bind fun t354 => (some (wrap64 ((wrap64 ((wrap64 (t352 + t354)) + a0_3)) - 1), 0))) = some (r1, r2) := H
  have A6 := zz00 A60
  clear A60
  replace H := zz14.mp H
  obtain ⟨t354, A70, H⟩ := H
  replace H : (some (wrap64 ((wrap64 ((wrap64 (t352 + t354)) + a0_3)) - 1), 0)) = some (r1, r2) := H
  have A7 := zz00 A70
  clear A70
  simp only [zz15, zz16] at H
  obtain ⟨rfl, rfl⟩ := H
  go_enter Tryz.func91, Tryz.ntmps91
  try go_wp2_with (first|((with_reducible refine zz24 (N:=1) rfl ?_);refine zz30 ?hg (N:=1) ?hd (cs:=#[.int .i64 a0_0,.int .i64 a0_1,.bool a0_2,.int .i64 a0_3]) (t:=34) ?hr ?_;(case hd=>rfl);(case hg=>rfl);(case hr=>first|(go_simp;done)|(go_simp;rfl));intro gb343 hg w8 hbox hb;have n0_:=zz00 (zz21 (by repeat (first|(with_reducible first|exact HB.out|apply zz03|apply zz01|apply zz02)|exact HB.out)) hb);have n1_:=zz00 (hbox);have n2_:=zz00 ((by rw [hg];exact (zz22 (by repeat (first|(with_reducible first|exact HB.out|apply zz03|apply zz01|apply zz02)|exact HB.out))) : w.heap.size ≤ gb343));have n3_:=zz00 ((by rw [hg];exact (zz22 (by repeat (first|(with_reducible first|exact HB.out|apply zz03|apply zz01|apply zz02)|exact HB.out))) : w.heap.size ≤ gb343));clear HB;have HB:=n0_;have BK343:=n1_;have GW343:=n2_;have GE343:=n3_;clear n0_ n1_ n2_ n3_;clear hb hbox hg;have hcz9_0 : w8.cell? ⟨gb343,0,none⟩ = some (.int .i64 a0_0):=(zz18 BK343.out 0).trans rfl;have hcz9_1 : w8.cell? ⟨gb343,1,none⟩ = some (.int .i64 a0_1):=(zz18 BK343.out 1).trans rfl;have hcz9_2 : w8.cell? ⟨gb343,2,none⟩ = some (.bool a0_2):=(zz18 BK343.out 2).trans rfl;have hcz9_3 : w8.cell? ⟨gb343,3,none⟩ = some (.int .i64 a0_3):=(zz18 BK343.out 3).trans rfl;have hfz9_0:=zz17 BK343.out 0;have hfz9_1:=zz17 BK343.out 1;have hfz9_2:=zz17 BK343.out 2;have hfz9_3:=zz17 BK343.out 3)|((with_reducible refine zz23 (f:=22) rfl ?_);refine zz25 (some 12) rfl rfl Tryz.func22 (by kernel_rfl) rfl #[.agg #[.int .i64 a0_0,.int .i64 a0_1,.bool a0_2,.int .i64 a0_3]] rfl (by (try simp only [List.map_toArray,List.map_cons,List.map_nil]);first|done|rfl|(simp only [List.length_drop,List.length_take];rfl)) ?_;(with_reducible refine (almanackerref10_Check.calls k a0_0 a0_1 a0_2 a0_3 t344 _ A2.out).mono ?_);rintro e w10 ⟨rfl,hb⟩;refine ⟨_,rfl,?_⟩;have n0_:=zz00 (zz34 (g:=gb343) (o:=.cells #[.int .i64 a0_0,.int .i64 a0_1,.bool a0_2,.int .i64 a0_3] 34 (0,0)) (by (with_reducible repeat (first|refine zz07 ?_ _|refine zz09 ?_|refine zz08 ?_ _));exact BK343.out) hb);have n1_:=zz00 (zz21 (by repeat (first|(with_reducible first|exact HB.out|apply zz03|apply zz01|apply zz02|refine zz10 ?_ GE343.out)|exact HB.out)) hb);clear BK343;clear HB;have BK343:=n0_;have HB:=n1_;clear n0_ n1_;(try clear hb);(try clear hb2);(try clear hk);(try clear hi);have hcz11_0 : w10.cell? ⟨gb343,0,none⟩ = some (.int .i64 a0_0):=(zz18 BK343.out 0).trans rfl;have hcz11_1 : w10.cell? ⟨gb343,1,none⟩ = some (.int .i64 a0_1):=(zz18 BK343.out 1).trans rfl;have hcz11_2 : w10.cell? ⟨gb343,2,none⟩ = some (.bool a0_2):=(zz18 BK343.out 2).trans rfl;have hcz11_3 : w10.cell? ⟨gb343,3,none⟩ = some (.int .i64 a0_3):=(zz18 BK343.out 3).trans rfl;have hfz11_0:=zz17 BK343.out 0;have hfz11_1:=zz17 BK343.out 1;have hfz11_2:=zz17 BK343.out 2;have hfz11_3:=zz17 BK343.out 3)|((with_reducible refine zz23 (f:=97) rfl ?_);refine zz25 (some 19) rfl rfl Tryz.func97 (by kernel_rfl) rfl #[.int .i64 a0_0] rfl (by (try simp only [List.map_toArray,List.map_cons,List.map_nil]);first|done|rfl|(simp only [List.length_drop,List.length_take];rfl)) ?_;(with_reducible refine (almanackerref07_Of.calls k a0_0 t345 t346 t347 t348 _ A4.out).mono ?_);rintro e w12 ⟨rfl,hb⟩;refine ⟨_,rfl,?_⟩;have n0_:=zz00 (zz34 (g:=gb343) (o:=.cells #[.int .i64 a0_0,.int .i64 a0_1,.bool a0_2,.int .i64 a0_3] 34 (0,0)) (by (with_reducible repeat (first|refine zz07 ?_ _|refine zz09 ?_|refine zz08 ?_ _));exact BK343.out) hb);have n1_:=zz00 (zz21 (by repeat (first|(with_reducible first|exact HB.out|apply zz03|apply zz01|apply zz02|refine zz10 ?_ GE343.out)|exact HB.out)) hb);clear BK343;clear HB;have BK343:=n0_;have HB:=n1_;clear n0_ n1_;(try clear hb);(try clear hb2);(try clear hk);(try clear hi))|((with_reducible refine zz24 (N:=5) rfl ?_);refine zz30 ?hg (N:=5) ?hd (cs:=#[.int .i64 0,.int .i64 0,.bool false]) (t:=93) ?hr ?_;(case hd=>rfl);(case hg=>rfl);(case hr=>first|(go_simp;done)|(go_simp;rfl));intro gb349 hg w13 hbox hb;have n0_:=zz00 (zz34 (g:=gb343) (o:=.cells #[.int .i64 a0_0,.int .i64 a0_1,.bool a0_2,.int .i64 a0_3] 34 (0,0)) (by (with_reducible repeat (first|refine zz07 ?_ _|refine zz09 ?_|refine zz08 ?_ _));exact BK343.out) hb);have n1_:=zz00 (zz21 (by repeat (first|(with_reducible first|exact HB.out|apply zz03|apply zz01|apply zz02|refine zz10 ?_ GE343.out)|exact HB.out)) hb);have n2_:=zz00 (hbox);have n3_:=zz00 ((by rw [hg];exact (zz22 (by repeat (first|(with_reducible first|exact HB.out|apply zz03|apply zz01|apply zz02|refine zz10 ?_ GE343.out)|exact HB.out))) : w.heap.size ≤ gb349));have n4_:=zz00 ((by rw [hg];exact (zz22 (by repeat (first|(with_reducible first|exact HB.out|apply zz03|apply zz01|apply zz02|refine zz10 ?_ GE343.out)|exact HB.out))) : w.heap.size ≤ gb349));have n5_:=zz00 ((by rw [hg];exact Nat.ne_of_lt (blk_lt (g:=gb343) (o:=.cells #[.int .i64 a0_0,.int .i64 a0_1,.bool a0_2,.int .i64 a0_3] 34 (0,0)) (by (with_reducible repeat (first|refine zz07 ?_ _|refine zz09 ?_|refine zz08 ?_ _));exact BK343.out)) : gb343 ≠ gb349));have n6_:=zz00 ((by rw [hg];exact Nat.ne_of_gt (blk_lt (g:=gb343) (o:=.cells #[.int .i64 a0_0,.int .i64 a0_1,.bool a0_2,.int .i64 a0_3] 34 (0,0)) (by (with_reducible repeat (first|refine zz07 ?_ _|refine zz09 ?_|refine zz08 ?_ _));exact BK343.out)) : gb349 ≠ gb343));clear BK343;clear HB;have BK343:=n0_;have HB:=n1_;have BK349:=n2_;have GW349:=n3_;have GE349:=n4_;have NB343_349:=n5_;have NB349_343:=n6_;clear n0_ n1_ n2_ n3_ n4_ n5_ n6_;clear hb hbox hg;have hnb14:=NB349_343.out;have hnc14:=NB343_349.out;have hcz15_0 : w13.cell? ⟨gb349,0,none⟩ = some (.int .i64 0):=(zz18 BK349.out 0).trans rfl;have hcz15_1 : w13.cell? ⟨gb349,1,none⟩ = some (.int .i64 0):=(zz18 BK349.out 1).trans rfl;have hcz15_2 : w13.cell? ⟨gb349,2,none⟩ = some (.bool false):=(zz18 BK349.out 2).trans rfl;have hfz15_0:=zz17 BK349.out 0;have hfz15_1:=zz17 BK349.out 1;have hfz15_2:=zz17 BK349.out 2;have hcz16_0 : w13.cell? ⟨gb343,0,none⟩ = some (.int .i64 a0_0):=(zz18 BK343.out 0).trans rfl;have hcz16_1 : w13.cell? ⟨gb343,1,none⟩ = some (.int .i64 a0_1):=(zz18 BK343.out 1).trans rfl;have hcz16_2 : w13.cell? ⟨gb343,2,none⟩ = some (.bool a0_2):=(zz18 BK343.out 2).trans rfl;have hcz16_3 : w13.cell? ⟨gb343,3,none⟩ = some (.int .i64 a0_3):=(zz18 BK343.out 3).trans rfl;have hfz16_0:=zz17 BK343.out 0;have hfz16_1:=zz17 BK343.out 1;have hfz16_2:=zz17 BK343.out 2;have hfz16_3:=zz17 BK343.out 3)|((with_reducible refine zz23 (f:=104) rfl ?_);refine zz25 (some 27) rfl rfl Tryz.func104 (by kernel_rfl) rfl #[.bool t347,.agg #[.int .i64 a0_1,.bool a0_2]] rfl (by (try simp only [List.map_toArray,List.map_cons,List.map_nil]);first|done|rfl|(simp only [List.length_drop,List.length_take];rfl)) ?_;(with_reducible refine (almanackerref09_Place.calls k t347 a0_1 a0_2 t350 t351 _ A5.out).mono ?_);rintro e w17 ⟨rfl,hb⟩;refine ⟨_,rfl,?_⟩;have n0_:=zz00 (zz34 (g:=gb343) (o:=.cells #[.int .i64 a0_0,.int .i64 a0_1,.bool a0_2,.int .i64 a0_3] 34 (0,0)) (by (with_reducible repeat (first|refine zz07 ?_ _|refine zz09 ?_|refine zz08 ?_ _));refine zz33 ?_ NB343_349.out _;(with_reducible repeat (first|refine zz07 ?_ _|refine zz09 ?_|refine zz08 ?_ _));refine zz33 ?_ NB343_349.out _;(with_reducible repeat (first|refine zz07 ?_ _|refine zz09 ?_|refine zz08 ?_ _));refine zz33 ?_ NB343_349.out _;(with_reducible repeat (first|refine zz07 ?_ _|refine zz09 ?_|refine zz08 ?_ _));exact BK343.out) hb);have n1_:=zz00 (zz34 (g:=gb349) (o:=.cells #[.int .i64 t345,.int .i64 t346,.bool t347] 93 (0,0)) (by (with_reducible repeat (first|refine zz07 ?_ _|refine zz09 ?_|refine zz08 ?_ _));refine zz35 (cs:=#[.int .i64 t345,.int .i64 t346,.bool false]) ?_ 2 _ rfl;(with_reducible repeat (first|refine zz07 ?_ _|refine zz09 ?_|refine zz08 ?_ _));refine zz35 (cs:=#[.int .i64 t345,.int .i64 0,.bool false]) ?_ 1 _ rfl;(with_reducible repeat (first|refine zz07 ?_ _|refine zz09 ?_|refine zz08 ?_ _));refine zz35 (cs:=#[.int .i64 0,.int .i64 0,.bool false]) ?_ 0 _ rfl;(with_reducible repeat (first|refine zz07 ?_ _|refine zz09 ?_|refine zz08 ?_ _));exact BK349.out) hb);have n2_:=zz00 (zz21 (by repeat (first|(with_reducible first|exact HB.out|apply zz03|apply zz01|apply zz02|refine zz10 ?_ GE343.out|refine zz10 ?_ GE349.out)|exact HB.out)) hb);clear BK343;clear BK349;clear HB;have BK343:=n0_;have BK349:=n1_;have HB:=n2_;clear n0_ n1_ n2_;(try clear hb);(try clear hb2);(try clear hk);(try clear hi);have hcz18_0 : w17.cell? ⟨gb343,0,none⟩ = some (.int .i64 a0_0):=(zz18 BK343.out 0).trans rfl;have hcz18_1 : w17.cell? ⟨gb343,1,none⟩ = some (.int .i64 a0_1):=(zz18 BK343.out 1).trans rfl;have hcz18_2 : w17.cell? ⟨gb343,2,none⟩ = some (.bool a0_2):=(zz18 BK343.out 2).trans rfl;have hcz18_3 : w17.cell? ⟨gb343,3,none⟩ = some (.int .i64 a0_3):=(zz18 BK343.out 3).trans rfl;have hfz18_0:=zz17 BK343.out 0;have hfz18_1:=zz17 BK343.out 1;have hfz18_2:=zz17 BK343.out 2;have hfz18_3:=zz17 BK343.out 3)|((with_reducible refine zz23 (f:=98) rfl ?_);refine zz25 (some 33) rfl rfl Tryz.func98 (by kernel_rfl) rfl #[.int .i64 a0_0] rfl (by (try simp only [List.map_toArray,List.map_cons,List.map_nil]);first|done|rfl|(simp only [List.length_drop,List.length_take];rfl)) ?_;(with_reducible refine (almanackerref05_First.calls k a0_0 t352 t353 _ A6.out).mono ?_);rintro e w19 ⟨rfl,hb⟩;refine ⟨_,rfl,?_⟩;have n0_:=zz00 (zz34 (g:=gb343) (o:=.cells #[.int .i64 a0_0,.int .i64 a0_1,.bool a0_2,.int .i64 a0_3] 34 (0,0)) (by (with_reducible repeat (first|refine zz07 ?_ _|refine zz09 ?_|refine zz08 ?_ _));exact BK343.out) hb);have n1_:=zz00 (zz34 (g:=gb349) (o:=.cells #[.int .i64 t345,.int .i64 t346,.bool t347] 93 (0,0)) (by (with_reducible repeat (first|refine zz07 ?_ _|refine zz09 ?_|refine zz08 ?_ _));exact BK349.out) hb);have n2_:=zz00 (zz21 (by repeat (first|(with_reducible first|exact HB.out|apply zz03|apply zz01|apply zz02|refine zz10 ?_ GE343.out|refine zz10 ?_ GE349.out)|exact HB.out)) hb);clear BK343;clear BK349;clear HB;have BK343:=n0_;have BK349:=n1_;have HB:=n2_;clear n0_ n1_ n2_;(try clear hb);(try clear hb2);(try clear hk);(try clear hi)))
  have n0_ := zz00 (zz09 BK343.out)
  have n1_ := zz00 (zz09 BK349.out)
  have n2_ := zz00 (zz02 HB.out)
  clear BK343
  clear BK349
  clear HB
  have BK343 := n0_
  have BK349 := n1_
  have HB := n2_
  clear n0_ n1_ n2_
  refine start_ (n:=11) (S:=fun w'=>w'.cell? ⟨gb349,0,none⟩ = some (.int .i64 t345) ∧ w'.cell? ⟨gb349,1,none⟩ = some (.int .i64 t346) ∧ w'.cell? ⟨gb349,2,none⟩ = some (.bool t347) ∧ w'.cell? ⟨gb343,0,none⟩ = some (.int .i64 a0_0) ∧ w'.cell? ⟨gb343,1,none⟩ = some (.int .i64 a0_1) ∧ w'.cell? ⟨gb343,2,none⟩ = some (.bool a0_2) ∧ w'.cell? ⟨gb343,3,none⟩ = some (.int .i64 a0_3)) (ds:=[]) #[false,false,false,false,false,false,false,false,false,false,false] (by kernel_rfl) rfl rfl ⟨(zz18 BK349.out 0).trans rfl,(zz18 BK349.out 1).trans rfl,(zz18 BK349.out 2).trans rfl,(zz18 BK343.out 0).trans rfl,(zz18 BK343.out 1).trans rfl,(zz18 BK343.out 2).trans rfl,(zz18 BK343.out 3).trans rfl⟩ (fun hHeld=>?_);refine with_tabW almanackerref10_ToDay.tab7 almanackerref10_ToDay.bits7 (fun HT_ HW_=>?_)
  generalize w19.drew = w20 at BK343 BK349 HB hHeld ⊢
  refine pure_ (i:=0) (N:=some 36) (v:=?_) (a':=?_) #[true,false,false,false,false,false,false,false,false,false,false] rfl rfl (any_of HT_.out (by kernel_rfl)) (fun _ _ _ h=>h) (Or.inl ⟨by rfl,?_⟩) ?_ ?_
  rotate_left
  ·
   intro w'
   go_simp
   with_reducible rfl
  rotate_left
  ·
   simp only [Act.put, zz11, zz12, zz13, i64_w, i32_w]
   rfl
  refine pure_ (i:=2) (N:=some 38) (v:=?_) (a':=?_) #[true,false,true,false,false,false,false,false,false,false,false] rfl rfl (any_of HT_.out (by kernel_rfl)) (fun _ _ _ h=>h) (Or.inl ⟨by rfl,?_⟩) ?_ ?_
  rotate_left
  ·
   intro w'
   go_simp
   with_reducible rfl
  rotate_left
  ·
   simp only [Act.put, zz11, zz12, zz13, i64_w, i32_w]
   rfl
  refine pure_ (i:=5) (N:=some 41) (v:=?_) (a':=?_) #[true,false,true,false,false,true,false,false,false,false,false] rfl rfl (any_of HT_.out (by kernel_rfl)) (fun _ _ _ h=>h) (Or.inl ⟨by rfl,?_⟩) ?_ ?_
  rotate_left
  ·
   intro w'
   go_simp
   with_reducible rfl
  rotate_left
  ·
   simp only [Act.put, zz11, zz12, zz13, i64_w, i32_w]
   rfl
  refine take_ (i:=1) (N:=some 37) (v:=?_) (a':=?_) #[true,true,true,false,false,true,false,false,false,false,false] rfl rfl (take_ofW HT_.out HW_.out (by kernel_rfl)) (fun _ _ _ h=>h) (Or.inl ⟨by rfl,?_⟩) hHeld ?_ ?_
  rotate_left
  ·
   rintro w' ⟨s0, s1, s2, s3, s4, s5, s6⟩
   go_simp
   with_reducible rfl
  rotate_left
  ·
   simp only [Act.put, zz11, zz12, zz13, i64_w, i32_w]
   rfl
  refine take_ (i:=6) (N:=some 42) (v:=?_) (a':=?_) #[true,true,true,false,false,true,true,false,false,false,false] rfl rfl (take_ofW HT_.out HW_.out (by kernel_rfl)) (fun _ _ _ h=>h) (Or.inl ⟨by rfl,?_⟩) hHeld ?_ ?_
  rotate_left
  ·
   rintro w' ⟨s0, s1, s2, s3, s4, s5, s6⟩
   go_simp
   with_reducible rfl
  rotate_left
  ·
   simp only [Act.put, zz11, zz12, zz13, i64_w, i32_w]
   rfl
  refine one_ (i := 3) (N := some 39) #[true, true, true, true, false, true, true, false, false, false, false] rfl rfl (one_of HT_.out (by kernel_rfl)) (by decide) (fun K hK => ?_)
  refine goes_ Tryz.func138 (by kernel_rfl) rfl #[.agg #[.int .i64 t345,.int .i64 t346,.bool t347],.int .i64 t350] (by rfl) rfl rfl (by (try simp only [List.map_toArray,List.map_cons,List.map_nil]);first|done|rfl|(simp only [List.length_drop,List.length_take];rfl)) ?_
  with_reducible refine (almanackerref08_Ahead.calls k t345 t346 t347 t350 t354 _ A7.out).mono ?_
  rintro e w21 ⟨rfl, hb⟩
  refine ⟨_, rfl, ?_⟩
  have n0_:=zz00 (zz34 (g:=gb343) (o:=.cells #[.int .i64 a0_0,.int .i64 a0_1,.bool a0_2,.int .i64 a0_3] 34 (0,0)) (by (with_reducible repeat (first|refine zz07 ?_ _|refine zz09 ?_|refine zz08 ?_ _));exact BK343.out) hb)
  have n1_:=zz00 (zz34 (g:=gb349) (o:=.cells #[.int .i64 t345,.int .i64 t346,.bool t347] 93 (0,0)) (by (with_reducible repeat (first|refine zz07 ?_ _|refine zz09 ?_|refine zz08 ?_ _));exact BK349.out) hb)
  have n2_:=zz00 (zz21 (by repeat (first|(with_reducible first|exact HB.out|apply zz03|apply zz01|apply zz02|refine zz10 ?_ GE343.out|refine zz10 ?_ GE349.out)|exact HB.out)) hb)
  clear BK343
  clear BK349
  clear HB
  have BK343 := n0_
  have BK349 := n1_
  have HB := n2_
  clear n0_ n1_ n2_
  (try clear hb)
  (try clear hb2)
  (try clear hk)
  (try clear hi)
  refine hK.out _ _ ⟨(zz18 BK349.out 0).trans rfl,(zz18 BK349.out 1).trans rfl,(zz18 BK349.out 2).trans rfl,(zz18 BK343.out 0).trans rfl,(zz18 BK343.out 1).trans rfl,(zz18 BK343.out 2).trans rfl,(zz18 BK343.out 3).trans rfl⟩ (fun hHeld=>?_)
  clear hK K
  refine norm_ (a' := ?_) ?_ ?_
  rotate_left
  ·
   show Act.put _ (some 39) _ = _
   simp only [Act.put, zz11, zz12, zz13, i64_w, i32_w]
   rfl
  refine pure_ (i:=4) (N:=some 40) (v:=?_) (a':=?_) #[true,true,true,true,true,true,true,false,false,false,false] rfl rfl (any_of HT_.out (by kernel_rfl)) (fun _ _ _ h=>h) (Or.inl ⟨by rfl,?_⟩) ?_ ?_
  rotate_left
  ·
   intro w'
   go_simp
   with_reducible rfl
  rotate_left
  ·
   simp only [Act.put, zz11, zz12, zz13, i64_w, i32_w]
   rfl
  refine pure_ (i:=7) (N:=some 43) (v:=?_) (a':=?_) #[true,true,true,true,true,true,true,true,false,false,false] rfl rfl (any_of HT_.out (by kernel_rfl)) (fun _ _ _ h=>h) (Or.inl ⟨by rfl,?_⟩) ?_ ?_
  rotate_left
  ·
   intro w'
   go_simp
   with_reducible rfl
  rotate_left
  ·
   simp only [Act.put, zz11, zz12, zz13, i64_w, i32_w]
   rfl
  refine pure_ (i:=8) (N:=some 44) (v:=?_) (a':=?_) #[true,true,true,true,true,true,true,true,true,false,false] rfl rfl (any_of HT_.out (by kernel_rfl)) (fun _ _ _ h=>h) (Or.inl ⟨by rfl,?_⟩) ?_ ?_
  rotate_left
  ·
   intro w'
   go_simp
   with_reducible rfl
  rotate_left
  ·
   simp only [Act.put, zz11, zz12, zz13, i64_w, i32_w]
   rfl
  refine pure_ (i:=9) (N:=some 2) (v:=?_) (a':=?_) #[true,true,true,true,true,true,true,true,true,true,false] rfl rfl (any_of HT_.out (by kernel_rfl)) (fun _ _ _ h=>h) (Or.inl ⟨by rfl,?_⟩) ?_ ?_
  rotate_left
  ·
   intro w'
   go_simp
   with_reducible rfl
  rotate_left
  ·
   simp only [Act.put, zz11, zz12, zz13, i64_w, i32_w]
   rfl
  refine pure_ (i:=10) (N:=some 3) (v:=?_) (a':=?_) #[true,true,true,true,true,true,true,true,true,true,true] rfl rfl (any_of HT_.out (by kernel_rfl)) (fun _ _ _ h=>h) (Or.inl ⟨by rfl,?_⟩) ?_ ?_
  rotate_left
  ·
   intro w'
   go_simp
   with_reducible rfl
  rotate_left
  ·
   simp only [Act.put, zz11, zz12, zz13, i64_w, i32_w]
   rfl
  refine done_ (done_of HT_.out (by kernel_rfl)) ?_
  try go_wp2
  go_ret2
  exact ⟨by first|rfl|(simp [errW_none,errW_some] <;> rfl)|(simp [*,errW_none,errW_some] <;> rfl),by repeat (first|(with_reducible first|exact HB.out|apply zz03|apply zz01|apply zz02|refine zz10 ?_ GE343.out|refine zz10 ?_ GE349.out)|exact HB.out)⟩
 ·
  rw [if_neg c3] at H
  have c3b0 : (t344 == 0) = false := zz27.mpr c3
  have c3b1 : (t344 != 0) = true := zz28.mpr c3
  simp only [zz15, zz16] at H
  obtain ⟨rfl, rfl⟩ := H
  go_enter Tryz.func91, Tryz.ntmps91
  go_wp2_with (first|((with_reducible refine zz24 (N:=1) rfl ?_);refine zz30 ?hg (N:=1) ?hd (cs:=#[.int .i64 a0_0,.int .i64 a0_1,.bool a0_2,.int .i64 a0_3]) (t:=34) ?hr ?_;(case hd=>rfl);(case hg=>rfl);(case hr=>first|(go_simp;done)|(go_simp;rfl));intro gb343 hg w22 hbox hb;have n0_:=zz00 (zz21 (by repeat (first|(with_reducible first|exact HB.out|apply zz03|apply zz01|apply zz02)|exact HB.out)) hb);have n1_:=zz00 (hbox);have n2_:=zz00 ((by rw [hg];exact (zz22 (by repeat (first|(with_reducible first|exact HB.out|apply zz03|apply zz01|apply zz02)|exact HB.out))) : w.heap.size ≤ gb343));have n3_:=zz00 ((by rw [hg];exact (zz22 (by repeat (first|(with_reducible first|exact HB.out|apply zz03|apply zz01|apply zz02)|exact HB.out))) : w.heap.size ≤ gb343));clear HB;have HB:=n0_;have BK343:=n1_;have GW343:=n2_;have GE343:=n3_;clear n0_ n1_ n2_ n3_;clear hb hbox hg;have hcz23_0 : w22.cell? ⟨gb343,0,none⟩ = some (.int .i64 a0_0):=(zz18 BK343.out 0).trans rfl;have hcz23_1 : w22.cell? ⟨gb343,1,none⟩ = some (.int .i64 a0_1):=(zz18 BK343.out 1).trans rfl;have hcz23_2 : w22.cell? ⟨gb343,2,none⟩ = some (.bool a0_2):=(zz18 BK343.out 2).trans rfl;have hcz23_3 : w22.cell? ⟨gb343,3,none⟩ = some (.int .i64 a0_3):=(zz18 BK343.out 3).trans rfl;have hfz23_0:=zz17 BK343.out 0;have hfz23_1:=zz17 BK343.out 1;have hfz23_2:=zz17 BK343.out 2;have hfz23_3:=zz17 BK343.out 3)|((with_reducible refine zz23 (f:=22) rfl ?_);refine zz25 (some 12) rfl rfl Tryz.func22 (by kernel_rfl) rfl #[.agg #[.int .i64 a0_0,.int .i64 a0_1,.bool a0_2,.int .i64 a0_3]] rfl (by (try simp only [List.map_toArray,List.map_cons,List.map_nil]);first|done|rfl|(simp only [List.length_drop,List.length_take];rfl)) ?_;(with_reducible refine (almanackerref10_Check.calls k a0_0 a0_1 a0_2 a0_3 t344 _ A2.out).mono ?_);rintro e w24 ⟨rfl,hb⟩;refine ⟨_,rfl,?_⟩;have n0_:=zz00 (zz34 (g:=gb343) (o:=.cells #[.int .i64 a0_0,.int .i64 a0_1,.bool a0_2,.int .i64 a0_3] 34 (0,0)) (by (with_reducible repeat (first|refine zz07 ?_ _|refine zz09 ?_|refine zz08 ?_ _));exact BK343.out) hb);have n1_:=zz00 (zz21 (by repeat (first|(with_reducible first|exact HB.out|apply zz03|apply zz01|apply zz02|refine zz10 ?_ GE343.out)|exact HB.out)) hb);clear BK343;clear HB;have BK343:=n0_;have HB:=n1_;clear n0_ n1_;(try clear hb);(try clear hb2);(try clear hk);(try clear hi)))
  go_ret2
  exact ⟨by first|rfl|(simp [errW_none,errW_some] <;> rfl)|(simp [*,errW_none,errW_some] <;> rfl),by repeat (first|(with_reducible first|exact HB.out|apply zz03|apply zz01|apply zz02|refine zz10 ?_ GE343.out)|exact HB.out)⟩

def almanackerref19_Day.f (k : Nat) (a0 : Int) (a1 : Int) (a2 : Int) : Option (Int) := (almanackerref10_ToDay.f k a0 a1 false a2).bind fun bt355 => (some bt355.1)
set_option maxHeartbeats 8000000 in
set_option maxRecDepth 100000 in
theorem almanackerref19_Day.calls (k : Nat) (a0 : Int) (a1 : Int) (a2 : Int) (r : Int) (w : World) (h : almanackerref19_Day.f k a0 a1 a2 = some r) :
  Calls Tryz.prog 41 #[.int .i64 a0, .int .i64 a1, .int .i64 a2] w fun e w' => e = .returned (.int .i64 r) ∧ Below w.heap.size w w' := by
 have hu32 := Tryz.underlying32
 have hu34 := Tryz.underlying34
 have HB := zz00 (Below.refl w.heap.size w)
 have H : ((almanackerref10_ToDay.f k a0 a1 false a2).bind fun bt355 => (some bt355.1)) = some r := h
 clear h
 replace H := zz14.mp H
 obtain ⟨⟨t355, t356⟩, A40, H⟩ := H
 replace H : (some t355) = some r := H
 have A4 := zz00 A40
 clear A40
 obtain rfl := Option.some.inj H
 go_enter Tryz.func41, Tryz.ntmps41
 go_wp2_with (first|((with_reducible refine zz23 (f:=91) rfl ?_);refine zz25 (some 15) rfl rfl Tryz.func91 (by kernel_rfl) rfl #[.agg #[.int .i64 a0,.int .i64 a1,.bool false,.int .i64 a2]] rfl (by (try simp only [List.map_toArray,List.map_cons,List.map_nil]);first|done|rfl|(simp only [List.length_drop,List.length_take];rfl)) ?_;(with_reducible refine (almanackerref10_ToDay.calls k a0 a1 false a2 t355 t356 _ A4.out).mono ?_);rintro e w5 ⟨rfl,hb⟩;refine ⟨_,rfl,?_⟩;have n0_:=zz00 (zz21 (by repeat (first|(with_reducible first|exact HB.out|apply zz03|apply zz01|apply zz02)|exact HB.out)) hb);clear HB;have HB:=n0_;clear n0_;(try clear hb);(try clear hb2);(try clear hk);(try clear hi)))
 go_ret
 exact ⟨by first|rfl|(simp [errW_none,errW_some] <;> rfl)|(simp [*,errW_none,errW_some] <;> rfl),by repeat (first|(with_reducible first|exact HB.out|apply zz03|apply zz01|apply zz02)|exact HB.out)⟩

def almanackerref12_is.f (a0 : Int) : Option (Bool) := if a0 ≥ 0 then (some (decide (a0 ≤ 6))) else (some false)
set_option maxHeartbeats 8000000 in
set_option maxRecDepth 100000 in
theorem almanackerref12_is.calls (a0 : Int) (r : Bool) (w : World) (h : almanackerref12_is.f a0 = some r) :
    Calls Tryz.prog 89 #[.int .i64 a0] w fun e w' => e = .returned (.bool r) ∧ Drawn0 w w' := by
  have H : (if a0 ≥ 0 then (some (decide (a0 ≤ 6))) else (some false)) = some r := h
  clear h
  by_cases c2 : a0 ≥ 0
  · rw [if_pos c2] at H
    have c2b0 : decide (0 ≤ a0) = true := decide_eq_true c2
    clear c2
    obtain rfl := Option.some.inj H
    go_enter Tryz.func89, Tryz.ntmps89
    go_wp2
    go_ret
    exact ⟨by first | rfl | (simp; done) | (simp [*]; done), by repeat (first | exact Drawn0.refl _ | apply Drawn0.step)⟩
  · rw [if_neg c2] at H
    have c2b0 : decide (0 ≤ a0) = false := decide_eq_false c2
    clear c2
    obtain rfl := Option.some.inj H
    go_enter Tryz.func89, Tryz.ntmps89
    go_wp2
    go_ret
    exact ⟨by first | rfl | (simp; done) | (simp [*]; done), by repeat (first | exact Drawn0.refl _ | apply Drawn0.step)⟩

end Go.Proofs.YtflpddhoiafhcaaGreatDoor.S
end

section
-- Written by wip/hprint.py of this repo (holes typed by hand, all else by a program) over the seat YtflpddhoiafhcaaGreatDoor.
namespace Go.Proofs.YtflpddhoiafhcaaGreatDoor.S
open Go.Proofs.YtflpddhoiafhcaaGreatDoor.H
open Go.RowKit Go.Proofs.YtflpddhoiafhcaaGreatDoorW.PrintWords Go.Proofs.YtflpddhoiafhcaaGreatDoorW.PrintLast Go.Proofs.YtflpddhoiafhcaaGreatDoorW.PrintMore
attribute [local go_sem] max2_int min2_int max_two min_two max_three min_three max_four min_four   -- for this text's walks alone
set_option linter.unusedVariables false
set_option linter.unusedSimpArgs false

def almanackerref12_Upto.l0 : Nat → Int → Int → Option (Int)
  | 0, _, _ => none
  | k + 1, x0, x1 => (almanackerref04_Weekday.f x0).bind fun t358 => (if t358 = x1 then (some x0) else (almanackerref12_Upto.l0 k (wrap64 (x0 - 1)) x1))
def almanackerref12_Upto.f (k : Nat) (a0 : Int) (a1 : Int) : Option (Int) := (almanackerref12_is.f a1).bind fun t357 => (if t357 = true then (almanackerref12_Upto.l0 k a0 a1) else (some a0))
set_option maxHeartbeats 8000000 in
set_option maxRecDepth 100000 in
theorem almanackerref12_Upto.calls (k : Nat) (a0 : Int) (a1 : Int) (r : Int) (w : World) (h : almanackerref12_Upto.f k a0 a1 = some r) :
  Calls Tryz.prog 87 #[.int .i64 a0, .int .i64 a1] w fun e w' => e = .returned (.int .i64 r) ∧ Drawn0 w w' := by
 have H : ((almanackerref12_is.f a1).bind fun t357 => (if t357 = true then (almanackerref12_Upto.l0 k a0 a1) else (some a0))) = some r := h
 clear h
 replace H := zz14.mp H
 obtain ⟨t357, A30, H⟩ := H
 replace H : (if t357 = true then (almanackerref12_Upto.l0 k a0 a1) else (some a0)) = some r := H
 have A3 := zz00 A30
 clear A30
 by_cases c4 : t357 = true
 ·
  subst c4
  have H1 : (almanackerref12_Upto.l0 k a0 a1) = some r := by rw [if_pos rfl] at H; exact H
  clear H
  have H := H1
  clear H1
  have H' := zz00 H
  clear H
  go_enter Tryz.func87, Tryz.ntmps87
  go_wp2_with (first|((with_reducible refine zz23 (f:=89) rfl ?_);refine zz25 (some 6) rfl rfl Tryz.func89 (by kernel_rfl) rfl #[.int .i64 a1] rfl (by (try simp only [List.map_toArray,List.map_cons,List.map_nil]);first|done|rfl|(simp only [List.length_drop,List.length_take];rfl)) ?_;(with_reducible refine (almanackerref12_is.calls a1 true _ A3.out).mono ?_);rintro e w' ⟨rfl,⟨nd,rfl⟩⟩;refine ⟨_,rfl,?_⟩))
  go_loopg [0] k (fun kq v0 w' => ∃ (x0_1 : Int), v0 = .int .i64 x0_1 ∧ Aside0 (almanackerref12_Upto.l0 kq x0_1 a1 = some r) ∧ Aside0 (kq ≤ k) ∧ Drawn0 w w')
  case atStart => exact ⟨(a0), (by first | rfl | (simp; done) | (simp [*]; done)), H', ⟨Nat.le_refl _⟩, by repeat (first | exact Drawn0.refl _ | apply Drawn0.step)⟩
  case round =>
   clear H'
   try clear p2
   try clear c4
   obtain ⟨x0_1, rfl, HA, HK1, ⟨m1, rfl⟩⟩ := hrel
   cases gk with
   | zero => exact absurd HA.out (by simp [almanackerref12_Upto.l0])
   | succ k1 =>
    have H := HA.out
    clear HA
    simp only [almanackerref12_Upto.l0] at H
    replace H := zz14.mp H
    obtain ⟨t358, A50, H⟩ := H
    replace H : (if t358 = a1 then (some x0_1) else (almanackerref12_Upto.l0 k1 (wrap64 (x0_1 - 1)) a1)) = some r := H
    have A5 := zz00 A50
    clear A50
    by_cases c6 : t358 = a1
    ·
     rw [if_pos c6] at H
     have c6b0 : (t358 == a1) = true := zz29.mpr c6
     have c6b1 : (t358 != a1) = false := zz26.mpr c6
     clear c6
     obtain rfl := Option.some.inj H
     go_wp2_with (first|((with_reducible refine zz23 (f:=90) rfl ?_);refine zz25 (some 10) rfl rfl Tryz.func90 (by kernel_rfl) rfl #[.int .i64 x0_1] rfl (by (try simp only [List.map_toArray,List.map_cons,List.map_nil]);first|done|rfl|(simp only [List.length_drop,List.length_take];rfl)) ?_;(with_reducible refine (almanackerref04_Weekday.calls x0_1 t358 _ A5.out).mono ?_);rintro e w' ⟨rfl,⟨nd,rfl⟩⟩;refine ⟨_,rfl,?_⟩))
     go_ret
     exact ⟨by first | rfl | (simp; done) | (simp [*]; done), by repeat (first | exact Drawn0.refl _ | apply Drawn0.step)⟩
    ·
     rw [if_neg c6] at H
     have c6b0 : (t358 == a1) = false := zz27.mpr c6
     have c6b1 : (t358 != a1) = true := zz28.mpr c6
     have H' := zz00 H
     clear H
     go_wp2_with (first|((with_reducible refine zz23 (f:=90) rfl ?_);refine zz25 (some 10) rfl rfl Tryz.func90 (by kernel_rfl) rfl #[.int .i64 x0_1] rfl (by (try simp only [List.map_toArray,List.map_cons,List.map_nil]);first|done|rfl|(simp only [List.length_drop,List.length_take];rfl)) ?_;(with_reducible refine (almanackerref04_Weekday.calls x0_1 t358 _ A5.out).mono ?_);rintro e w' ⟨rfl,⟨nd,rfl⟩⟩;refine ⟨_,rfl,?_⟩))
     go_roundg k1
     case measure => have := HK1.out; omega
     case rel => exact ⟨(wrap64 (x0_1 - 1)), (by first | rfl | (simp; done) | (simp [*]; done)), H', ⟨by have := HK1.out; omega⟩, by repeat (first | exact Drawn0.refl _ | apply Drawn0.step)⟩
 ·
  replace c4 := zz32.mpr c4
  subst c4
  have H1 : (some a0) = some r := by rw [if_neg (show ¬ (false = true) by decide)] at H; exact H
  clear H
  have H := H1
  clear H1
  obtain rfl := Option.some.inj H
  go_enter Tryz.func87, Tryz.ntmps87
  go_wp2_with (first|((with_reducible refine zz23 (f:=89) rfl ?_);refine zz25 (some 6) rfl rfl Tryz.func89 (by kernel_rfl) rfl #[.int .i64 a1] rfl (by (try simp only [List.map_toArray,List.map_cons,List.map_nil]);first|done|rfl|(simp only [List.length_drop,List.length_take];rfl)) ?_;(with_reducible refine (almanackerref12_is.calls a1 false _ A3.out).mono ?_);rintro e w' ⟨rfl,⟨nd,rfl⟩⟩;refine ⟨_,rfl,?_⟩))
  go_ret
  exact ⟨by first | rfl | (simp; done) | (simp [*]; done), by repeat (first | exact Drawn0.refl _ | apply Drawn0.step)⟩

def almanackerref22_upto.f (k : Nat) (a0 : Int) (a1 : Int) (a2 : Int) : Option (Int) := (almanackerref19_Day.f k a0 a1 a2).bind fun t359 => ((almanackerref12_Upto.f k t359 6).bind fun t360 => (some t360))
set_option maxHeartbeats 8000000 in
set_option maxRecDepth 100000 in
theorem almanackerref22_upto.calls (k : Nat) (a0 : Int) (a1 : Int) (a2 : Int) (r : Int) (w : World) (h : almanackerref22_upto.f k a0 a1 a2 = some r) :
  Calls Tryz.prog 38 #[.int .i64 a0, .int .i64 a1, .int .i64 a2] w fun e w' => e = .returned (.int .i64 r) ∧ Below w.heap.size w w' := by
 have HB := zz00 (Below.refl w.heap.size w)
 have H : ((almanackerref19_Day.f k a0 a1 a2).bind fun t359 => ((almanackerref12_Upto.f k t359 6).bind fun t360 => (some t360))) = some r := h
 clear h
 replace H := zz14.mp H
 obtain ⟨t359, A40, H⟩ := H
 replace H : ((almanackerref12_Upto.f k t359 6).bind fun t360 => (some t360)) = some r := H
 have A4 := zz00 A40
 clear A40
 replace H := zz14.mp H
 obtain ⟨t360, A50, H⟩ := H
 replace H : (some t360) = some r := H
 have A5 := zz00 A50
 clear A50
 obtain rfl := Option.some.inj H
 go_enter Tryz.func38, Tryz.ntmps38
 go_wp2_with (first|((with_reducible refine zz23 (f:=41) rfl ?_);refine zz25 (some 10) rfl rfl Tryz.func41 (by kernel_rfl) rfl #[.int .i64 a0,.int .i64 a1,.int .i64 a2] rfl (by (try simp only [List.map_toArray,List.map_cons,List.map_nil]);first|done|rfl|(simp only [List.length_drop,List.length_take];rfl)) ?_;(with_reducible refine (almanackerref19_Day.calls k a0 a1 a2 t359 _ A4.out).mono ?_);rintro e w6 ⟨rfl,hb⟩;refine ⟨_,rfl,?_⟩;have n0_:=zz00 (zz21 (by repeat (first|(with_reducible first|exact HB.out|apply zz03|apply zz01|apply zz02)|exact HB.out)) hb);clear HB;have HB:=n0_;clear n0_;(try clear hb);(try clear hb2);(try clear hk);(try clear hi))|((with_reducible refine zz23 (f:=87) rfl ?_);refine zz25 (some 11) rfl rfl Tryz.func87 (by kernel_rfl) rfl #[.int .i64 t359,.int .i64 6] rfl (by (try simp only [List.map_toArray,List.map_cons,List.map_nil]);first|done|rfl|(simp only [List.length_drop,List.length_take];rfl)) ?_;(with_reducible refine (almanackerref12_Upto.calls k t359 6 t360 _ A5.out).mono ?_);rintro e w' ⟨rfl,⟨nd,rfl⟩⟩;refine ⟨_,rfl,?_⟩))
 go_ret
 exact ⟨by first|rfl|(simp [errW_none,errW_some] <;> rfl)|(simp [*,errW_none,errW_some] <;> rfl),by repeat (first|(with_reducible first|exact HB.out|apply zz03|apply zz01|apply zz02)|exact HB.out)⟩

def almanackerref19_before.f (a0_0 : Int) (a0_1 : Int) (a1_0 : Int) (a1_1 : Int) : Option (Bool) := if a0_1 < a1_1 then (some true) else (if a0_1 = a1_1 then (some (decide (a0_0 < a1_0))) else (some false))
set_option maxHeartbeats 8000000 in
set_option maxRecDepth 100000 in
theorem almanackerref19_before.calls (a0_0 : Int) (a0_1 : Int) (a1_0 : Int) (a1_1 : Int) (r : Bool) (w : World) (h : almanackerref19_before.f a0_0 a0_1 a1_0 a1_1 = some r) :
  Calls Tryz.prog 88 #[.agg #[.int .i64 a0_0, .int .i64 a0_1], .agg #[.int .i64 a1_0, .int .i64 a1_1]] w fun e w' => e = .returned (.bool r) ∧ Below w.heap.size w w' := by
 have hu57 := Tryz.underlying57
 have HB := zz00 (Below.refl w.heap.size w)
 have H : (if a0_1 < a1_1 then (some true) else (if a0_1 = a1_1 then (some (decide (a0_0 < a1_0))) else (some false))) = some r := h
 clear h
 by_cases c3 : a0_1 < a1_1
 ·
  rw [if_pos c3] at H
  have c3b0 : decide (a0_1 < a1_1) = true := decide_eq_true c3
  clear c3
  obtain rfl := Option.some.inj H
  go_enter Tryz.func88, Tryz.ntmps88
  go_wp2_with (first|((with_reducible refine zz24 (N:=2) rfl ?_);refine zz30 ?hg (N:=2) ?hd (cs:=#[.int .i64 a0_0,.int .i64 a0_1]) (t:=57) ?hr ?_;(case hd=>rfl);(case hg=>rfl);(case hr=>first|(go_simp;done)|(go_simp;rfl));intro gb361 hg w4 hbox hb;have n0_:=zz00 (zz21 (by repeat (first|(with_reducible first|exact HB.out|apply zz03|apply zz01|apply zz02)|exact HB.out)) hb);have n1_:=zz00 (hbox);have n2_:=zz00 ((by rw [hg];exact (zz22 (by repeat (first|(with_reducible first|exact HB.out|apply zz03|apply zz01|apply zz02)|exact HB.out))) : w.heap.size ≤ gb361));have n3_:=zz00 ((by rw [hg];exact (zz22 (by repeat (first|(with_reducible first|exact HB.out|apply zz03|apply zz01|apply zz02)|exact HB.out))) : w.heap.size ≤ gb361));clear HB;have HB:=n0_;have BK361:=n1_;have GW361:=n2_;have GE361:=n3_;clear n0_ n1_ n2_ n3_;clear hb hbox hg)|((with_reducible refine zz24 (N:=3) rfl ?_);refine zz30 ?hg (N:=3) ?hd (cs:=#[.int .i64 a1_0,.int .i64 a1_1]) (t:=57) ?hr ?_;(case hd=>rfl);(case hg=>rfl);(case hr=>first|(go_simp;done)|(go_simp;rfl));intro gb362 hg w5 hbox hb;have n0_:=zz00 (zz34 (g:=gb361) (o:=.cells #[.int .i64 a0_0,.int .i64 a0_1] 57 (0,0)) (by (with_reducible repeat (first|refine zz07 ?_ _|refine zz09 ?_|refine zz08 ?_ _));exact BK361.out) hb);have n1_:=zz00 (zz21 (by repeat (first|(with_reducible first|exact HB.out|apply zz03|apply zz01|apply zz02|refine zz10 ?_ GE361.out)|exact HB.out)) hb);have n2_:=zz00 (hbox);have n3_:=zz00 ((by rw [hg];exact (zz22 (by repeat (first|(with_reducible first|exact HB.out|apply zz03|apply zz01|apply zz02|refine zz10 ?_ GE361.out)|exact HB.out))) : w.heap.size ≤ gb362));have n4_:=zz00 ((by rw [hg];exact (zz22 (by repeat (first|(with_reducible first|exact HB.out|apply zz03|apply zz01|apply zz02|refine zz10 ?_ GE361.out)|exact HB.out))) : w.heap.size ≤ gb362));have n5_:=zz00 ((by rw [hg];exact Nat.ne_of_lt (blk_lt (g:=gb361) (o:=.cells #[.int .i64 a0_0,.int .i64 a0_1] 57 (0,0)) (by (with_reducible repeat (first|refine zz07 ?_ _|refine zz09 ?_|refine zz08 ?_ _));exact BK361.out)) : gb361 ≠ gb362));have n6_:=zz00 ((by rw [hg];exact Nat.ne_of_gt (blk_lt (g:=gb361) (o:=.cells #[.int .i64 a0_0,.int .i64 a0_1] 57 (0,0)) (by (with_reducible repeat (first|refine zz07 ?_ _|refine zz09 ?_|refine zz08 ?_ _));exact BK361.out)) : gb362 ≠ gb361));clear BK361;clear HB;have BK361:=n0_;have HB:=n1_;have BK362:=n2_;have GW362:=n3_;have GE362:=n4_;have NB361_362:=n5_;have NB362_361:=n6_;clear n0_ n1_ n2_ n3_ n4_ n5_ n6_;clear hb hbox hg;have hnb6:=NB361_362.out;have hnc6:=NB362_361.out;have hcz7_0 : w5.cell? ⟨gb361,0,none⟩ = some (.int .i64 a0_0):=(zz18 BK361.out 0).trans rfl;have hcz7_1 : w5.cell? ⟨gb361,1,none⟩ = some (.int .i64 a0_1):=(zz18 BK361.out 1).trans rfl;have hfz7_0:=zz17 BK361.out 0;have hfz7_1:=zz17 BK361.out 1;have hcz8_0 : w5.cell? ⟨gb362,0,none⟩ = some (.int .i64 a1_0):=(zz18 BK362.out 0).trans rfl;have hcz8_1 : w5.cell? ⟨gb362,1,none⟩ = some (.int .i64 a1_1):=(zz18 BK362.out 1).trans rfl;have hfz8_0:=zz17 BK362.out 0;have hfz8_1:=zz17 BK362.out 1))
  go_ret
  exact ⟨by first|rfl|(simp [errW_none,errW_some] <;> rfl)|(simp [*,errW_none,errW_some] <;> rfl),by repeat (first|(with_reducible first|exact HB.out|apply zz03|apply zz01|apply zz02|refine zz10 ?_ GE361.out|refine zz10 ?_ GE362.out)|exact HB.out)⟩
 ·
  rw [if_neg c3] at H
  have c3b0 : decide (a0_1 < a1_1) = false := decide_eq_false c3
  clear c3
  by_cases c9 : a0_1 = a1_1
  ·
   rw [if_pos c9] at H
   have c9b0 : (a0_1 == a1_1) = true := zz29.mpr c9
   have c9b1 : (a0_1 != a1_1) = false := zz26.mpr c9
   clear c9
   obtain rfl := Option.some.inj H
   go_enter Tryz.func88, Tryz.ntmps88
   go_wp2_with (first|((with_reducible refine zz24 (N:=2) rfl ?_);refine zz30 ?hg (N:=2) ?hd (cs:=#[.int .i64 a0_0,.int .i64 a0_1]) (t:=57) ?hr ?_;(case hd=>rfl);(case hg=>rfl);(case hr=>first|(go_simp;done)|(go_simp;rfl));intro gb361 hg w10 hbox hb;have n0_:=zz00 (zz21 (by repeat (first|(with_reducible first|exact HB.out|apply zz03|apply zz01|apply zz02)|exact HB.out)) hb);have n1_:=zz00 (hbox);have n2_:=zz00 ((by rw [hg];exact (zz22 (by repeat (first|(with_reducible first|exact HB.out|apply zz03|apply zz01|apply zz02)|exact HB.out))) : w.heap.size ≤ gb361));have n3_:=zz00 ((by rw [hg];exact (zz22 (by repeat (first|(with_reducible first|exact HB.out|apply zz03|apply zz01|apply zz02)|exact HB.out))) : w.heap.size ≤ gb361));clear HB;have HB:=n0_;have BK361:=n1_;have GW361:=n2_;have GE361:=n3_;clear n0_ n1_ n2_ n3_;clear hb hbox hg)|((with_reducible refine zz24 (N:=3) rfl ?_);refine zz30 ?hg (N:=3) ?hd (cs:=#[.int .i64 a1_0,.int .i64 a1_1]) (t:=57) ?hr ?_;(case hd=>rfl);(case hg=>rfl);(case hr=>first|(go_simp;done)|(go_simp;rfl));intro gb362 hg w11 hbox hb;have n0_:=zz00 (zz34 (g:=gb361) (o:=.cells #[.int .i64 a0_0,.int .i64 a0_1] 57 (0,0)) (by (with_reducible repeat (first|refine zz07 ?_ _|refine zz09 ?_|refine zz08 ?_ _));exact BK361.out) hb);have n1_:=zz00 (zz21 (by repeat (first|(with_reducible first|exact HB.out|apply zz03|apply zz01|apply zz02|refine zz10 ?_ GE361.out)|exact HB.out)) hb);have n2_:=zz00 (hbox);have n3_:=zz00 ((by rw [hg];exact (zz22 (by repeat (first|(with_reducible first|exact HB.out|apply zz03|apply zz01|apply zz02|refine zz10 ?_ GE361.out)|exact HB.out))) : w.heap.size ≤ gb362));have n4_:=zz00 ((by rw [hg];exact (zz22 (by repeat (first|(with_reducible first|exact HB.out|apply zz03|apply zz01|apply zz02|refine zz10 ?_ GE361.out)|exact HB.out))) : w.heap.size ≤ gb362));have n5_:=zz00 ((by rw [hg];exact Nat.ne_of_lt (blk_lt (g:=gb361) (o:=.cells #[.int .i64 a0_0,.int .i64 a0_1] 57 (0,0)) (by (with_reducible repeat (first|refine zz07 ?_ _|refine zz09 ?_|refine zz08 ?_ _));exact BK361.out)) : gb361 ≠ gb362));have n6_:=zz00 ((by rw [hg];exact Nat.ne_of_gt (blk_lt (g:=gb361) (o:=.cells #[.int .i64 a0_0,.int .i64 a0_1] 57 (0,0)) (by (with_reducible repeat (first|refine zz07 ?_ _|refine zz09 ?_|refine zz08 ?_ _));exact BK361.out)) : gb362 ≠ gb361));clear BK361;clear HB;have BK361:=n0_;have HB:=n1_;have BK362:=n2_;have GW362:=n3_;have GE362:=n4_;have NB361_362:=n5_;have NB362_361:=n6_;clear n0_ n1_ n2_ n3_ n4_ n5_ n6_;clear hb hbox hg;have hnb12:=NB361_362.out;have hnc12:=NB362_361.out;have hcz13_0 : w11.cell? ⟨gb361,0,none⟩ = some (.int .i64 a0_0):=(zz18 BK361.out 0).trans rfl;have hcz13_1 : w11.cell? ⟨gb361,1,none⟩ = some (.int .i64 a0_1):=(zz18 BK361.out 1).trans rfl;have hfz13_0:=zz17 BK361.out 0;have hfz13_1:=zz17 BK361.out 1;have hcz14_0 : w11.cell? ⟨gb362,0,none⟩ = some (.int .i64 a1_0):=(zz18 BK362.out 0).trans rfl;have hcz14_1 : w11.cell? ⟨gb362,1,none⟩ = some (.int .i64 a1_1):=(zz18 BK362.out 1).trans rfl;have hfz14_0:=zz17 BK362.out 0;have hfz14_1:=zz17 BK362.out 1))
   go_ret
   exact ⟨by first|rfl|(simp [errW_none,errW_some] <;> rfl)|(simp [*,errW_none,errW_some] <;> rfl),by repeat (first|(with_reducible first|exact HB.out|apply zz03|apply zz01|apply zz02|refine zz10 ?_ GE361.out|refine zz10 ?_ GE362.out)|exact HB.out)⟩
  ·
   rw [if_neg c9] at H
   have c9b0 : (a0_1 == a1_1) = false := zz27.mpr c9
   have c9b1 : (a0_1 != a1_1) = true := zz28.mpr c9
   obtain rfl := Option.some.inj H
   go_enter Tryz.func88, Tryz.ntmps88
   go_wp2_with (first|((with_reducible refine zz24 (N:=2) rfl ?_);refine zz30 ?hg (N:=2) ?hd (cs:=#[.int .i64 a0_0,.int .i64 a0_1]) (t:=57) ?hr ?_;(case hd=>rfl);(case hg=>rfl);(case hr=>first|(go_simp;done)|(go_simp;rfl));intro gb361 hg w15 hbox hb;have n0_:=zz00 (zz21 (by repeat (first|(with_reducible first|exact HB.out|apply zz03|apply zz01|apply zz02)|exact HB.out)) hb);have n1_:=zz00 (hbox);have n2_:=zz00 ((by rw [hg];exact (zz22 (by repeat (first|(with_reducible first|exact HB.out|apply zz03|apply zz01|apply zz02)|exact HB.out))) : w.heap.size ≤ gb361));have n3_:=zz00 ((by rw [hg];exact (zz22 (by repeat (first|(with_reducible first|exact HB.out|apply zz03|apply zz01|apply zz02)|exact HB.out))) : w.heap.size ≤ gb361));clear HB;have HB:=n0_;have BK361:=n1_;have GW361:=n2_;have GE361:=n3_;clear n0_ n1_ n2_ n3_;clear hb hbox hg)|((with_reducible refine zz24 (N:=3) rfl ?_);refine zz30 ?hg (N:=3) ?hd (cs:=#[.int .i64 a1_0,.int .i64 a1_1]) (t:=57) ?hr ?_;(case hd=>rfl);(case hg=>rfl);(case hr=>first|(go_simp;done)|(go_simp;rfl));intro gb362 hg w16 hbox hb;have n0_:=zz00 (zz34 (g:=gb361) (o:=.cells #[.int .i64 a0_0,.int .i64 a0_1] 57 (0,0)) (by (with_reducible repeat (first|refine zz07 ?_ _|refine zz09 ?_|refine zz08 ?_ _));exact BK361.out) hb);have n1_:=zz00 (zz21 (by repeat (first|(with_reducible first|exact HB.out|apply zz03|apply zz01|apply zz02|refine zz10 ?_ GE361.out)|exact HB.out)) hb);have n2_:=zz00 (hbox);have n3_:=zz00 ((by rw [hg];exact (zz22 (by repeat (first|(with_reducible first|exact HB.out|apply zz03|apply zz01|apply zz02|refine zz10 ?_ GE361.out)|exact HB.out))) : w.heap.size ≤ gb362));have n4_:=zz00 ((by rw [hg];exact (zz22 (by repeat (first|(with_reducible first|exact HB.out|apply zz03|apply zz01|apply zz02|refine zz10 ?_ GE361.out)|exact HB.out))) : w.heap.size ≤ gb362));have n5_:=zz00 ((by rw [hg];exact Nat.ne_of_lt (blk_lt (g:=gb361) (o:=.cells #[.int .i64 a0_0,.int .i64 a0_1] 57 (0,0)) (by (with_reducible repeat (first|refine zz07 ?_ _|refine zz09 ?_|refine zz08 ?_ _));exact BK361.out)) : gb361 ≠ gb362));have n6_:=zz00 ((by rw [hg];exact Nat.ne_of_gt (blk_lt (g:=gb361) (o:=.cells #[.int .i64 a0_0,.int .i64 a0_1] 57 (0,0)) (by (with_reducible repeat (first|refine zz07 ?_ _|refine zz09 ?_|refine zz08 ?_ _));exact BK361.out)) : gb362 ≠ gb361));clear BK361;clear HB;have BK361:=n0_;have HB:=n1_;have BK362:=n2_;have GW362:=n3_;have GE362:=n4_;have NB361_362:=n5_;have NB362_361:=n6_;clear n0_ n1_ n2_ n3_ n4_ n5_ n6_;clear hb hbox hg;have hnb17:=NB361_362.out;have hnc17:=NB362_361.out;have hcz18_0 : w16.cell? ⟨gb361,0,none⟩ = some (.int .i64 a0_0):=(zz18 BK361.out 0).trans rfl;have hcz18_1 : w16.cell? ⟨gb361,1,none⟩ = some (.int .i64 a0_1):=(zz18 BK361.out 1).trans rfl;have hfz18_0:=zz17 BK361.out 0;have hfz18_1:=zz17 BK361.out 1;have hcz19_0 : w16.cell? ⟨gb362,0,none⟩ = some (.int .i64 a1_0):=(zz18 BK362.out 0).trans rfl;have hcz19_1 : w16.cell? ⟨gb362,1,none⟩ = some (.int .i64 a1_1):=(zz18 BK362.out 1).trans rfl;have hfz19_0:=zz17 BK362.out 0;have hfz19_1:=zz17 BK362.out 1))
   go_ret
   exact ⟨by first|rfl|(simp [errW_none,errW_some] <;> rfl)|(simp [*,errW_none,errW_some] <;> rfl),by repeat (first|(with_reducible first|exact HB.out|apply zz03|apply zz01|apply zz02|refine zz10 ?_ GE361.out|refine zz10 ?_ GE362.out)|exact HB.out)⟩

end Go.Proofs.YtflpddhoiafhcaaGreatDoor.S
end
