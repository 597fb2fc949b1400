/- Texts of the proof of 'NameTells', joined by a program (part 5): contracts of functions, plain laws. -/
import Derived.Test.YtflpddhoiafhcaaGreatDoorJNameTells0
import Derived.Test.YtflpddhoiafhcaaGreatDoorJNameTells2
import Derived.Test.YtflpddhoiafhcaaGreatDoorJNameTells4
set_option linter.unusedVariables false
set_option linter.unusedSimpArgs false
set_option linter.unusedSectionVars false
section
-- Written by wip/hprint.py of this repo (holes typed by hand, all else by a program) over the seat YtflpddhoiafhcaaGreatDoor.
namespace Go.Proofs.YtflpddhoiafhcaaGreatDoor.R
open Go.Proofs.YtflpddhoiafhcaaGreatDoor.H
open Go.RowKit Go.Proofs.YtflpddhoiafhcaaGreatDoorW.PrintWords Go.Proofs.YtflpddhoiafhcaaGreatDoorW.PrintLast Go.Proofs.YtflpddhoiafhcaaGreatDoorW.PrintMore
attribute [local go_sem] max2_int min2_int max_two min_two max_three min_three max_four min_four   -- for this text's walks alone
set_option linter.unusedVariables false
set_option linter.unusedSimpArgs false

def almanackerref02_Split.f (a0 : Int) : Option (Int × Int) := (almanackerref01_Down.f a0 25920).bind fun t218 => ((almanackerref01_Left.f a0 25920).bind fun t219 => (some (t218, t219)))
set_option maxHeartbeats 8000000 in
set_option maxRecDepth 100000 in
theorem almanackerref02_Split.calls (a0 : Int) (r1 : Int) (r2 : Int) (w : World) (h : almanackerref02_Split.f a0 = some (r1, r2)) :
  Calls Tryz.prog 239 #[.int .i64 a0] w fun e w' => e = .returned (.agg #[.int .i64 r1, .int .i64 r2]) ∧ Below w.heap.size w w' := by
 have hu147 := Tryz.underlying147
 have HB := zz00 (Below.refl w.heap.size w)
 have H : ((almanackerref01_Down.f a0 25920).bind fun t218 => ((almanackerref01_Left.f a0 25920).bind fun t219 => (some (t218, t219)))) = some (r1, r2) := h
 clear h
 replace H := zz14.mp H
 obtain ⟨t218, A20, H⟩ := H
 replace H : ((almanackerref01_Left.f a0 25920).bind fun t219 => (some (t218, t219))) = some (r1, r2) := H
 have A2 := zz00 A20
 clear A20
 replace H := zz14.mp H
 obtain ⟨t219, A30, H⟩ := H
 replace H : (some (t218, t219)) = some (r1, r2) := H
 have A3 := zz00 A30
 clear A30
 simp only [zz15, zz16] at H
 obtain ⟨rfl, rfl⟩ := H
 go_enter Tryz.func239, Tryz.ntmps239
 go_wp2_with (first|((with_reducible refine zz24 (N:=2) rfl ?_);refine zz30 ?hg (N:=2) ?hd (cs:=#[.int .i64 0,.int .i64 0]) (t:=147) ?hr ?_;(case hd=>rfl);(case hg=>rfl);(case hr=>first|(go_simp;done)|(go_simp;rfl));intro gb217 hg w4 hbox hb;have n0_:=zz00 (zz21 (by repeat (first|(with_reducible first|exact HB.out|apply zz03|apply zz01|apply zz02)|exact HB.out)) hb);have n1_:=zz00 (hbox);have n2_:=zz00 ((by rw [hg];exact (zz22 (by repeat (first|(with_reducible first|exact HB.out|apply zz03|apply zz01|apply zz02)|exact HB.out))) : w.heap.size ≤ gb217));have n3_:=zz00 ((by rw [hg];exact (zz22 (by repeat (first|(with_reducible first|exact HB.out|apply zz03|apply zz01|apply zz02)|exact HB.out))) : w.heap.size ≤ gb217));clear HB;have HB:=n0_;have BK217:=n1_;have GW217:=n2_;have GE217:=n3_;clear n0_ n1_ n2_ n3_;clear hb hbox hg)|((with_reducible refine zz23 (f:=165) rfl ?_);refine zz25 (some 4) rfl rfl Tryz.func165 (by kernel_rfl) rfl #[.int .i64 a0,.int .i64 25920] rfl (by (try simp only [List.map_toArray,List.map_cons,List.map_nil]);first|done|rfl|(simp only [List.length_drop,List.length_take];rfl)) ?_;(with_reducible refine (almanackerref01_Down.calls a0 25920 t218 _ A2.out).mono ?_);rintro e w' ⟨rfl,⟨nd,rfl⟩⟩;refine ⟨_,rfl,?_⟩;(try (rw [drewN_self w4];generalize hq_ : World.drewN w4 _ = w4;have n0_ : Aside0 (w4.heap[gb217]? = some (.cells #[.int .i64 0,.int .i64 0] 147 (0,0))):=⟨by rw [← hq_];exact (by (with_reducible repeat (first|refine zz07 ?_ _|refine zz09 ?_|refine zz08 ?_ _));exact BK217.out)⟩;have n1_ : Aside0 (Below w.heap.size w w4):=⟨by rw [← hq_];exact (by repeat (first|(with_reducible first|exact HB.out|apply zz03|apply zz01|apply zz02|refine zz10 ?_ GE217.out)|exact HB.out))⟩;clear BK217 HB hq_;have BK217:=n0_;have HB:=n1_;clear n0_ n1_)))|((with_reducible refine zz23 (f:=60) rfl ?_);refine zz25 (some 6) rfl rfl Tryz.func60 (by kernel_rfl) rfl #[.int .i64 a0,.int .i64 25920] rfl (by (try simp only [List.map_toArray,List.map_cons,List.map_nil]);first|done|rfl|(simp only [List.length_drop,List.length_take];rfl)) ?_;(with_reducible refine (almanackerref01_Left.calls a0 25920 t219 _ A3.out).mono ?_);rintro e w' ⟨rfl,⟨nd,rfl⟩⟩;refine ⟨_,rfl,?_⟩;(try (rw [drewN_self w4];generalize hq_ : World.drewN w4 _ = w4;have n0_ : Aside0 (w4.heap[gb217]? = some (.cells #[.int .i64 0,.int .i64 0] 147 (0,0))):=⟨by rw [← hq_];exact (by (with_reducible repeat (first|refine zz07 ?_ _|refine zz09 ?_|refine zz08 ?_ _));exact BK217.out)⟩;have n1_ : Aside0 (Below w.heap.size w w4):=⟨by rw [← hq_];exact (by repeat (first|(with_reducible first|exact HB.out|apply zz03|apply zz01|apply zz02|refine zz10 ?_ GE217.out)|exact HB.out))⟩;clear BK217 HB hq_;have BK217:=n0_;have HB:=n1_;clear n0_ n1_));have hcz5_0 : w4.cell? ⟨gb217,0,none⟩ = some (.int .i64 0):=(zz18 BK217.out 0).trans rfl;have hcz5_1 : w4.cell? ⟨gb217,1,none⟩ = some (.int .i64 0):=(zz18 BK217.out 1).trans rfl;have hfz5_0:=zz17 BK217.out 0;have hfz5_1:=zz17 BK217.out 1))
 refine bodyPost_ret (results_cell_row rfl _ _ gb217 147 #[.int .i64 t218,.int .i64 t219] (0,0) _ rfl (by (with_reducible repeat (first|refine zz07 ?_ _|refine zz09 ?_|refine zz08 ?_ _));refine zz35 (cs:=#[.int .i64 t218,.int .i64 0]) ?_ 1 _ rfl;(with_reducible repeat (first|refine zz07 ?_ _|refine zz09 ?_|refine zz08 ?_ _));refine zz35 (cs:=#[.int .i64 0,.int .i64 0]) ?_ 0 _ rfl;(with_reducible repeat (first|refine zz07 ?_ _|refine zz09 ?_|refine zz08 ?_ _));exact BK217.out) Tryz.underlying147 rfl (by kernel_rfl)) rfl ?_
 exact ⟨by first|rfl|(simp [errW_none,errW_some] <;> rfl)|(simp [*,errW_none,errW_some] <;> rfl),by repeat (first|(with_reducible first|exact HB.out|apply zz03|apply zz01|apply zz02|refine zz10 ?_ GE217.out)|exact HB.out)⟩

def almanackerref04_Moon.f (a0 : Int) : Option (Int × Int × Int) := if a0 < (-200000) then (some (0, 0, 2)) else (if a0 > 200000 then (some (0, 0, 2)) else ((almanackerref02_Split.f (wrap64 (5604 + (wrap64 (765433 * a0))))).bind fun bt221 => (some (wrap64 (bt221.1 - 1373427), bt221.2, 0))))
set_option maxHeartbeats 8000000 in
set_option maxRecDepth 100000 in
theorem almanackerref04_Moon.calls (a0 : Int) (r1 : Int) (r2 : Int) (r3 : Int) (w : World) (h : almanackerref04_Moon.f a0 = some (r1, r2, r3)) :
  Calls Tryz.prog 198 #[.int .i64 a0] w fun e w' => e = .returned (.tuple #[.agg #[.int .i64 r1, .int .i64 r2], .int .i64 r3]) ∧ Below w.heap.size w w' := by
 have hu147 := Tryz.underlying147
 have HB := zz00 (Below.refl w.heap.size w)
 have H : (if a0 < (-200000) then (some (0,0,2)) else (if a0 > 200000 then (some (0,0,2)) else ((almanackerref02_Split.f (wrap64 (5604 + (wrap64 (765433 * a0))))).bind fun bt221=>(some (wrap64 (bt221.1 - 1373427),bt221.2,0))))) = some (r1,r2,r3):=h
 clear h
 by_cases c2 : a0 < (-200000)
 ·
  rw [if_pos c2] at H
  have c2b0 : decide (a0 < (-200000)) = true := decide_eq_true c2
  clear c2
  simp only [zz15, zz16] at H
  obtain ⟨rfl, rfl, rfl⟩ := H
  go_enter Tryz.func198, Tryz.ntmps198
  go_wp2_with (first|((with_reducible refine zz24 (N:=2) rfl ?_);refine zz30 ?hg (N:=2) ?hd (cs:=#[.int .i64 0,.int .i64 0]) (t:=147) ?hr ?_;(case hd=>rfl);(case hg=>rfl);(case hr=>first|(go_simp;done)|(go_simp;rfl));intro gb220 hg w3 hbox hb;have n0_:=zz00 (zz21 (by repeat (first|(with_reducible first|exact HB.out|apply zz03|apply zz01|apply zz02)|exact HB.out)) hb);have n1_:=zz00 (hbox);have n2_:=zz00 ((by rw [hg];exact (zz22 (by repeat (first|(with_reducible first|exact HB.out|apply zz03|apply zz01|apply zz02)|exact HB.out))) : w.heap.size ≤ gb220));have n3_:=zz00 ((by rw [hg];exact (zz22 (by repeat (first|(with_reducible first|exact HB.out|apply zz03|apply zz01|apply zz02)|exact HB.out))) : w.heap.size ≤ gb220));clear HB;have HB:=n0_;have BK220:=n1_;have GW220:=n2_;have GE220:=n3_;clear n0_ n1_ n2_ n3_;clear hb hbox hg;have hcz4_0 : w3.cell? ⟨gb220,0,none⟩ = some (.int .i64 0):=(zz18 BK220.out 0).trans rfl;have hcz4_1 : w3.cell? ⟨gb220,1,none⟩ = some (.int .i64 0):=(zz18 BK220.out 1).trans rfl;have hfz4_0:=zz17 BK220.out 0;have hfz4_1:=zz17 BK220.out 1))
  refine bodyPost_ret (results_ct rfl _ _ gb220 147 #[.int .i64 0,.int .i64 0] (0,0) _ rfl (by (with_reducible repeat (first|refine zz07 ?_ _|refine zz09 ?_|refine zz08 ?_ _));refine zz35 (cs:=#[.int .i64 0,.int .i64 0]) ?_ 1 _ rfl;(with_reducible repeat (first|refine zz07 ?_ _|refine zz09 ?_|refine zz08 ?_ _));refine zz35 (cs:=#[.int .i64 0,.int .i64 0]) ?_ 0 _ rfl;(with_reducible repeat (first|refine zz07 ?_ _|refine zz09 ?_|refine zz08 ?_ _));exact BK220.out) Tryz.underlying147 rfl (by kernel_rfl)) rfl ?_
  exact ⟨by first|rfl|(simp [errW_none,errW_some] <;> rfl)|(simp [*,errW_none,errW_some] <;> rfl),by repeat (first|(with_reducible first|exact HB.out|apply zz03|apply zz01|apply zz02|refine zz10 ?_ GE220.out)|exact HB.out)⟩
 ·
  rw [if_neg c2] at H
  have c2b0 : decide (a0 < (-200000)) = false := decide_eq_false c2
  clear c2
  by_cases c5 : a0 > 200000
  ·
   rw [if_pos c5] at H
   have c5b0 : decide (200000 < a0) = true := decide_eq_true c5
   clear c5
   simp only [zz15, zz16] at H
   obtain ⟨rfl, rfl, rfl⟩ := H
   go_enter Tryz.func198, Tryz.ntmps198
   go_wp2_with (first|((with_reducible refine zz24 (N:=2) rfl ?_);refine zz30 ?hg (N:=2) ?hd (cs:=#[.int .i64 0,.int .i64 0]) (t:=147) ?hr ?_;(case hd=>rfl);(case hg=>rfl);(case hr=>first|(go_simp;done)|(go_simp;rfl));intro gb220 hg w6 hbox hb;have n0_:=zz00 (zz21 (by repeat (first|(with_reducible first|exact HB.out|apply zz03|apply zz01|apply zz02)|exact HB.out)) hb);have n1_:=zz00 (hbox);have n2_:=zz00 ((by rw [hg];exact (zz22 (by repeat (first|(with_reducible first|exact HB.out|apply zz03|apply zz01|apply zz02)|exact HB.out))) : w.heap.size ≤ gb220));have n3_:=zz00 ((by rw [hg];exact (zz22 (by repeat (first|(with_reducible first|exact HB.out|apply zz03|apply zz01|apply zz02)|exact HB.out))) : w.heap.size ≤ gb220));clear HB;have HB:=n0_;have BK220:=n1_;have GW220:=n2_;have GE220:=n3_;clear n0_ n1_ n2_ n3_;clear hb hbox hg;have hcz7_0 : w6.cell? ⟨gb220,0,none⟩ = some (.int .i64 0):=(zz18 BK220.out 0).trans rfl;have hcz7_1 : w6.cell? ⟨gb220,1,none⟩ = some (.int .i64 0):=(zz18 BK220.out 1).trans rfl;have hfz7_0:=zz17 BK220.out 0;have hfz7_1:=zz17 BK220.out 1))
   refine bodyPost_ret (results_ct rfl _ _ gb220 147 #[.int .i64 0,.int .i64 0] (0,0) _ rfl (by (with_reducible repeat (first|refine zz07 ?_ _|refine zz09 ?_|refine zz08 ?_ _));refine zz35 (cs:=#[.int .i64 0,.int .i64 0]) ?_ 1 _ rfl;(with_reducible repeat (first|refine zz07 ?_ _|refine zz09 ?_|refine zz08 ?_ _));refine zz35 (cs:=#[.int .i64 0,.int .i64 0]) ?_ 0 _ rfl;(with_reducible repeat (first|refine zz07 ?_ _|refine zz09 ?_|refine zz08 ?_ _));exact BK220.out) Tryz.underlying147 rfl (by kernel_rfl)) rfl ?_
   exact ⟨by first|rfl|(simp [errW_none,errW_some] <;> rfl)|(simp [*,errW_none,errW_some] <;> rfl),by repeat (first|(with_reducible first|exact HB.out|apply zz03|apply zz01|apply zz02|refine zz10 ?_ GE220.out)|exact HB.out)⟩
  ·
   rw [if_neg c5] at H
   have c5b0 : decide (200000 < a0) = false := decide_eq_false c5
   clear c5
   replace H := zz14.mp H
   obtain ⟨⟨t221, t222⟩, A80, H⟩ := H
   replace H : (some (wrap64 (t221 - 1373427), t222, 0)) = some (r1, r2, r3) := H
   have A8 := zz00 A80
   clear A80
   simp only [zz15, zz16] at H
   obtain ⟨rfl, rfl, rfl⟩ := H
   go_enter Tryz.func198, Tryz.ntmps198
   go_wp2_with (first|((with_reducible refine zz24 (N:=2) rfl ?_);refine zz30 ?hg (N:=2) ?hd (cs:=#[.int .i64 0,.int .i64 0]) (t:=147) ?hr ?_;(case hd=>rfl);(case hg=>rfl);(case hr=>first|(go_simp;done)|(go_simp;rfl));intro gb220 hg w9 hbox hb;have n0_:=zz00 (zz21 (by repeat (first|(with_reducible first|exact HB.out|apply zz03|apply zz01|apply zz02)|exact HB.out)) hb);have n1_:=zz00 (hbox);have n2_:=zz00 ((by rw [hg];exact (zz22 (by repeat (first|(with_reducible first|exact HB.out|apply zz03|apply zz01|apply zz02)|exact HB.out))) : w.heap.size ≤ gb220));have n3_:=zz00 ((by rw [hg];exact (zz22 (by repeat (first|(with_reducible first|exact HB.out|apply zz03|apply zz01|apply zz02)|exact HB.out))) : w.heap.size ≤ gb220));clear HB;have HB:=n0_;have BK220:=n1_;have GW220:=n2_;have GE220:=n3_;clear n0_ n1_ n2_ n3_;clear hb hbox hg)|((with_reducible refine zz23 (f:=239) rfl ?_);refine zz25 (some 15) rfl rfl Tryz.func239 (by kernel_rfl) rfl #[.int .i64 (wrap64 (5604 + (wrap64 (765433 * a0))))] rfl (by (try simp only [List.map_toArray,List.map_cons,List.map_nil]);first|done|rfl|(simp only [List.length_drop,List.length_take];rfl)) ?_;(with_reducible refine (almanackerref02_Split.calls (wrap64 (5604 + (wrap64 (765433 * a0)))) t221 t222 _ A8.out).mono ?_);rintro e w10 ⟨rfl,hb⟩;refine ⟨_,rfl,?_⟩;have n0_:=zz00 (zz34 (g:=gb220) (o:=.cells #[.int .i64 0,.int .i64 0] 147 (0,0)) (by (with_reducible repeat (first|refine zz07 ?_ _|refine zz09 ?_|refine zz08 ?_ _));exact BK220.out) hb);have n1_:=zz00 (zz21 (by repeat (first|(with_reducible first|exact HB.out|apply zz03|apply zz01|apply zz02|refine zz10 ?_ GE220.out)|exact HB.out)) hb);clear BK220;clear HB;have BK220:=n0_;have HB:=n1_;clear n0_ n1_;(try clear hb);(try clear hb2);(try clear hk);(try clear hi))|((with_reducible refine zz24 (N:=4) rfl ?_);refine zz30 ?hg (N:=4) ?hd (cs:=#[.int .i64 0,.int .i64 0]) (t:=147) ?hr ?_;(case hd=>rfl);(case hg=>rfl);(case hr=>first|(go_simp;done)|(go_simp;rfl));intro gb223 hg w11 hbox hb;have n0_:=zz00 (zz34 (g:=gb220) (o:=.cells #[.int .i64 0,.int .i64 0] 147 (0,0)) (by (with_reducible repeat (first|refine zz07 ?_ _|refine zz09 ?_|refine zz08 ?_ _));exact BK220.out) hb);have n1_:=zz00 (zz21 (by repeat (first|(with_reducible first|exact HB.out|apply zz03|apply zz01|apply zz02|refine zz10 ?_ GE220.out)|exact HB.out)) hb);have n2_:=zz00 (hbox);have n3_:=zz00 ((by rw [hg];exact (zz22 (by repeat (first|(with_reducible first|exact HB.out|apply zz03|apply zz01|apply zz02|refine zz10 ?_ GE220.out)|exact HB.out))) : w.heap.size ≤ gb223));have n4_:=zz00 ((by rw [hg];exact (zz22 (by repeat (first|(with_reducible first|exact HB.out|apply zz03|apply zz01|apply zz02|refine zz10 ?_ GE220.out)|exact HB.out))) : w.heap.size ≤ gb223));have n5_:=zz00 ((by rw [hg];exact Nat.ne_of_lt (blk_lt (g:=gb220) (o:=.cells #[.int .i64 0,.int .i64 0] 147 (0,0)) (by (with_reducible repeat (first|refine zz07 ?_ _|refine zz09 ?_|refine zz08 ?_ _));exact BK220.out)) : gb220 ≠ gb223));have n6_:=zz00 ((by rw [hg];exact Nat.ne_of_gt (blk_lt (g:=gb220) (o:=.cells #[.int .i64 0,.int .i64 0] 147 (0,0)) (by (with_reducible repeat (first|refine zz07 ?_ _|refine zz09 ?_|refine zz08 ?_ _));exact BK220.out)) : gb223 ≠ gb220));clear BK220;clear HB;have BK220:=n0_;have HB:=n1_;have BK223:=n2_;have GW223:=n3_;have GE223:=n4_;have NB220_223:=n5_;have NB223_220:=n6_;clear n0_ n1_ n2_ n3_ n4_ n5_ n6_;clear hb hbox hg;have hnb12:=NB223_220.out;have hnc12:=NB220_223.out;have hcz13_0 : w11.cell? ⟨gb223,0,none⟩ = some (.int .i64 0):=(zz18 BK223.out 0).trans rfl;have hcz13_1 : w11.cell? ⟨gb223,1,none⟩ = some (.int .i64 0):=(zz18 BK223.out 1).trans rfl;have hfz13_0:=zz17 BK223.out 0;have hfz13_1:=zz17 BK223.out 1;have hcz14_0 : w11.cell? ⟨gb220,0,none⟩ = some (.int .i64 0):=(zz18 BK220.out 0).trans rfl;have hcz14_1 : w11.cell? ⟨gb220,1,none⟩ = some (.int .i64 0):=(zz18 BK220.out 1).trans rfl;have hfz14_0:=zz17 BK220.out 0;have hfz14_1:=zz17 BK220.out 1))
   refine bodyPost_ret (results_ct rfl _ _ gb220 147 #[.int .i64 (wrap64 (t221 - 1373427)),.int .i64 t222] (0,0) _ rfl (by (with_reducible repeat (first|refine zz07 ?_ _|refine zz09 ?_|refine zz08 ?_ _));refine zz35 (cs:=#[.int .i64 (wrap64 (t221 - 1373427)),.int .i64 0]) ?_ 1 _ rfl;(with_reducible repeat (first|refine zz07 ?_ _|refine zz09 ?_|refine zz08 ?_ _));refine zz35 (cs:=#[.int .i64 0,.int .i64 0]) ?_ 0 _ rfl;(with_reducible repeat (first|refine zz07 ?_ _|refine zz09 ?_|refine zz08 ?_ _));refine zz33 ?_ NB220_223.out _;(with_reducible repeat (first|refine zz07 ?_ _|refine zz09 ?_|refine zz08 ?_ _));refine zz33 ?_ NB220_223.out _;(with_reducible repeat (first|refine zz07 ?_ _|refine zz09 ?_|refine zz08 ?_ _));exact BK220.out) Tryz.underlying147 rfl (by kernel_rfl)) rfl ?_
   exact ⟨by first|rfl|(simp [errW_none,errW_some] <;> rfl)|(simp [*,errW_none,errW_some] <;> rfl),by repeat (first|(with_reducible first|exact HB.out|apply zz03|apply zz01|apply zz02|refine zz10 ?_ GE220.out|refine zz10 ?_ GE223.out)|exact HB.out)⟩

def almanackerref04_Of.j0 : Nat → Int → Int → Bool → Option (Int × Int × Int)
  | 0, _, _, _ => none
  | k + 1, x0, x1, x25 => if x25 = true then (some (0, 0, 3)) else ((almanackerref03_Before.f x0).bind fun bt227 => ((almanackerref04_Moon.f (wrap64 ((wrap64 (bt227.1 + x1)) - 1))).bind fun bt229 => (some (bt229.1, bt229.2.1, bt229.2.2))))
def almanackerref04_Of.f (k : Nat) (a0 : Int) (a1 : Int) : Option (Int × Int × Int) := (almanackerref03_In.f a0).bind fun bt225 => (if bt225.2 = 0 then (if a1 < 1 then (almanackerref04_Of.j0 k a0 a1 true) else (almanackerref04_Of.j0 k a0 a1 (decide (a1 > bt225.1)))) else (some (0, 0, bt225.2)))
set_option maxHeartbeats 8000000 in
set_option maxRecDepth 100000 in
theorem almanackerref04_Of.calls (k : Nat) (a0 : Int) (a1 : Int) (r1 : Int) (r2 : Int) (r3 : Int) (w : World) (h : almanackerref04_Of.f k a0 a1 = some (r1, r2, r3)) :
  Calls Tryz.prog 146 #[.int .i64 a0, .int .i64 a1] w fun e w' => e = .returned (.tuple #[.agg #[.int .i64 r1, .int .i64 r2], .int .i64 r3]) ∧ Below w.heap.size w w' := by
 have hu147 := Tryz.underlying147
 have HB := zz00 (Below.refl w.heap.size w)
 have H : ((almanackerref03_In.f a0).bind fun bt225=>(if bt225.2 = 0 then (if a1 < 1 then (almanackerref04_Of.j0 k a0 a1 true) else (almanackerref04_Of.j0 k a0 a1 (decide (a1 > bt225.1)))) else (some (0,0,bt225.2)))) = some (r1,r2,r3):=h
 clear h
 replace H := zz14.mp H
 obtain ⟨⟨t225, t226⟩, A30, H⟩ := H
 replace H : (if t226 = 0 then (if a1 < 1 then (almanackerref04_Of.j0 k a0 a1 true) else (almanackerref04_Of.j0 k a0 a1 (decide (a1 > t225)))) else (some (0, 0, t226))) = some (r1, r2, r3) := H
 have A3 := zz00 A30
 clear A30
 by_cases c4 : t226 = 0
 ·
  rw [if_pos c4] at H
  have c4b0 : (t226 == 0) = true := zz29.mpr c4
  have c4b1 : (t226 != 0) = false := zz26.mpr c4
  clear c4
  have HC5 := zz00 H
  clear H
  go_enter Tryz.func146, Tryz.ntmps146
  go_upto_region 4 with (first|((with_reducible refine zz24 (N:=4) rfl ?_);refine zz30 ?hg (N:=4) ?hd (cs:=#[.int .i64 0,.int .i64 0]) (t:=147) ?hr ?_;(case hd=>rfl);(case hg=>rfl);(case hr=>first|(go_simp;done)|(go_simp;rfl));intro gb224 hg w6 hbox hb;have n0_:=zz00 (zz21 (by repeat (first|(with_reducible first|exact HB.out|apply zz03|apply zz01|apply zz02)|exact HB.out)) hb);have n1_:=zz00 (hbox);have n2_:=zz00 ((by rw [hg];exact (zz22 (by repeat (first|(with_reducible first|exact HB.out|apply zz03|apply zz01|apply zz02)|exact HB.out))) : w.heap.size ≤ gb224));have n3_:=zz00 ((by rw [hg];exact (zz22 (by repeat (first|(with_reducible first|exact HB.out|apply zz03|apply zz01|apply zz02)|exact HB.out))) : w.heap.size ≤ gb224));clear HB;have HB:=n0_;have BK224:=n1_;have GW224:=n2_;have GE224:=n3_;clear n0_ n1_ n2_ n3_;clear hb hbox hg)|((with_reducible refine zz23 (f:=196) rfl ?_);refine zz25 (some 12) rfl rfl Tryz.func196 (by kernel_rfl) rfl #[.int .i64 a0] rfl (by (try simp only [List.map_toArray,List.map_cons,List.map_nil]);first|done|rfl|(simp only [List.length_drop,List.length_take];rfl)) ?_;(with_reducible refine (almanackerref03_In.calls a0 t225 t226 _ A3.out).mono ?_);rintro e w' ⟨rfl,⟨nd,rfl⟩⟩;refine ⟨_,rfl,?_⟩))
  (try simp only [Act.put, zz11, zz12, zz13])
  go_cut [25] (fun v25 wc=>∃ (kq : Nat) (x25_4 : Bool),v25 = .bool x25_4 ∧ Aside0 (almanackerref04_Of.j0 kq a0 a1 x25_4 = some (r1,r2,r3)) ∧ Aside0 (kq ≤ k) ∧ Aside0 (wc.heap[gb224]? = some (.cells #[.int .i64 0,.int .i64 0] 147 (0,0))) ∧ Aside0 (Below w.heap.size w wc))
  case first =>
   have H := HC5.out
   clear HC5
   by_cases c7 : a1 < 1
   ·
    rw [if_pos c7] at H
    have c7b0 : decide (a1 < 1) = true := decide_eq_true c7
    clear c7
    (first | rw [c7b0] | (simp only [i64_w, i32_w]; rw [c7b0]) | skip)
    have H' := zz00 H
    clear H
    go_wp2
    go_meet
    case rel=>exact ⟨_,(true),(by first|rfl|(simp;done)|(simp [*];done)),H',⟨by first|omega|exact Nat.le_refl _⟩,⟨by (with_reducible repeat (first|refine zz07 ?_ _|refine zz09 ?_|refine zz08 ?_ _));exact BK224.out⟩,⟨by repeat (first|(with_reducible first|exact HB.out|apply zz03|apply zz01|apply zz02|refine zz10 ?_ GE224.out)|exact HB.out)⟩⟩
   ·
    rw [if_neg c7] at H
    have c7b0 : decide (a1 < 1) = false := decide_eq_false c7
    clear c7
    (first | rw [c7b0] | (simp only [i64_w, i32_w]; rw [c7b0]) | skip)
    have H' := zz00 H
    clear H
    go_wp2
    go_meet
    case rel=>exact ⟨_,(decide (a1 > t225)),(by first|rfl|(simp;done)|(simp [*];done)),H',⟨by first|omega|exact Nat.le_refl _⟩,⟨by (with_reducible repeat (first|refine zz07 ?_ _|refine zz09 ?_|refine zz08 ?_ _));exact BK224.out⟩,⟨by repeat (first|(with_reducible first|exact HB.out|apply zz03|apply zz01|apply zz02|refine zz10 ?_ GE224.out)|exact HB.out)⟩⟩
  case rest =>
   clear HC5
   try clear c1
   try clear p2
   try clear c4
   try clear c4b0
   try clear c4b1
   try clear c7
   try clear c7b0
   obtain ⟨kq, x25_4, rfl, HA, HJ4, BK224, HB⟩ := hcut
   cases kq with
   | zero => exact absurd HA.out (by simp [almanackerref04_Of.j0])
   | succ kj4 =>
    have H := HA.out
    clear HA
    simp only [almanackerref04_Of.j0] at H
    by_cases c8 : x25_4 = true
    ·
     subst c8
     have H1 : (some (0, 0, 3)) = some (r1, r2, r3) := by rw [if_pos rfl] at H; exact H
     clear H
     have H := H1
     clear H1
     simp only [zz15, zz16] at H
     obtain ⟨rfl, rfl, rfl⟩ := H
     have hcz9_0 : wc.cell? ⟨gb224, 0, none⟩ = some (.int .i64 0) := (zz18 BK224.out 0).trans rfl
     have hcz9_1 : wc.cell? ⟨gb224, 1, none⟩ = some (.int .i64 0) := (zz18 BK224.out 1).trans rfl
     have hfz9_0 := zz17 BK224.out 0
     have hfz9_1 := zz17 BK224.out 1
     go_wp2
     refine bodyPost_ret (results_ct rfl _ _ gb224 147 #[.int .i64 0,.int .i64 0] (0,0) _ rfl (by (with_reducible repeat (first|refine zz07 ?_ _|refine zz09 ?_|refine zz08 ?_ _));refine zz35 (cs:=#[.int .i64 0,.int .i64 0]) ?_ 1 _ rfl;(with_reducible repeat (first|refine zz07 ?_ _|refine zz09 ?_|refine zz08 ?_ _));refine zz35 (cs:=#[.int .i64 0,.int .i64 0]) ?_ 0 _ rfl;(with_reducible repeat (first|refine zz07 ?_ _|refine zz09 ?_|refine zz08 ?_ _));exact BK224.out) Tryz.underlying147 rfl (by kernel_rfl)) rfl ?_
     exact ⟨by first|rfl|(simp [errW_none,errW_some] <;> rfl)|(simp [*,errW_none,errW_some] <;> rfl),by repeat (first|(with_reducible first|exact HB.out|apply zz03|apply zz01|apply zz02|refine zz10 ?_ GE224.out)|exact HB.out)⟩
    ·
     replace c8 := zz32.mpr c8
     subst c8
     have H1 : ((almanackerref03_Before.f a0).bind fun bt227=>((almanackerref04_Moon.f (wrap64 ((wrap64 (bt227.1 + a1)) - 1))).bind fun bt229=>(some (bt229.1,bt229.2.1,bt229.2.2)))) = some (r1,r2,r3):=by rw [if_neg (show ¬ (false = true) by decide)] at H;exact H
     clear H
     have H := H1
     clear H1
     replace H := zz14.mp H
     obtain ⟨⟨t227, t228⟩, A100, H⟩ := H
     replace H : ((almanackerref04_Moon.f (wrap64 ((wrap64 (t227 + a1)) - 1))).bind fun bt229 => (some (bt229.1, bt229.2.1, bt229.2.2))) = some (r1, r2, r3) := H
     have A10 := zz00 A100
     clear A100
     replace H := zz14.mp H
     obtain ⟨⟨t229, t230, t231⟩, A110, H⟩ := H
     replace H : (some (t229, t230, t231)) = some (r1, r2, r3) := H
     have A11 := zz00 A110
     clear A110
     simp only [zz15, zz16] at H
     obtain ⟨rfl, rfl, rfl⟩ := H
     go_wp2_with (first|((with_reducible refine zz23 (f:=197) rfl ?_);refine zz25 (some 29) rfl rfl Tryz.func197 (by kernel_rfl) rfl #[.int .i64 a0] rfl (by (try simp only [List.map_toArray,List.map_cons,List.map_nil]);first|done|rfl|(simp only [List.length_drop,List.length_take];rfl)) ?_;(with_reducible refine (almanackerref03_Before.calls a0 t227 t228 _ A10.out).mono ?_);rintro e w' ⟨rfl,⟨nd,rfl⟩⟩;refine ⟨_,rfl,?_⟩;(try (rw [drewN_self wc];generalize hq_ : World.drewN wc _ = wc;have n0_ : Aside0 (wc.heap[gb224]? = some (.cells #[.int .i64 0,.int .i64 0] 147 (0,0))):=⟨by rw [← hq_];exact (by (with_reducible repeat (first|refine zz07 ?_ _|refine zz09 ?_|refine zz08 ?_ _));exact BK224.out)⟩;have n1_ : Aside0 (Below w.heap.size w wc):=⟨by rw [← hq_];exact (by repeat (first|(with_reducible first|exact HB.out|apply zz03|apply zz01|apply zz02|refine zz10 ?_ GE224.out)|exact HB.out))⟩;clear BK224 HB hq_;have BK224:=n0_;have HB:=n1_;clear n0_ n1_)))|((with_reducible refine zz23 (f:=198) rfl ?_);refine zz25 (some 36) rfl rfl Tryz.func198 (by kernel_rfl) rfl #[.int .i64 (wrap64 ((wrap64 (t227 + a1)) - 1))] rfl (by (try simp only [List.map_toArray,List.map_cons,List.map_nil]);first|done|rfl|(simp only [List.length_drop,List.length_take];rfl)) ?_;(with_reducible refine (almanackerref04_Moon.calls (wrap64 ((wrap64 (t227 + a1)) - 1)) t229 t230 t231 _ A11.out).mono ?_);rintro e w12 ⟨rfl,hb⟩;refine ⟨_,rfl,?_⟩;have n0_:=zz00 (zz34 (g:=gb224) (o:=.cells #[.int .i64 0,.int .i64 0] 147 (0,0)) (by (with_reducible repeat (first|refine zz07 ?_ _|refine zz09 ?_|refine zz08 ?_ _));exact BK224.out) hb);have n1_:=zz00 (zz21 (by repeat (first|(with_reducible first|exact HB.out|apply zz03|apply zz01|apply zz02|refine zz10 ?_ GE224.out)|exact HB.out)) hb);clear BK224;clear HB;have BK224:=n0_;have HB:=n1_;clear n0_ n1_;(try clear hb);(try clear hb2);(try clear hk);(try clear hi);have hcz13_0 : w12.cell? ⟨gb224,0,none⟩ = some (.int .i64 0):=(zz18 BK224.out 0).trans rfl;have hcz13_1 : w12.cell? ⟨gb224,1,none⟩ = some (.int .i64 0):=(zz18 BK224.out 1).trans rfl;have hfz13_0:=zz17 BK224.out 0;have hfz13_1:=zz17 BK224.out 1))
     refine bodyPost_ret (results_ct rfl _ _ gb224 147 #[.int .i64 t229,.int .i64 t230] (0,0) _ rfl (by (with_reducible repeat (first|refine zz07 ?_ _|refine zz09 ?_|refine zz08 ?_ _));refine zz35 (cs:=#[.int .i64 t229,.int .i64 0]) ?_ 1 _ rfl;(with_reducible repeat (first|refine zz07 ?_ _|refine zz09 ?_|refine zz08 ?_ _));refine zz35 (cs:=#[.int .i64 0,.int .i64 0]) ?_ 0 _ rfl;(with_reducible repeat (first|refine zz07 ?_ _|refine zz09 ?_|refine zz08 ?_ _));exact BK224.out) Tryz.underlying147 rfl (by kernel_rfl)) rfl ?_
     exact ⟨by first|rfl|(simp [errW_none,errW_some] <;> rfl)|(simp [*,errW_none,errW_some] <;> rfl),by repeat (first|(with_reducible first|exact HB.out|apply zz03|apply zz01|apply zz02|refine zz10 ?_ GE224.out)|exact HB.out)⟩
 ·
  rw [if_neg c4] at H
  have c4b0 : (t226 == 0) = false := zz27.mpr c4
  have c4b1 : (t226 != 0) = true := zz28.mpr c4
  simp only [zz15, zz16] at H
  obtain ⟨rfl, rfl, rfl⟩ := H
  go_enter Tryz.func146, Tryz.ntmps146
  go_wp2_with (first|((with_reducible refine zz24 (N:=4) rfl ?_);refine zz30 ?hg (N:=4) ?hd (cs:=#[.int .i64 0,.int .i64 0]) (t:=147) ?hr ?_;(case hd=>rfl);(case hg=>rfl);(case hr=>first|(go_simp;done)|(go_simp;rfl));intro gb224 hg w14 hbox hb;have n0_:=zz00 (zz21 (by repeat (first|(with_reducible first|exact HB.out|apply zz03|apply zz01|apply zz02)|exact HB.out)) hb);have n1_:=zz00 (hbox);have n2_:=zz00 ((by rw [hg];exact (zz22 (by repeat (first|(with_reducible first|exact HB.out|apply zz03|apply zz01|apply zz02)|exact HB.out))) : w.heap.size ≤ gb224));have n3_:=zz00 ((by rw [hg];exact (zz22 (by repeat (first|(with_reducible first|exact HB.out|apply zz03|apply zz01|apply zz02)|exact HB.out))) : w.heap.size ≤ gb224));clear HB;have HB:=n0_;have BK224:=n1_;have GW224:=n2_;have GE224:=n3_;clear n0_ n1_ n2_ n3_;clear hb hbox hg)|((with_reducible refine zz23 (f:=196) rfl ?_);refine zz25 (some 12) rfl rfl Tryz.func196 (by kernel_rfl) rfl #[.int .i64 a0] rfl (by (try simp only [List.map_toArray,List.map_cons,List.map_nil]);first|done|rfl|(simp only [List.length_drop,List.length_take];rfl)) ?_;(with_reducible refine (almanackerref03_In.calls a0 t225 t226 _ A3.out).mono ?_);rintro e w' ⟨rfl,⟨nd,rfl⟩⟩;refine ⟨_,rfl,?_⟩;(try (rw [drewN_self w14];generalize hq_ : World.drewN w14 _ = w14;have n0_ : Aside0 (w14.heap[gb224]? = some (.cells #[.int .i64 0,.int .i64 0] 147 (0,0))):=⟨by rw [← hq_];exact (by (with_reducible repeat (first|refine zz07 ?_ _|refine zz09 ?_|refine zz08 ?_ _));exact BK224.out)⟩;have n1_ : Aside0 (Below w.heap.size w w14):=⟨by rw [← hq_];exact (by repeat (first|(with_reducible first|exact HB.out|apply zz03|apply zz01|apply zz02|refine zz10 ?_ GE224.out)|exact HB.out))⟩;clear BK224 HB hq_;have BK224:=n0_;have HB:=n1_;clear n0_ n1_));have hcz15_0 : w14.cell? ⟨gb224,0,none⟩ = some (.int .i64 0):=(zz18 BK224.out 0).trans rfl;have hcz15_1 : w14.cell? ⟨gb224,1,none⟩ = some (.int .i64 0):=(zz18 BK224.out 1).trans rfl;have hfz15_0:=zz17 BK224.out 0;have hfz15_1:=zz17 BK224.out 1))
  refine bodyPost_ret (results_ct rfl _ _ gb224 147 #[.int .i64 0,.int .i64 0] (0,0) _ rfl (by (with_reducible repeat (first|refine zz07 ?_ _|refine zz09 ?_|refine zz08 ?_ _));refine zz35 (cs:=#[.int .i64 0,.int .i64 0]) ?_ 1 _ rfl;(with_reducible repeat (first|refine zz07 ?_ _|refine zz09 ?_|refine zz08 ?_ _));refine zz35 (cs:=#[.int .i64 0,.int .i64 0]) ?_ 0 _ rfl;(with_reducible repeat (first|refine zz07 ?_ _|refine zz09 ?_|refine zz08 ?_ _));exact BK224.out) Tryz.underlying147 rfl (by kernel_rfl)) rfl ?_
  exact ⟨by first|rfl|(simp [errW_none,errW_some] <;> rfl)|(simp [*,errW_none,errW_some] <;> rfl),by repeat (first|(with_reducible first|exact HB.out|apply zz03|apply zz01|apply zz02|refine zz10 ?_ GE224.out)|exact HB.out)⟩

end Go.Proofs.YtflpddhoiafhcaaGreatDoor.R
end

section
-- Written by wip/hprint.py of this repo (holes typed by hand, all else by a program) over the seat YtflpddhoiafhcaaGreatDoor.
namespace Go.Proofs.YtflpddhoiafhcaaGreatDoor.R
open Go.Proofs.YtflpddhoiafhcaaGreatDoor.H
open Go.RowKit Go.Proofs.YtflpddhoiafhcaaGreatDoorW.PrintWords Go.Proofs.YtflpddhoiafhcaaGreatDoorW.PrintLast Go.Proofs.YtflpddhoiafhcaaGreatDoorW.PrintMore
attribute [local go_sem] max2_int min2_int max_two min_two max_three min_three max_four min_four   -- for this text's walks alone
set_option linter.unusedVariables false
set_option linter.unusedSimpArgs false

mutual
def almanackerref05_Delay.j0 : Nat → Bool → Int → Int → Bool → Int → Int → Option (Int)
  | 0, _, _, _, _, _, _ => none
  | k + 1, x2, x7, x8, x25, x233000, x233001 => if x25 = true then (if (Int.tmod (wrap64 (x7 + 1)) 7) = 0 then (some (1 + 1)) else (if (Int.tmod (wrap64 (x7 + 1)) 7) = 3 then (some (1 + 1)) else (if (Int.tmod (wrap64 (x7 + 1)) 7) = 5 then (some (1 + 1)) else (some 1)))) else (if x2 = true then (if x7 = 1 then (almanackerref05_Delay.j1 k x7 x8 (decide (x233001 ≥ 16789))) else (almanackerref05_Delay.j1 k x7 x8 false)) else (almanackerref05_Delay.j1 k x7 x8 false))
def almanackerref05_Delay.j1 : Nat → Int → Int → Bool → Option (Int)
  | 0, _, _, _ => none
  | k + 1, x7, x8, x35 => if x35 = true then (if (Int.tmod (wrap64 (x7 + 1)) 7) = 0 then (some (1 + 1)) else (if (Int.tmod (wrap64 (x7 + 1)) 7) = 3 then (some (1 + 1)) else (if (Int.tmod (wrap64 (x7 + 1)) 7) = 5 then (some (1 + 1)) else (some 1)))) else (if (Int.tmod (wrap64 (x7 + x8)) 7) = 0 then (some (wrap64 (x8 + 1))) else (if (Int.tmod (wrap64 (x7 + x8)) 7) = 3 then (some (wrap64 (x8 + 1))) else (if (Int.tmod (wrap64 (x7 + x8)) 7) = 5 then (some (wrap64 (x8 + 1))) else (some x8))))
end
def almanackerref05_Delay.f (k : Nat) (a0_0 : Int) (a0_1 : Int) (a1 : Bool) (a2 : Bool) : Option (Int) := (almanackerref04_Weekday.f a0_0).bind fun t233 => (if a0_1 ≥ 19440 then (if (Int.tmod (wrap64 (t233 + 1)) 7) = 0 then (some (1 + 1)) else (if (Int.tmod (wrap64 (t233 + 1)) 7) = 3 then (some (1 + 1)) else (if (Int.tmod (wrap64 (t233 + 1)) 7) = 5 then (some (1 + 1)) else (some 1)))) else (if a1 = true then (almanackerref05_Delay.j0 k a2 t233 0 false a0_0 a0_1) else (if t233 = 2 then (almanackerref05_Delay.j0 k a2 t233 0 (decide (a0_1 ≥ 9924)) a0_0 a0_1) else (almanackerref05_Delay.j0 k a2 t233 0 false a0_0 a0_1))))
set_option maxHeartbeats 8000000 in
set_option maxRecDepth 100000 in
theorem almanackerref05_Delay.calls (k : Nat) (a0_0 : Int) (a0_1 : Int) (a1 : Bool) (a2 : Bool) (r : Int) (w : World) (h : almanackerref05_Delay.f k a0_0 a0_1 a1 a2 = some r) :
  Calls Tryz.prog 147 #[.agg #[.int .i64 a0_0, .int .i64 a0_1], .bool a1, .bool a2] w fun e w' => e = .returned (.int .i64 r) ∧ Below w.heap.size w w' := by
 have hu147 := Tryz.underlying147
 have HB := zz00 (Below.refl w.heap.size w)
 have H : ((almanackerref04_Weekday.f a0_0).bind fun t233=>(if a0_1 ≥ 19440 then (if (Int.tmod (wrap64 (t233 + 1)) 7) = 0 then (some (1 + 1)) else (if (Int.tmod (wrap64 (t233 + 1)) 7) = 3 then (some (1 + 1)) else (if (Int.tmod (wrap64 (t233 + 1)) 7) = 5 then (some (1 + 1)) else (some 1)))) else (if a1 = true then (almanackerref05_Delay.j0 k a2 t233 0 false a0_0 a0_1) else (if t233 = 2 then (almanackerref05_Delay.j0 k a2 t233 0 (decide (a0_1 ≥ 9924)) a0_0 a0_1) else (almanackerref05_Delay.j0 k a2 t233 0 false a0_0 a0_1))))) = some r:=h
 clear h
 replace H := zz14.mp H
 obtain ⟨t233, A40, H⟩ := H
 replace H : (if a0_1 ≥ 19440 then (if (Int.tmod (wrap64 (t233 + 1)) 7) = 0 then (some (1 + 1)) else (if (Int.tmod (wrap64 (t233 + 1)) 7) = 3 then (some (1 + 1)) else (if (Int.tmod (wrap64 (t233 + 1)) 7) = 5 then (some (1 + 1)) else (some 1)))) else (if a1 = true then (almanackerref05_Delay.j0 k a2 t233 0 false a0_0 a0_1) else (if t233 = 2 then (almanackerref05_Delay.j0 k a2 t233 0 (decide (a0_1 ≥ 9924)) a0_0 a0_1) else (almanackerref05_Delay.j0 k a2 t233 0 false a0_0 a0_1)))) = some r:=H
 have A4 := zz00 A40
 clear A40
 by_cases c5 : a0_1 ≥ 19440
 ·
  rw [if_pos c5] at H
  have c5b0 : decide (19440 ≤ a0_1) = true := decide_eq_true c5
  clear c5
  by_cases c6 : (Int.tmod (wrap64 (t233 + 1)) 7) = 0
  ·
   rw [if_pos c6] at H
   have c6b0 : ((Int.tmod (wrap64 (t233 + 1)) 7) == 0) = true := zz29.mpr c6
   have c6b1 : ((Int.tmod (wrap64 (t233 + 1)) 7) != 0) = false := zz26.mpr c6
   clear c6
   obtain rfl := Option.some.inj H
   go_enter Tryz.func147, Tryz.ntmps147
   go_wp2_with (first|((with_reducible refine zz24 (N:=3) rfl ?_);refine zz30 ?hg (N:=3) ?hd (cs:=#[.int .i64 a0_0,.int .i64 a0_1]) (t:=147) ?hr ?_;(case hd=>rfl);(case hg=>rfl);(case hr=>first|(go_simp;done)|(go_simp;rfl));intro gb232 hg w7 hbox hb;have n0_:=zz00 (zz21 (by repeat (first|(with_reducible first|exact HB.out|apply zz03|apply zz01|apply zz02)|exact HB.out)) hb);have n1_:=zz00 (hbox);have n2_:=zz00 ((by rw [hg];exact (zz22 (by repeat (first|(with_reducible first|exact HB.out|apply zz03|apply zz01|apply zz02)|exact HB.out))) : w.heap.size ≤ gb232));have n3_:=zz00 ((by rw [hg];exact (zz22 (by repeat (first|(with_reducible first|exact HB.out|apply zz03|apply zz01|apply zz02)|exact HB.out))) : w.heap.size ≤ gb232));clear HB;have HB:=n0_;have BK232:=n1_;have GW232:=n2_;have GE232:=n3_;clear n0_ n1_ n2_ n3_;clear hb hbox hg;have hcz8_0 : w7.cell? ⟨gb232,0,none⟩ = some (.int .i64 a0_0):=(zz18 BK232.out 0).trans rfl;have hcz8_1 : w7.cell? ⟨gb232,1,none⟩ = some (.int .i64 a0_1):=(zz18 BK232.out 1).trans rfl;have hfz8_0:=zz17 BK232.out 0;have hfz8_1:=zz17 BK232.out 1)|((with_reducible refine zz23 (f:=90) rfl ?_);refine zz25 (some 11) rfl rfl Tryz.func90 (by kernel_rfl) rfl #[.int .i64 a0_0] rfl (by (try simp only [List.map_toArray,List.map_cons,List.map_nil]);first|done|rfl|(simp only [List.length_drop,List.length_take];rfl)) ?_;(with_reducible refine (almanackerref04_Weekday.calls a0_0 t233 _ A4.out).mono ?_);rintro e w' ⟨rfl,⟨nd,rfl⟩⟩;refine ⟨_,rfl,?_⟩))
   go_ret
   exact ⟨by first|rfl|(simp [errW_none,errW_some] <;> rfl)|(simp [*,errW_none,errW_some] <;> rfl),by repeat (first|(with_reducible first|exact HB.out|apply zz03|apply zz01|apply zz02|refine zz10 ?_ GE232.out)|exact HB.out)⟩
  ·
   rw [if_neg c6] at H
   have c6b0 : ((Int.tmod (wrap64 (t233 + 1)) 7) == 0) = false := zz27.mpr c6
   have c6b1 : ((Int.tmod (wrap64 (t233 + 1)) 7) != 0) = true := zz28.mpr c6
   by_cases c9 : (Int.tmod (wrap64 (t233 + 1)) 7) = 3
   ·
    rw [if_pos c9] at H
    have c9b0 : ((Int.tmod (wrap64 (t233 + 1)) 7) == 3) = true := zz29.mpr c9
    have c9b1 : ((Int.tmod (wrap64 (t233 + 1)) 7) != 3) = false := zz26.mpr c9
    clear c9
    obtain rfl := Option.some.inj H
    go_enter Tryz.func147, Tryz.ntmps147
    go_wp2_with (first|((with_reducible refine zz24 (N:=3) rfl ?_);refine zz30 ?hg (N:=3) ?hd (cs:=#[.int .i64 a0_0,.int .i64 a0_1]) (t:=147) ?hr ?_;(case hd=>rfl);(case hg=>rfl);(case hr=>first|(go_simp;done)|(go_simp;rfl));intro gb232 hg w10 hbox hb;have n0_:=zz00 (zz21 (by repeat (first|(with_reducible first|exact HB.out|apply zz03|apply zz01|apply zz02)|exact HB.out)) hb);have n1_:=zz00 (hbox);have n2_:=zz00 ((by rw [hg];exact (zz22 (by repeat (first|(with_reducible first|exact HB.out|apply zz03|apply zz01|apply zz02)|exact HB.out))) : w.heap.size ≤ gb232));have n3_:=zz00 ((by rw [hg];exact (zz22 (by repeat (first|(with_reducible first|exact HB.out|apply zz03|apply zz01|apply zz02)|exact HB.out))) : w.heap.size ≤ gb232));clear HB;have HB:=n0_;have BK232:=n1_;have GW232:=n2_;have GE232:=n3_;clear n0_ n1_ n2_ n3_;clear hb hbox hg;have hcz11_0 : w10.cell? ⟨gb232,0,none⟩ = some (.int .i64 a0_0):=(zz18 BK232.out 0).trans rfl;have hcz11_1 : w10.cell? ⟨gb232,1,none⟩ = some (.int .i64 a0_1):=(zz18 BK232.out 1).trans rfl;have hfz11_0:=zz17 BK232.out 0;have hfz11_1:=zz17 BK232.out 1)|((with_reducible refine zz23 (f:=90) rfl ?_);refine zz25 (some 11) rfl rfl Tryz.func90 (by kernel_rfl) rfl #[.int .i64 a0_0] rfl (by (try simp only [List.map_toArray,List.map_cons,List.map_nil]);first|done|rfl|(simp only [List.length_drop,List.length_take];rfl)) ?_;(with_reducible refine (almanackerref04_Weekday.calls a0_0 t233 _ A4.out).mono ?_);rintro e w' ⟨rfl,⟨nd,rfl⟩⟩;refine ⟨_,rfl,?_⟩))
    go_ret
    exact ⟨by first|rfl|(simp [errW_none,errW_some] <;> rfl)|(simp [*,errW_none,errW_some] <;> rfl),by repeat (first|(with_reducible first|exact HB.out|apply zz03|apply zz01|apply zz02|refine zz10 ?_ GE232.out)|exact HB.out)⟩
   ·
    rw [if_neg c9] at H
    have c9b0 : ((Int.tmod (wrap64 (t233 + 1)) 7) == 3) = false := zz27.mpr c9
    have c9b1 : ((Int.tmod (wrap64 (t233 + 1)) 7) != 3) = true := zz28.mpr c9
    by_cases c12 : (Int.tmod (wrap64 (t233 + 1)) 7) = 5
    ·
     rw [if_pos c12] at H
     have c12b0 : ((Int.tmod (wrap64 (t233 + 1)) 7) == 5) = true := zz29.mpr c12
     have c12b1 : ((Int.tmod (wrap64 (t233 + 1)) 7) != 5) = false := zz26.mpr c12
     clear c12
     obtain rfl := Option.some.inj H
     go_enter Tryz.func147, Tryz.ntmps147
     go_wp2_with (first|((with_reducible refine zz24 (N:=3) rfl ?_);refine zz30 ?hg (N:=3) ?hd (cs:=#[.int .i64 a0_0,.int .i64 a0_1]) (t:=147) ?hr ?_;(case hd=>rfl);(case hg=>rfl);(case hr=>first|(go_simp;done)|(go_simp;rfl));intro gb232 hg w13 hbox hb;have n0_:=zz00 (zz21 (by repeat (first|(with_reducible first|exact HB.out|apply zz03|apply zz01|apply zz02)|exact HB.out)) hb);have n1_:=zz00 (hbox);have n2_:=zz00 ((by rw [hg];exact (zz22 (by repeat (first|(with_reducible first|exact HB.out|apply zz03|apply zz01|apply zz02)|exact HB.out))) : w.heap.size ≤ gb232));have n3_:=zz00 ((by rw [hg];exact (zz22 (by repeat (first|(with_reducible first|exact HB.out|apply zz03|apply zz01|apply zz02)|exact HB.out))) : w.heap.size ≤ gb232));clear HB;have HB:=n0_;have BK232:=n1_;have GW232:=n2_;have GE232:=n3_;clear n0_ n1_ n2_ n3_;clear hb hbox hg;have hcz14_0 : w13.cell? ⟨gb232,0,none⟩ = some (.int .i64 a0_0):=(zz18 BK232.out 0).trans rfl;have hcz14_1 : w13.cell? ⟨gb232,1,none⟩ = some (.int .i64 a0_1):=(zz18 BK232.out 1).trans rfl;have hfz14_0:=zz17 BK232.out 0;have hfz14_1:=zz17 BK232.out 1)|((with_reducible refine zz23 (f:=90) rfl ?_);refine zz25 (some 11) rfl rfl Tryz.func90 (by kernel_rfl) rfl #[.int .i64 a0_0] rfl (by (try simp only [List.map_toArray,List.map_cons,List.map_nil]);first|done|rfl|(simp only [List.length_drop,List.length_take];rfl)) ?_;(with_reducible refine (almanackerref04_Weekday.calls a0_0 t233 _ A4.out).mono ?_);rintro e w' ⟨rfl,⟨nd,rfl⟩⟩;refine ⟨_,rfl,?_⟩))
     go_ret
     exact ⟨by first|rfl|(simp [errW_none,errW_some] <;> rfl)|(simp [*,errW_none,errW_some] <;> rfl),by repeat (first|(with_reducible first|exact HB.out|apply zz03|apply zz01|apply zz02|refine zz10 ?_ GE232.out)|exact HB.out)⟩
    ·
     rw [if_neg c12] at H
     have c12b0 : ((Int.tmod (wrap64 (t233 + 1)) 7) == 5) = false := zz27.mpr c12
     have c12b1 : ((Int.tmod (wrap64 (t233 + 1)) 7) != 5) = true := zz28.mpr c12
     obtain rfl := Option.some.inj H
     go_enter Tryz.func147, Tryz.ntmps147
     go_wp2_with (first|((with_reducible refine zz24 (N:=3) rfl ?_);refine zz30 ?hg (N:=3) ?hd (cs:=#[.int .i64 a0_0,.int .i64 a0_1]) (t:=147) ?hr ?_;(case hd=>rfl);(case hg=>rfl);(case hr=>first|(go_simp;done)|(go_simp;rfl));intro gb232 hg w15 hbox hb;have n0_:=zz00 (zz21 (by repeat (first|(with_reducible first|exact HB.out|apply zz03|apply zz01|apply zz02)|exact HB.out)) hb);have n1_:=zz00 (hbox);have n2_:=zz00 ((by rw [hg];exact (zz22 (by repeat (first|(with_reducible first|exact HB.out|apply zz03|apply zz01|apply zz02)|exact HB.out))) : w.heap.size ≤ gb232));have n3_:=zz00 ((by rw [hg];exact (zz22 (by repeat (first|(with_reducible first|exact HB.out|apply zz03|apply zz01|apply zz02)|exact HB.out))) : w.heap.size ≤ gb232));clear HB;have HB:=n0_;have BK232:=n1_;have GW232:=n2_;have GE232:=n3_;clear n0_ n1_ n2_ n3_;clear hb hbox hg;have hcz16_0 : w15.cell? ⟨gb232,0,none⟩ = some (.int .i64 a0_0):=(zz18 BK232.out 0).trans rfl;have hcz16_1 : w15.cell? ⟨gb232,1,none⟩ = some (.int .i64 a0_1):=(zz18 BK232.out 1).trans rfl;have hfz16_0:=zz17 BK232.out 0;have hfz16_1:=zz17 BK232.out 1)|((with_reducible refine zz23 (f:=90) rfl ?_);refine zz25 (some 11) rfl rfl Tryz.func90 (by kernel_rfl) rfl #[.int .i64 a0_0] rfl (by (try simp only [List.map_toArray,List.map_cons,List.map_nil]);first|done|rfl|(simp only [List.length_drop,List.length_take];rfl)) ?_;(with_reducible refine (almanackerref04_Weekday.calls a0_0 t233 _ A4.out).mono ?_);rintro e w' ⟨rfl,⟨nd,rfl⟩⟩;refine ⟨_,rfl,?_⟩))
     go_ret
     exact ⟨by first|rfl|(simp [errW_none,errW_some] <;> rfl)|(simp [*,errW_none,errW_some] <;> rfl),by repeat (first|(with_reducible first|exact HB.out|apply zz03|apply zz01|apply zz02|refine zz10 ?_ GE232.out)|exact HB.out)⟩
 ·
  rw [if_neg c5] at H
  have c5b0 : decide (19440 ≤ a0_1) = false := decide_eq_false c5
  clear c5
  have HC17 := zz00 H
  clear H
  go_enter Tryz.func147, Tryz.ntmps147
  go_upto_region 5 with (first|((with_reducible refine zz24 (N:=3) rfl ?_);refine zz30 ?hg (N:=3) ?hd (cs:=#[.int .i64 a0_0,.int .i64 a0_1]) (t:=147) ?hr ?_;(case hd=>rfl);(case hg=>rfl);(case hr=>first|(go_simp;done)|(go_simp;rfl));intro gb232 hg w18 hbox hb;have n0_:=zz00 (zz21 (by repeat (first|(with_reducible first|exact HB.out|apply zz03|apply zz01|apply zz02)|exact HB.out)) hb);have n1_:=zz00 (hbox);have n2_:=zz00 ((by rw [hg];exact (zz22 (by repeat (first|(with_reducible first|exact HB.out|apply zz03|apply zz01|apply zz02)|exact HB.out))) : w.heap.size ≤ gb232));have n3_:=zz00 ((by rw [hg];exact (zz22 (by repeat (first|(with_reducible first|exact HB.out|apply zz03|apply zz01|apply zz02)|exact HB.out))) : w.heap.size ≤ gb232));clear HB;have HB:=n0_;have BK232:=n1_;have GW232:=n2_;have GE232:=n3_;clear n0_ n1_ n2_ n3_;clear hb hbox hg;have hcz19_0 : w18.cell? ⟨gb232,0,none⟩ = some (.int .i64 a0_0):=(zz18 BK232.out 0).trans rfl;have hcz19_1 : w18.cell? ⟨gb232,1,none⟩ = some (.int .i64 a0_1):=(zz18 BK232.out 1).trans rfl;have hfz19_0:=zz17 BK232.out 0;have hfz19_1:=zz17 BK232.out 1)|((with_reducible refine zz23 (f:=90) rfl ?_);refine zz25 (some 11) rfl rfl Tryz.func90 (by kernel_rfl) rfl #[.int .i64 a0_0] rfl (by (try simp only [List.map_toArray,List.map_cons,List.map_nil]);first|done|rfl|(simp only [List.length_drop,List.length_take];rfl)) ?_;(with_reducible refine (almanackerref04_Weekday.calls a0_0 t233 _ A4.out).mono ?_);rintro e w' ⟨rfl,⟨nd,rfl⟩⟩;refine ⟨_,rfl,?_⟩))
  (try simp only [Act.put, zz11, zz12, zz13])
  go_cut [25] (fun v25 wc=>∃ (kq : Nat) (x25_16 : Bool),v25 = .bool x25_16 ∧ Aside0 (almanackerref05_Delay.j0 kq a2 t233 0 x25_16 a0_0 a0_1 = some r) ∧ Aside0 (kq ≤ k) ∧ Aside0 (wc.heap[gb232]? = some (.cells #[.int .i64 a0_0,.int .i64 a0_1] 147 (0,0))) ∧ Aside0 (Below w.heap.size w wc))
  case first =>
   have H := HC17.out
   clear HC17
   by_cases c20 : a1 = true
   ·
    subst c20
    have H1 : (almanackerref05_Delay.j0 k a2 t233 0 false a0_0 a0_1) = some r := by rw [if_pos rfl] at H; exact H
    clear H
    have H := H1
    clear H1
    have H' := zz00 H
    clear H
    go_wp2
    go_meet
    case rel=>exact ⟨_,(false),(by first|rfl|(simp;done)|(simp [*];done)),H',⟨by first|omega|exact Nat.le_refl _⟩,⟨by (with_reducible repeat (first|refine zz07 ?_ _|refine zz09 ?_|refine zz08 ?_ _));exact BK232.out⟩,⟨by repeat (first|(with_reducible first|exact HB.out|apply zz03|apply zz01|apply zz02|refine zz10 ?_ GE232.out)|exact HB.out)⟩⟩
   ·
    replace c20 := zz32.mpr c20
    subst c20
    have H1 : (if t233 = 2 then (almanackerref05_Delay.j0 k a2 t233 0 (decide (a0_1 ≥ 9924)) a0_0 a0_1) else (almanackerref05_Delay.j0 k a2 t233 0 false a0_0 a0_1)) = some r:=by rw [if_neg (show ¬ (false = true) by decide)] at H;exact H
    clear H
    have H := H1
    clear H1
    by_cases c21 : t233 = 2
    ·
     rw [if_pos c21] at H
     have c21b0 : (t233 == 2) = true := zz29.mpr c21
     have c21b1 : (t233 != 2) = false := zz26.mpr c21
     clear c21
     (first | rw [c21b0] | (simp only [i64_w, i32_w]; rw [c21b0]) | skip)
     have H' := zz00 H
     clear H
     have hcz22_0 : w18.cell? ⟨gb232, 0, none⟩ = some (.int .i64 a0_0) := (zz18 BK232.out 0).trans rfl
     have hcz22_1 : w18.cell? ⟨gb232, 1, none⟩ = some (.int .i64 a0_1) := (zz18 BK232.out 1).trans rfl
     have hfz22_0 := zz17 BK232.out 0
     have hfz22_1 := zz17 BK232.out 1
     go_wp2
     go_meet
     case rel=>exact ⟨_,(decide (a0_1 ≥ 9924)),(by first|rfl|(simp;done)|(simp [*];done)),H',⟨by first|omega|exact Nat.le_refl _⟩,⟨by (with_reducible repeat (first|refine zz07 ?_ _|refine zz09 ?_|refine zz08 ?_ _));exact BK232.out⟩,⟨by repeat (first|(with_reducible first|exact HB.out|apply zz03|apply zz01|apply zz02|refine zz10 ?_ GE232.out)|exact HB.out)⟩⟩
    ·
     rw [if_neg c21] at H
     have c21b0 : (t233 == 2) = false := zz27.mpr c21
     have c21b1 : (t233 != 2) = true := zz28.mpr c21
     (first | rw [c21b0] | (simp only [i64_w, i32_w]; rw [c21b0]) | skip)
     have H' := zz00 H
     clear H
     go_wp2
     go_meet
     case rel=>exact ⟨_,(false),(by first|rfl|(simp;done)|(simp [*];done)),H',⟨by first|omega|exact Nat.le_refl _⟩,⟨by (with_reducible repeat (first|refine zz07 ?_ _|refine zz09 ?_|refine zz08 ?_ _));exact BK232.out⟩,⟨by repeat (first|(with_reducible first|exact HB.out|apply zz03|apply zz01|apply zz02|refine zz10 ?_ GE232.out)|exact HB.out)⟩⟩
  case rest =>
   clear HC17
   try clear c1
   try clear c2
   try clear p2
   try clear c5
   try clear c5b0
   try clear c6
   try clear c6b0
   try clear c6b1
   try clear p6
   try clear c9
   try clear c9b0
   try clear c9b1
   try clear c12
   try clear c12b0
   try clear c12b1
   try clear c14
   try clear c20
   try clear c21
   try clear c21b0
   try clear c21b1
   try clear hcz11_0
   try clear hcz11_1
   try clear hcz14_0
   try clear hcz14_1
   try clear hcz16_0
   try clear hcz16_1
   try clear hcz19_0
   try clear hcz19_1
   try clear hcz22_0
   try clear hcz22_1
   try clear hcz8_0
   try clear hcz8_1
   try clear hfz11_0
   try clear hfz11_1
   try clear hfz14_0
   try clear hfz14_1
   try clear hfz16_0
   try clear hfz16_1
   try clear hfz19_0
   try clear hfz19_1
   try clear hfz22_0
   try clear hfz22_1
   try clear hfz8_0
   try clear hfz8_1
   obtain ⟨kq, x25_16, rfl, HA, HJ16, BK232, HB⟩ := hcut
   cases kq with
   | zero => exact absurd HA.out (by simp [almanackerref05_Delay.j0])
   | succ kj16 =>
    have H := HA.out
    clear HA
    simp only [almanackerref05_Delay.j0] at H
    by_cases c23 : x25_16 = true
    ·
     subst c23
     have H1 : (if (Int.tmod (wrap64 (t233 + 1)) 7) = 0 then (some (1 + 1)) else (if (Int.tmod (wrap64 (t233 + 1)) 7) = 3 then (some (1 + 1)) else (if (Int.tmod (wrap64 (t233 + 1)) 7) = 5 then (some (1 + 1)) else (some 1)))) = some r:=by rw [if_pos rfl] at H;exact H
     clear H
     have H := H1
     clear H1
     by_cases c24 : (Int.tmod (wrap64 (t233 + 1)) 7) = 0
     ·
      rw [if_pos c24] at H
      have c24b0 : ((Int.tmod (wrap64 (t233 + 1)) 7) == 0) = true := zz29.mpr c24
      have c24b1 : ((Int.tmod (wrap64 (t233 + 1)) 7) != 0) = false := zz26.mpr c24
      clear c24
      obtain rfl := Option.some.inj H
      go_wp2
      go_ret
      exact ⟨by first|rfl|(simp [errW_none,errW_some] <;> rfl)|(simp [*,errW_none,errW_some] <;> rfl),by repeat (first|(with_reducible first|exact HB.out|apply zz03|apply zz01|apply zz02|refine zz10 ?_ GE232.out)|exact HB.out)⟩
     ·
      rw [if_neg c24] at H
      have c24b0 : ((Int.tmod (wrap64 (t233 + 1)) 7) == 0) = false := zz27.mpr c24
      have c24b1 : ((Int.tmod (wrap64 (t233 + 1)) 7) != 0) = true := zz28.mpr c24
      by_cases c25 : (Int.tmod (wrap64 (t233 + 1)) 7) = 3
      ·
       rw [if_pos c25] at H
       have c25b0 : ((Int.tmod (wrap64 (t233 + 1)) 7) == 3) = true := zz29.mpr c25
       have c25b1 : ((Int.tmod (wrap64 (t233 + 1)) 7) != 3) = false := zz26.mpr c25
       clear c25
       obtain rfl := Option.some.inj H
       go_wp2
       go_ret
       exact ⟨by first|rfl|(simp [errW_none,errW_some] <;> rfl)|(simp [*,errW_none,errW_some] <;> rfl),by repeat (first|(with_reducible first|exact HB.out|apply zz03|apply zz01|apply zz02|refine zz10 ?_ GE232.out)|exact HB.out)⟩
      ·
       rw [if_neg c25] at H
       have c25b0 : ((Int.tmod (wrap64 (t233 + 1)) 7) == 3) = false := zz27.mpr c25
       have c25b1 : ((Int.tmod (wrap64 (t233 + 1)) 7) != 3) = true := zz28.mpr c25
       by_cases c26 : (Int.tmod (wrap64 (t233 + 1)) 7) = 5
       ·
        rw [if_pos c26] at H
        have c26b0 : ((Int.tmod (wrap64 (t233 + 1)) 7) == 5) = true := zz29.mpr c26
        have c26b1 : ((Int.tmod (wrap64 (t233 + 1)) 7) != 5) = false := zz26.mpr c26
        clear c26
        obtain rfl := Option.some.inj H
        go_wp2
        go_ret
        exact ⟨by first|rfl|(simp [errW_none,errW_some] <;> rfl)|(simp [*,errW_none,errW_some] <;> rfl),by repeat (first|(with_reducible first|exact HB.out|apply zz03|apply zz01|apply zz02|refine zz10 ?_ GE232.out)|exact HB.out)⟩
       ·
        rw [if_neg c26] at H
        have c26b0 : ((Int.tmod (wrap64 (t233 + 1)) 7) == 5) = false := zz27.mpr c26
        have c26b1 : ((Int.tmod (wrap64 (t233 + 1)) 7) != 5) = true := zz28.mpr c26
        obtain rfl := Option.some.inj H
        go_wp2
        go_ret
        exact ⟨by first|rfl|(simp [errW_none,errW_some] <;> rfl)|(simp [*,errW_none,errW_some] <;> rfl),by repeat (first|(with_reducible first|exact HB.out|apply zz03|apply zz01|apply zz02|refine zz10 ?_ GE232.out)|exact HB.out)⟩
    ·
     replace c23 := zz32.mpr c23
     subst c23
     have H1 : (if a2 = true then (if t233 = 1 then (almanackerref05_Delay.j1 kj16 t233 0 (decide (a0_1 ≥ 16789))) else (almanackerref05_Delay.j1 kj16 t233 0 false)) else (almanackerref05_Delay.j1 kj16 t233 0 false)) = some r:=by rw [if_neg (show ¬ (false = true) by decide)] at H;exact H
     clear H
     have H := H1
     clear H1
     have HC27 := zz00 H
     clear H
     go_upto_region 7 with (fail)
     go_cut [35] (fun v35 wc=>∃ (kq : Nat) (x35_26 : Bool),v35 = .bool x35_26 ∧ Aside0 (almanackerref05_Delay.j1 kq t233 0 x35_26 = some r) ∧ Aside0 (kq ≤ kj16) ∧ Aside0 (wc.heap[gb232]? = some (.cells #[.int .i64 a0_0,.int .i64 a0_1] 147 (0,0))) ∧ Aside0 (Below w.heap.size w wc))
     case first =>
      have H := HC27.out
      clear HC27
      by_cases c28 : a2 = true
      ·
       subst c28
       have H1 : (if t233 = 1 then (almanackerref05_Delay.j1 kj16 t233 0 (decide (a0_1 ≥ 16789))) else (almanackerref05_Delay.j1 kj16 t233 0 false)) = some r := by rw [if_pos rfl] at H; exact H
       clear H
       have H := H1
       clear H1
       by_cases c29 : t233 = 1
       ·
        rw [if_pos c29] at H
        have c29b0 : (t233 == 1) = true := zz29.mpr c29
        have c29b1 : (t233 != 1) = false := zz26.mpr c29
        clear c29
        (first | rw [c29b0] | (simp only [i64_w, i32_w]; rw [c29b0]) | skip)
        have H' := zz00 H
        clear H
        have hcz30_0 : wc.cell? ⟨gb232, 0, none⟩ = some (.int .i64 a0_0) := (zz18 BK232.out 0).trans rfl
        have hcz30_1 : wc.cell? ⟨gb232, 1, none⟩ = some (.int .i64 a0_1) := (zz18 BK232.out 1).trans rfl
        have hfz30_0 := zz17 BK232.out 0
        have hfz30_1 := zz17 BK232.out 1
        go_wp2
        go_meet
        case rel=>exact ⟨_,(decide (a0_1 ≥ 16789)),(by first|rfl|(simp;done)|(simp [*];done)),H',⟨by have:=HJ16.out;first|omega|exact Nat.le_refl _⟩,⟨by (with_reducible repeat (first|refine zz07 ?_ _|refine zz09 ?_|refine zz08 ?_ _));exact BK232.out⟩,⟨by repeat (first|(with_reducible first|exact HB.out|apply zz03|apply zz01|apply zz02|refine zz10 ?_ GE232.out)|exact HB.out)⟩⟩
       ·
        rw [if_neg c29] at H
        have c29b0 : (t233 == 1) = false := zz27.mpr c29
        have c29b1 : (t233 != 1) = true := zz28.mpr c29
        (first | rw [c29b0] | (simp only [i64_w, i32_w]; rw [c29b0]) | skip)
        have H' := zz00 H
        clear H
        go_wp2
        go_meet
        case rel=>exact ⟨_,(false),(by first|rfl|(simp;done)|(simp [*];done)),H',⟨by have:=HJ16.out;first|omega|exact Nat.le_refl _⟩,⟨by (with_reducible repeat (first|refine zz07 ?_ _|refine zz09 ?_|refine zz08 ?_ _));exact BK232.out⟩,⟨by repeat (first|(with_reducible first|exact HB.out|apply zz03|apply zz01|apply zz02|refine zz10 ?_ GE232.out)|exact HB.out)⟩⟩
      ·
       replace c28 := zz32.mpr c28
       subst c28
       have H1 : (almanackerref05_Delay.j1 kj16 t233 0 false) = some r := by rw [if_neg (show ¬ (false = true) by decide)] at H; exact H
       clear H
       have H := H1
       clear H1
       have H' := zz00 H
       clear H
       go_wp2
       go_meet
       case rel=>exact ⟨_,(false),(by first|rfl|(simp;done)|(simp [*];done)),H',⟨by have:=HJ16.out;first|omega|exact Nat.le_refl _⟩,⟨by (with_reducible repeat (first|refine zz07 ?_ _|refine zz09 ?_|refine zz08 ?_ _));exact BK232.out⟩,⟨by repeat (first|(with_reducible first|exact HB.out|apply zz03|apply zz01|apply zz02|refine zz10 ?_ GE232.out)|exact HB.out)⟩⟩
     case rest =>
      clear HC27
      try clear c1
      try clear c2
      try clear p2
      try clear c5
      try clear c5b0
      try clear c6
      try clear c6b0
      try clear c6b1
      try clear p6
      try clear c9
      try clear c9b0
      try clear c9b1
      try clear c12
      try clear c12b0
      try clear c12b1
      try clear c14
      try clear c20
      try clear c21
      try clear c21b0
      try clear c21b1
      try clear c23
      try clear c24
      try clear c24b0
      try clear c24b1
      try clear c25
      try clear c25b0
      try clear c25b1
      try clear c26
      try clear c26b0
      try clear c26b1
      try clear c28
      try clear c29
      try clear c29b0
      try clear c29b1
      try clear hcz11_0
      try clear hcz11_1
      try clear hcz14_0
      try clear hcz14_1
      try clear hcz16_0
      try clear hcz16_1
      try clear hcz19_0
      try clear hcz19_1
      try clear hcz22_0
      try clear hcz22_1
      try clear hcz30_0
      try clear hcz30_1
      try clear hcz8_0
      try clear hcz8_1
      try clear hfz11_0
      try clear hfz11_1
      try clear hfz14_0
      try clear hfz14_1
      try clear hfz16_0
      try clear hfz16_1
      try clear hfz19_0
      try clear hfz19_1
      try clear hfz22_0
      try clear hfz22_1
      try clear hfz30_0
      try clear hfz30_1
      try clear hfz8_0
      try clear hfz8_1
      try clear p2
      try clear p6
      obtain ⟨kq, x35_26, rfl, HA, HJ26, BK232, HB⟩ := hcut
      cases kq with
      | zero => exact absurd HA.out (by simp [almanackerref05_Delay.j1])
      | succ kj26 =>
       have H := HA.out
       clear HA
       simp only [almanackerref05_Delay.j1] at H
       by_cases c31 : x35_26 = true
       ·
        subst c31
        have H1 : (if (Int.tmod (wrap64 (t233 + 1)) 7) = 0 then (some (1 + 1)) else (if (Int.tmod (wrap64 (t233 + 1)) 7) = 3 then (some (1 + 1)) else (if (Int.tmod (wrap64 (t233 + 1)) 7) = 5 then (some (1 + 1)) else (some 1)))) = some r:=by rw [if_pos rfl] at H;exact H
        clear H
        have H := H1
        clear H1
        by_cases c32 : (Int.tmod (wrap64 (t233 + 1)) 7) = 0
        ·
         rw [if_pos c32] at H
         have c32b0 : ((Int.tmod (wrap64 (t233 + 1)) 7) == 0) = true := zz29.mpr c32
         have c32b1 : ((Int.tmod (wrap64 (t233 + 1)) 7) != 0) = false := zz26.mpr c32
         clear c32
         obtain rfl := Option.some.inj H
         go_wp2
         go_ret
         exact ⟨by first|rfl|(simp [errW_none,errW_some] <;> rfl)|(simp [*,errW_none,errW_some] <;> rfl),by repeat (first|(with_reducible first|exact HB.out|apply zz03|apply zz01|apply zz02|refine zz10 ?_ GE232.out)|exact HB.out)⟩
        ·
         rw [if_neg c32] at H
         have c32b0 : ((Int.tmod (wrap64 (t233 + 1)) 7) == 0) = false := zz27.mpr c32
         have c32b1 : ((Int.tmod (wrap64 (t233 + 1)) 7) != 0) = true := zz28.mpr c32
         by_cases c33 : (Int.tmod (wrap64 (t233 + 1)) 7) = 3
         ·
          rw [if_pos c33] at H
          have c33b0 : ((Int.tmod (wrap64 (t233 + 1)) 7) == 3) = true := zz29.mpr c33
          have c33b1 : ((Int.tmod (wrap64 (t233 + 1)) 7) != 3) = false := zz26.mpr c33
          clear c33
          obtain rfl := Option.some.inj H
          go_wp2
          go_ret
          exact ⟨by first|rfl|(simp [errW_none,errW_some] <;> rfl)|(simp [*,errW_none,errW_some] <;> rfl),by repeat (first|(with_reducible first|exact HB.out|apply zz03|apply zz01|apply zz02|refine zz10 ?_ GE232.out)|exact HB.out)⟩
         ·
          rw [if_neg c33] at H
          have c33b0 : ((Int.tmod (wrap64 (t233 + 1)) 7) == 3) = false := zz27.mpr c33
          have c33b1 : ((Int.tmod (wrap64 (t233 + 1)) 7) != 3) = true := zz28.mpr c33
          by_cases c34 : (Int.tmod (wrap64 (t233 + 1)) 7) = 5
          ·
           rw [if_pos c34] at H
           have c34b0 : ((Int.tmod (wrap64 (t233 + 1)) 7) == 5) = true := zz29.mpr c34
           have c34b1 : ((Int.tmod (wrap64 (t233 + 1)) 7) != 5) = false := zz26.mpr c34
           clear c34
           obtain rfl := Option.some.inj H
           go_wp2
           go_ret
           exact ⟨by first|rfl|(simp [errW_none,errW_some] <;> rfl)|(simp [*,errW_none,errW_some] <;> rfl),by repeat (first|(with_reducible first|exact HB.out|apply zz03|apply zz01|apply zz02|refine zz10 ?_ GE232.out)|exact HB.out)⟩
          ·
           rw [if_neg c34] at H
           have c34b0 : ((Int.tmod (wrap64 (t233 + 1)) 7) == 5) = false := zz27.mpr c34
           have c34b1 : ((Int.tmod (wrap64 (t233 + 1)) 7) != 5) = true := zz28.mpr c34
           obtain rfl := Option.some.inj H
           go_wp2
           go_ret
           exact ⟨by first|rfl|(simp [errW_none,errW_some] <;> rfl)|(simp [*,errW_none,errW_some] <;> rfl),by repeat (first|(with_reducible first|exact HB.out|apply zz03|apply zz01|apply zz02|refine zz10 ?_ GE232.out)|exact HB.out)⟩
       ·
        replace c31 := zz32.mpr c31
        subst c31
        have H1 : (if (Int.tmod (wrap64 (t233 + 0)) 7) = 0 then (some (wrap64 (0 + 1))) else (if (Int.tmod (wrap64 (t233 + 0)) 7) = 3 then (some (wrap64 (0 + 1))) else (if (Int.tmod (wrap64 (t233 + 0)) 7) = 5 then (some (wrap64 (0 + 1))) else (some 0)))) = some r:=by rw [if_neg (show ¬ (false = true) by decide)] at H;exact H
        clear H
        have H := H1
        clear H1
        simp only [Int.add_zero, Int.zero_add, show wrap64 1 = 1 by unfold wrap64; omega] at H
        by_cases c35 : (Int.tmod (wrap64 t233) 7) = 0
        ·
         rw [if_pos c35] at H
         have c35b0 : ((Int.tmod (wrap64 t233) 7) == 0) = true := zz29.mpr c35
         have c35b1 : ((Int.tmod (wrap64 t233) 7) != 0) = false := zz26.mpr c35
         clear c35
         obtain rfl := Option.some.inj H
         go_wp2
         go_ret
         exact ⟨by first|rfl|(simp [errW_none,errW_some] <;> rfl)|(simp [*,errW_none,errW_some] <;> rfl),by repeat (first|(with_reducible first|exact HB.out|apply zz03|apply zz01|apply zz02|refine zz10 ?_ GE232.out)|exact HB.out)⟩
        ·
         rw [if_neg c35] at H
         have c35b0 : ((Int.tmod (wrap64 t233) 7) == 0) = false := zz27.mpr c35
         have c35b1 : ((Int.tmod (wrap64 t233) 7) != 0) = true := zz28.mpr c35
         by_cases c36 : (Int.tmod (wrap64 t233) 7) = 3
         ·
          rw [if_pos c36] at H
          have c36b0 : ((Int.tmod (wrap64 t233) 7) == 3) = true := zz29.mpr c36
          have c36b1 : ((Int.tmod (wrap64 t233) 7) != 3) = false := zz26.mpr c36
          clear c36
          obtain rfl := Option.some.inj H
          go_wp2
          go_ret
          exact ⟨by first|rfl|(simp [errW_none,errW_some] <;> rfl)|(simp [*,errW_none,errW_some] <;> rfl),by repeat (first|(with_reducible first|exact HB.out|apply zz03|apply zz01|apply zz02|refine zz10 ?_ GE232.out)|exact HB.out)⟩
         ·
          rw [if_neg c36] at H
          have c36b0 : ((Int.tmod (wrap64 t233) 7) == 3) = false := zz27.mpr c36
          have c36b1 : ((Int.tmod (wrap64 t233) 7) != 3) = true := zz28.mpr c36
          by_cases c37 : (Int.tmod (wrap64 t233) 7) = 5
          ·
           rw [if_pos c37] at H
           have c37b0 : ((Int.tmod (wrap64 t233) 7) == 5) = true := zz29.mpr c37
           have c37b1 : ((Int.tmod (wrap64 t233) 7) != 5) = false := zz26.mpr c37
           clear c37
           obtain rfl := Option.some.inj H
           go_wp2
           go_ret
           exact ⟨by first|rfl|(simp [errW_none,errW_some] <;> rfl)|(simp [*,errW_none,errW_some] <;> rfl),by repeat (first|(with_reducible first|exact HB.out|apply zz03|apply zz01|apply zz02|refine zz10 ?_ GE232.out)|exact HB.out)⟩
          ·
           rw [if_neg c37] at H
           have c37b0 : ((Int.tmod (wrap64 t233) 7) == 5) = false := zz27.mpr c37
           have c37b1 : ((Int.tmod (wrap64 t233) 7) != 5) = true := zz28.mpr c37
           obtain rfl := Option.some.inj H
           go_wp2
           go_ret
           exact ⟨by first|rfl|(simp [errW_none,errW_some] <;> rfl)|(simp [*,errW_none,errW_some] <;> rfl),by repeat (first|(with_reducible first|exact HB.out|apply zz03|apply zz01|apply zz02|refine zz10 ?_ GE232.out)|exact HB.out)⟩

def almanackerref05_First.f (k : Nat) (a0 : Int) : Option (Int × Int) := (almanackerref04_Of.f k a0 1).bind fun bt234 => (if bt234.2.2 = 0 then ((almanackerref03_Is.f a0).bind fun t238 => ((almanackerref03_Is.f (wrap64 (a0 - 1))).bind fun t239 => ((almanackerref05_Delay.f k bt234.1 bt234.2.1 t238 t239).bind fun t240 => (some (wrap64 (bt234.1 + t240), 0))))) else (some (0, bt234.2.2)))
def almanackerref05_First.T4 : Bool × List (List Nat × List Nat) := (true, [([], []), ([0], [0]), ([], []), ([], []), ([3], [3]), ([], []), ([5], [5]), ([6, 4], [6]), ([2, 4, 7, 7], [2, 4, 7]), ([1, 8], [1, 8]), ([9, 8, 0, 1, 2, 3, 4, 5, 6, 7, 8, 9], [9]), ([10, 0, 1, 2, 3, 4, 5, 6, 7, 8, 9, 10], [])])
def almanackerref05_First.B4 : List Nat := [0, 1, 0, 0, 8, 0, 32, 120, 252, 511, 1023, 2047]
theorem almanackerref05_First.tab4 : rtab .any (opsOf Tryz.f98 4) = almanackerref05_First.T4 := by kernel_rfl
theorem almanackerref05_First.bits4 : waitsOk almanackerref05_First.T4.2 almanackerref05_First.B4 = true := by kernel_rfl
set_option maxHeartbeats 8000000 in
set_option maxRecDepth 100000 in
theorem almanackerref05_First.calls (k : Nat) (a0 : Int) (r1 : Int) (r2 : Int) (w : World) (h : almanackerref05_First.f k a0 = some (r1, r2)) :
  Calls Tryz.prog 98 #[.int .i64 a0] w fun e w' => e = .returned (.tuple #[.int .i64 r1, .int .i64 r2]) ∧ Below w.heap.size w w' := by
 have hu147 := Tryz.underlying147
 have HB := zz00 (Below.refl w.heap.size w)
 have H : ((almanackerref04_Of.f k a0 1).bind fun bt234=>(if bt234.2.2 = 0 then ((almanackerref03_Is.f a0).bind fun t238=>((almanackerref03_Is.f (wrap64 (a0 - 1))).bind fun t239=>((almanackerref05_Delay.f k bt234.1 bt234.2.1 t238 t239).bind fun t240=>(some (wrap64 (bt234.1 + t240),0))))) else (some (0,bt234.2.2)))) = some (r1,r2):=h
 clear h
 replace H := zz14.mp H
 obtain ⟨⟨t234, t235, t236⟩, A20, H⟩ := H
 replace H : (if t236 = 0 then ((almanackerref03_Is.f a0).bind fun t238=>((almanackerref03_Is.f (wrap64 (a0 - 1))).bind fun t239=>((almanackerref05_Delay.f k t234 t235 t238 t239).bind fun t240=>(some (wrap64 (t234 + t240),0))))) else (some (0,t236))) = some (r1,r2):=H
 have A2 := zz00 A20
 clear A20
 by_cases c3 : t236 = 0
 ·
  rw [if_pos c3] at H
  have c3b0 : (t236 == 0) = true := zz29.mpr c3
  have c3b1 : (t236 != 0) = false := zz26.mpr c3
  clear c3
  replace H := zz14.mp H
  obtain ⟨t238, A40, H⟩ := H
  replace H : ((almanackerref03_Is.f (wrap64 (a0 - 1))).bind fun t239 => ((almanackerref05_Delay.f k t234 t235 t238 t239).bind fun t240 => (some (wrap64 (t234 + t240), 0)))) = some (r1, r2) := H
  have A4 := zz00 A40
  clear A40
  replace H := zz14.mp H
  obtain ⟨t239, A50, H⟩ := H
  replace H : ((almanackerref05_Delay.f k t234 t235 t238 t239).bind fun t240 => (some (wrap64 (t234 + t240), 0))) = some (r1, r2) := H
  have A5 := zz00 A50
  clear A50
  replace H := zz14.mp H
  obtain ⟨t240, A60, H⟩ := H
  replace H : (some (wrap64 (t234 + t240), 0)) = some (r1, r2) := H
  have A6 := zz00 A60
  clear A60
  simp only [zz15, zz16] at H
  obtain ⟨rfl, rfl⟩ := H
  go_enter Tryz.func98, Tryz.ntmps98
  try go_wp2_with (first|((with_reducible refine zz23 (f:=146) rfl ?_);refine zz25 (some 8) rfl rfl Tryz.func146 (by kernel_rfl) rfl #[.int .i64 a0,.int .i64 1] rfl (by (try simp only [List.map_toArray,List.map_cons,List.map_nil]);first|done|rfl|(simp only [List.length_drop,List.length_take];rfl)) ?_;(with_reducible refine (almanackerref04_Of.calls k a0 1 t234 t235 t236 _ A2.out).mono ?_);rintro e w7 ⟨rfl,hb⟩;refine ⟨_,rfl,?_⟩;have n0_:=zz00 (zz21 (by repeat (first|(with_reducible first|exact HB.out|apply zz03|apply zz01|apply zz02)|exact HB.out)) hb);clear HB;have HB:=n0_;clear n0_;(try clear hb);(try clear hb2);(try clear hk);(try clear hi))|((with_reducible refine zz24 (N:=4) rfl ?_);refine zz30 ?hg (N:=4) ?hd (cs:=#[.int .i64 0,.int .i64 0]) (t:=147) ?hr ?_;(case hd=>rfl);(case hg=>rfl);(case hr=>first|(go_simp;done)|(go_simp;rfl));intro gb237 hg w8 hbox hb;have n0_:=zz00 (zz21 (by repeat (first|(with_reducible first|exact HB.out|apply zz03|apply zz01|apply zz02)|exact HB.out)) hb);have n1_:=zz00 (hbox);have n2_:=zz00 ((by rw [hg];exact (zz22 (by repeat (first|(with_reducible first|exact HB.out|apply zz03|apply zz01|apply zz02)|exact HB.out))) : w.heap.size ≤ gb237));have n3_:=zz00 ((by rw [hg];exact (zz22 (by repeat (first|(with_reducible first|exact HB.out|apply zz03|apply zz01|apply zz02)|exact HB.out))) : w.heap.size ≤ gb237));clear HB;have HB:=n0_;have BK237:=n1_;have GW237:=n2_;have GE237:=n3_;clear n0_ n1_ n2_ n3_;clear hb hbox hg;have hcz9_0 : w8.cell? ⟨gb237,0,none⟩ = some (.int .i64 0):=(zz18 BK237.out 0).trans rfl;have hcz9_1 : w8.cell? ⟨gb237,1,none⟩ = some (.int .i64 0):=(zz18 BK237.out 1).trans rfl;have hfz9_0:=zz17 BK237.out 0;have hfz9_1:=zz17 BK237.out 1))
  have n0_ : Aside0 (((w8.setCell ⟨gb237,0,none⟩ (.int .i64 t234)).setCell ⟨gb237,1,none⟩ (.int .i64 t235)).heap[gb237]? = some (.cells #[.int .i64 t234,.int .i64 t235] 147 (0,0))):=⟨by (with_reducible repeat (first|refine zz07 ?_ _|refine zz09 ?_|refine zz08 ?_ _));refine zz35 (cs:=#[.int .i64 t234,.int .i64 0]) ?_ 1 _ rfl;(with_reducible repeat (first|refine zz07 ?_ _|refine zz09 ?_|refine zz08 ?_ _));refine zz35 (cs:=#[.int .i64 0,.int .i64 0]) ?_ 0 _ rfl;(with_reducible repeat (first|refine zz07 ?_ _|refine zz09 ?_|refine zz08 ?_ _));exact BK237.out⟩
  have n1_ : Aside0 (Below w.heap.size w ((w8.setCell ⟨gb237,0,none⟩ (.int .i64 t234)).setCell ⟨gb237,1,none⟩ (.int .i64 t235))):=⟨by repeat (first|(with_reducible first|exact HB.out|apply zz03|apply zz01|apply zz02|refine zz10 ?_ GE237.out)|exact HB.out)⟩
  (try clear BK237)
  (try clear HB)
  generalize ((w8.setCell ⟨gb237, 0, none⟩ (.int .i64 t234)).setCell ⟨gb237, 1, none⟩ (.int .i64 t235)) = w10 at n0_ n1_ ⊢
  have BK237 := n0_
  have HB := n1_
  clear n0_ n1_
  have n0_ := zz00 (zz09 BK237.out)
  have n1_ := zz00 (zz02 HB.out)
  clear BK237
  clear HB
  have BK237 := n0_
  have HB := n1_
  clear n0_ n1_
  refine start_ (n:=12) (S:=fun w'=>w'.cell? ⟨gb237,0,none⟩ = some (.int .i64 t234) ∧ w'.cell? ⟨gb237,1,none⟩ = some (.int .i64 t235)) (ds:=[]) #[false,false,false,false,false,false,false,false,false,false,false,false] (by kernel_rfl) rfl rfl ⟨(zz18 BK237.out 0).trans rfl,(zz18 BK237.out 1).trans rfl⟩ (fun hHeld=>?_);refine with_tabW almanackerref05_First.tab4 almanackerref05_First.bits4 (fun HT_ HW_=>?_)
  generalize w10.drew = w11 at BK237 HB hHeld ⊢
  refine pure_ (i:=0) (N:=some 14) (v:=?_) (a':=?_) #[true,false,false,false,false,false,false,false,false,false,false,false] rfl rfl (any_of HT_.out (by kernel_rfl)) (fun _ _ _ h=>h) (Or.inl ⟨by rfl,?_⟩) ?_ ?_
  rotate_left
  ·
   intro w'
   go_simp
   with_reducible rfl
  rotate_left
  ·
   simp only [Act.put, zz11, zz12, zz13, i64_w, i32_w]
   rfl
  refine pure_ (i:=3) (N:=some 17) (v:=?_) (a':=?_) #[true,false,false,true,false,false,false,false,false,false,false,false] rfl rfl (any_of HT_.out (by kernel_rfl)) (fun _ _ _ h=>h) (Or.inl ⟨by rfl,?_⟩) ?_ ?_
  rotate_left
  ·
   intro w'
   go_simp
   with_reducible rfl
  rotate_left
  ·
   simp only [Act.put, zz11, zz12, zz13, i64_w, i32_w]
   rfl
  refine pure_ (i:=5) (N:=some 19) (v:=?_) (a':=?_) #[true,false,false,true,false,true,false,false,false,false,false,false] rfl rfl (any_of HT_.out (by kernel_rfl)) (fun _ _ _ h=>h) (Or.inl ⟨by rfl,?_⟩) ?_ ?_
  rotate_left
  ·
   intro w'
   go_simp
   with_reducible rfl
  rotate_left
  ·
   simp only [Act.put, zz11, zz12, zz13, i64_w, i32_w]
   rfl
  refine pure_ (i:=6) (N:=some 20) (v:=?_) (a':=?_) #[true,false,false,true,false,true,true,false,false,false,false,false] rfl rfl (any_of HT_.out (by kernel_rfl)) (fun _ _ _ h=>h) (Or.inl ⟨by rfl,?_⟩) ?_ ?_
  rotate_left
  ·
   intro w'
   go_simp
   with_reducible rfl
  rotate_left
  ·
   simp only [Act.put, zz11, zz12, zz13, i64_w, i32_w]
   rfl
  refine take_ (i:=1) (N:=some 15) (v:=?_) (a':=?_) #[true,true,false,true,false,true,true,false,false,false,false,false] rfl rfl (take_ofW HT_.out HW_.out (by kernel_rfl)) (fun _ _ _ h=>h) (Or.inl ⟨by rfl,?_⟩) hHeld ?_ ?_
  rotate_left
  ·
   rintro w' ⟨s0, s1⟩
   go_simp
   with_reducible rfl
  rotate_left
  ·
   simp only [Act.put, zz11, zz12, zz13, i64_w, i32_w]
   rfl
  refine take_ (i:=2) (N:=some 16) (v:=?_) (a':=?_) #[true,true,true,true,false,true,true,false,false,false,false,false] rfl rfl (take_ofW HT_.out HW_.out (by kernel_rfl)) (fun _ _ _ h=>h) (Or.inl ⟨by rfl,?_⟩) hHeld ?_ ?_
  rotate_left
  ·
   rintro w' ⟨s0, s1⟩
   go_simp
   with_reducible rfl
  rotate_left
  ·
   simp only [Act.put, zz11, zz12, zz13, i64_w, i32_w]
   rfl
  refine one_ (i := 4) (N := some 18) #[true, true, true, true, true, true, true, false, false, false, false, false] rfl rfl (one_of HT_.out (by kernel_rfl)) (by decide) (fun K hK => ?_)
  refine goes_ Tryz.func23 (by kernel_rfl) rfl #[.int .i64 a0] (by rfl) rfl rfl (by (try simp only [List.map_toArray,List.map_cons,List.map_nil]);first|done|rfl|(simp only [List.length_drop,List.length_take];rfl)) ?_
  with_reducible refine (almanackerref03_Is.calls a0 t238 _ A4.out).mono ?_
  rintro e w' ⟨rfl, ⟨nd, rfl⟩⟩
  refine ⟨_, rfl, ?_⟩
  refine hK.out _ _ ⟨(zz18 BK237.out 0).trans rfl, (zz18 BK237.out 1).trans rfl⟩ (fun hHeld => ?_)
  clear hK K
  refine norm_ (a' := ?_) ?_ ?_
  rotate_left
  ·
   show Act.put _ (some 18) _ = _
   simp only [Act.put, zz11, zz12, zz13, i64_w, i32_w]
   rfl
  refine one_ (i := 7) (N := some 21) #[true, true, true, true, true, true, true, true, false, false, false, false] rfl rfl (one_of HT_.out (by kernel_rfl)) (by decide) (fun K hK => ?_)
  refine goes_ Tryz.func23 (by kernel_rfl) rfl #[.int .i64 (wrap64 (a0 - 1))] (by rfl) rfl rfl (by (try simp only [List.map_toArray,List.map_cons,List.map_nil]);first|done|rfl|(simp only [List.length_drop,List.length_take];rfl)) ?_
  with_reducible refine (almanackerref03_Is.calls (wrap64 (a0 - 1)) t239 _ A5.out).mono ?_
  rintro e w' ⟨rfl, ⟨nd, rfl⟩⟩
  refine ⟨_, rfl, ?_⟩
  refine hK.out _ _ ⟨(zz18 BK237.out 0).trans rfl, (zz18 BK237.out 1).trans rfl⟩ (fun hHeld => ?_)
  clear hK K
  refine norm_ (a' := ?_) ?_ ?_
  rotate_left
  ·
   show Act.put _ (some 21) _ = _
   simp only [Act.put, zz11, zz12, zz13, i64_w, i32_w]
   rfl
  refine one_ (i := 8) (N := some 22) #[true, true, true, true, true, true, true, true, true, false, false, false] rfl rfl (one_of HT_.out (by kernel_rfl)) (by decide) (fun K hK => ?_)
  refine goes_ Tryz.func147 (by kernel_rfl) rfl #[.agg #[.int .i64 t234,.int .i64 t235],.bool t238,.bool t239] (by rfl) rfl rfl (by (try simp only [List.map_toArray,List.map_cons,List.map_nil]);first|done|rfl|(simp only [List.length_drop,List.length_take];rfl)) ?_
  with_reducible refine (almanackerref05_Delay.calls k t234 t235 t238 t239 t240 _ A6.out).mono ?_
  rintro e w12 ⟨rfl, hb⟩
  refine ⟨_, rfl, ?_⟩
  have n0_:=zz00 (zz34 (g:=gb237) (o:=.cells #[.int .i64 t234,.int .i64 t235] 147 (0,0)) (by (with_reducible repeat (first|refine zz07 ?_ _|refine zz09 ?_|refine zz08 ?_ _));exact BK237.out) hb)
  have n1_:=zz00 (zz21 (by repeat (first|(with_reducible first|exact HB.out|apply zz03|apply zz01|apply zz02|refine zz10 ?_ GE237.out)|exact HB.out)) hb)
  clear BK237
  clear HB
  have BK237 := n0_
  have HB := n1_
  clear n0_ n1_
  (try clear hb)
  (try clear hb2)
  (try clear hk)
  (try clear hi)
  refine hK.out _ _ ⟨(zz18 BK237.out 0).trans rfl, (zz18 BK237.out 1).trans rfl⟩ (fun hHeld => ?_)
  clear hK K
  refine norm_ (a' := ?_) ?_ ?_
  rotate_left
  ·
   show Act.put _ (some 22) _ = _
   simp only [Act.put, zz11, zz12, zz13, i64_w, i32_w]
   rfl
  refine pure_ (i:=9) (N:=some 23) (v:=?_) (a':=?_) #[true,true,true,true,true,true,true,true,true,true,false,false] rfl rfl (any_of HT_.out (by kernel_rfl)) (fun _ _ _ h=>h) (Or.inl ⟨by rfl,?_⟩) ?_ ?_
  rotate_left
  ·
   intro w'
   go_simp
   with_reducible rfl
  rotate_left
  ·
   simp only [Act.put, zz11, zz12, zz13, i64_w, i32_w]
   rfl
  refine pure_ (i:=10) (N:=some 2) (v:=?_) (a':=?_) #[true,true,true,true,true,true,true,true,true,true,true,false] rfl rfl (any_of HT_.out (by kernel_rfl)) (fun _ _ _ h=>h) (Or.inl ⟨by rfl,?_⟩) ?_ ?_
  rotate_left
  ·
   intro w'
   go_simp
   with_reducible rfl
  rotate_left
  ·
   simp only [Act.put, zz11, zz12, zz13, i64_w, i32_w]
   rfl
  refine pure_ (i:=11) (N:=some 3) (v:=?_) (a':=?_) #[true,true,true,true,true,true,true,true,true,true,true,true] rfl rfl (any_of HT_.out (by kernel_rfl)) (fun _ _ _ h=>h) (Or.inl ⟨by rfl,?_⟩) ?_ ?_
  rotate_left
  ·
   intro w'
   go_simp
   with_reducible rfl
  rotate_left
  ·
   simp only [Act.put, zz11, zz12, zz13, i64_w, i32_w]
   rfl
  refine done_ (done_of HT_.out (by kernel_rfl)) ?_
  try go_wp2
  go_ret2
  exact ⟨by first|rfl|(simp [errW_none,errW_some] <;> rfl)|(simp [*,errW_none,errW_some] <;> rfl),by repeat (first|(with_reducible first|exact HB.out|apply zz03|apply zz01|apply zz02|refine zz10 ?_ GE237.out)|exact HB.out)⟩
 ·
  rw [if_neg c3] at H
  have c3b0 : (t236 == 0) = false := zz27.mpr c3
  have c3b1 : (t236 != 0) = true := zz28.mpr c3
  simp only [zz15, zz16] at H
  obtain ⟨rfl, rfl⟩ := H
  go_enter Tryz.func98, Tryz.ntmps98
  go_wp2_with (first|((with_reducible refine zz23 (f:=146) rfl ?_);refine zz25 (some 8) rfl rfl Tryz.func146 (by kernel_rfl) rfl #[.int .i64 a0,.int .i64 1] rfl (by (try simp only [List.map_toArray,List.map_cons,List.map_nil]);first|done|rfl|(simp only [List.length_drop,List.length_take];rfl)) ?_;(with_reducible refine (almanackerref04_Of.calls k a0 1 t234 t235 t236 _ A2.out).mono ?_);rintro e w13 ⟨rfl,hb⟩;refine ⟨_,rfl,?_⟩;have n0_:=zz00 (zz21 (by repeat (first|(with_reducible first|exact HB.out|apply zz03|apply zz01|apply zz02)|exact HB.out)) hb);clear HB;have HB:=n0_;clear n0_;(try clear hb);(try clear hb2);(try clear hk);(try clear hi))|((with_reducible refine zz24 (N:=4) rfl ?_);refine zz30 ?hg (N:=4) ?hd (cs:=#[.int .i64 0,.int .i64 0]) (t:=147) ?hr ?_;(case hd=>rfl);(case hg=>rfl);(case hr=>first|(go_simp;done)|(go_simp;rfl));intro gb237 hg w14 hbox hb;have n0_:=zz00 (zz21 (by repeat (first|(with_reducible first|exact HB.out|apply zz03|apply zz01|apply zz02)|exact HB.out)) hb);have n1_:=zz00 (hbox);have n2_:=zz00 ((by rw [hg];exact (zz22 (by repeat (first|(with_reducible first|exact HB.out|apply zz03|apply zz01|apply zz02)|exact HB.out))) : w.heap.size ≤ gb237));have n3_:=zz00 ((by rw [hg];exact (zz22 (by repeat (first|(with_reducible first|exact HB.out|apply zz03|apply zz01|apply zz02)|exact HB.out))) : w.heap.size ≤ gb237));clear HB;have HB:=n0_;have BK237:=n1_;have GW237:=n2_;have GE237:=n3_;clear n0_ n1_ n2_ n3_;clear hb hbox hg;have hcz15_0 : w14.cell? ⟨gb237,0,none⟩ = some (.int .i64 0):=(zz18 BK237.out 0).trans rfl;have hcz15_1 : w14.cell? ⟨gb237,1,none⟩ = some (.int .i64 0):=(zz18 BK237.out 1).trans rfl;have hfz15_0:=zz17 BK237.out 0;have hfz15_1:=zz17 BK237.out 1))
  go_ret2
  exact ⟨by first|rfl|(simp [errW_none,errW_some] <;> rfl)|(simp [*,errW_none,errW_some] <;> rfl),by repeat (first|(with_reducible first|exact HB.out|apply zz03|apply zz01|apply zz02|refine zz10 ?_ GE237.out)|exact HB.out)⟩

end Go.Proofs.YtflpddhoiafhcaaGreatDoor.R
end

section
-- Written by wip/hprint.py of this repo (holes typed by hand, all else by a program) over the seat YtflpddhoiafhcaaGreatDoor.
namespace Go.Proofs.YtflpddhoiafhcaaGreatDoor.R
open Go.Proofs.YtflpddhoiafhcaaGreatDoor.H
open Go.RowKit Go.Proofs.YtflpddhoiafhcaaGreatDoorW.PrintWords Go.Proofs.YtflpddhoiafhcaaGreatDoorW.PrintLast Go.Proofs.YtflpddhoiafhcaaGreatDoorW.PrintMore
attribute [local go_sem] max2_int min2_int max_two min_two max_three min_three max_four min_four   -- for this text's walks alone
set_option linter.unusedVariables false
set_option linter.unusedSimpArgs false

attribute [local go_sem high] eqA32
def almanackerref07_Right.f (a0 : Int) : Option (Bool) := if a0 ≥ 1 then (some (decide (a0 ≤ 9999))) else (some false)
set_option maxHeartbeats 8000000 in
set_option maxRecDepth 100000 in
theorem almanackerref07_Right.calls (a0 : Int) (r : Bool) (w : World) (h : almanackerref07_Right.f a0 = some r) :
    Calls Tryz.prog 37 #[.int .i64 a0] w fun e w' => e = .returned (.bool r) ∧ Drawn0 w w' := by
  have H : (if a0 ≥ 1 then (some (decide (a0 ≤ 9999))) else (some false)) = some r := h
  clear h
  by_cases c2 : a0 ≥ 1
  · rw [if_pos c2] at H
    have c2b0 : decide (1 ≤ a0) = true := decide_eq_true c2
    clear c2
    obtain rfl := Option.some.inj H
    go_enter Tryz.func37, Tryz.ntmps37
    go_wp2
    go_ret
    exact ⟨by first | rfl | (simp; done) | (simp [*]; done), by repeat (first | exact Drawn0.refl _ | apply Drawn0.step)⟩
  · rw [if_neg c2] at H
    have c2b0 : decide (1 ≤ a0) = false := decide_eq_false c2
    clear c2
    obtain rfl := Option.some.inj H
    go_enter Tryz.func37, Tryz.ntmps37
    go_wp2
    go_ret
    exact ⟨by first | rfl | (simp; done) | (simp [*]; done), by repeat (first | exact Drawn0.refl _ | apply Drawn0.step)⟩

def almanackerref07_Long.f (k : Nat) (a0 : Int) : Option (Int × Int) := (almanackerref07_Right.f a0).bind fun t241 => (if t241 = true then ((almanackerref05_First.f k a0).bind fun bt242 => ((almanackerref05_First.f k (wrap64 (a0 + 1))).bind fun bt244 => (some (wrap64 (bt244.1 - bt242.1), 0)))) else (some (0, 2)))
set_option maxHeartbeats 8000000 in
set_option maxRecDepth 100000 in
theorem almanackerref07_Long.calls (k : Nat) (a0 : Int) (r1 : Int) (r2 : Int) (w : World) (h : almanackerref07_Long.f k a0 = some (r1, r2)) :
  Calls Tryz.prog 145 #[.int .i64 a0] w fun e w' => e = .returned (.tuple #[.int .i64 r1, .int .i64 r2]) ∧ Below w.heap.size w w' := by
 have HB := zz00 (Below.refl w.heap.size w)
 have H : ((almanackerref07_Right.f a0).bind fun t241=>(if t241 = true then ((almanackerref05_First.f k a0).bind fun bt242=>((almanackerref05_First.f k (wrap64 (a0 + 1))).bind fun bt244=>(some (wrap64 (bt244.1 - bt242.1),0)))) else (some (0,2)))) = some (r1,r2):=h
 clear h
 replace H := zz14.mp H
 obtain ⟨t241, A20, H⟩ := H
 replace H : (if t241 = true then ((almanackerref05_First.f k a0).bind fun bt242=>((almanackerref05_First.f k (wrap64 (a0 + 1))).bind fun bt244=>(some (wrap64 (bt244.1 - bt242.1),0)))) else (some (0,2))) = some (r1,r2):=H
 have A2 := zz00 A20
 clear A20
 by_cases c3 : t241 = true
 ·
  subst c3
  have H1 : ((almanackerref05_First.f k a0).bind fun bt242=>((almanackerref05_First.f k (wrap64 (a0 + 1))).bind fun bt244=>(some (wrap64 (bt244.1 - bt242.1),0)))) = some (r1,r2):=by rw [if_pos rfl] at H;exact H
  clear H
  have H := H1
  clear H1
  replace H := zz14.mp H
  obtain ⟨⟨t242, t243⟩, A40, H⟩ := H
  replace H : ((almanackerref05_First.f k (wrap64 (a0 + 1))).bind fun bt244 => (some (wrap64 (bt244.1 - t242), 0))) = some (r1, r2) := H
  have A4 := zz00 A40
  clear A40
  replace H := zz14.mp H
  obtain ⟨⟨t244, t245⟩, A50, H⟩ := H
  replace H : (some (wrap64 (t244 - t242), 0)) = some (r1, r2) := H
  have A5 := zz00 A50
  clear A50
  simp only [zz15, zz16] at H
  obtain ⟨rfl, rfl⟩ := H
  go_enter Tryz.func145, Tryz.ntmps145
  go_wp2_with (first|((with_reducible refine zz23 (f:=37) rfl ?_);refine zz25 (some 9) rfl rfl Tryz.func37 (by kernel_rfl) rfl #[.int .i64 a0] rfl (by (try simp only [List.map_toArray,List.map_cons,List.map_nil]);first|done|rfl|(simp only [List.length_drop,List.length_take];rfl)) ?_;(with_reducible refine (almanackerref07_Right.calls a0 true _ A2.out).mono ?_);rintro e w' ⟨rfl,⟨nd,rfl⟩⟩;refine ⟨_,rfl,?_⟩)|((with_reducible refine zz23 (f:=98) rfl ?_);refine zz25 (some 13) rfl rfl Tryz.func98 (by kernel_rfl) rfl #[.int .i64 a0] rfl (by (try simp only [List.map_toArray,List.map_cons,List.map_nil]);first|done|rfl|(simp only [List.length_drop,List.length_take];rfl)) ?_;(with_reducible refine (almanackerref05_First.calls k a0 t242 t243 _ A4.out).mono ?_);rintro e w6 ⟨rfl,hb⟩;refine ⟨_,rfl,?_⟩;have n0_:=zz00 (zz21 (by repeat (first|(with_reducible first|exact HB.out|apply zz03|apply zz01|apply zz02)|exact HB.out)) hb);clear HB;have HB:=n0_;clear n0_;(try clear hb);(try clear hb2);(try clear hk);(try clear hi))|((with_reducible refine zz23 (f:=98) rfl ?_);refine zz25 (some 19) rfl rfl Tryz.func98 (by kernel_rfl) rfl #[.int .i64 (wrap64 (a0 + 1))] rfl (by (try simp only [List.map_toArray,List.map_cons,List.map_nil]);first|done|rfl|(simp only [List.length_drop,List.length_take];rfl)) ?_;(with_reducible refine (almanackerref05_First.calls k (wrap64 (a0 + 1)) t244 t245 _ A5.out).mono ?_);rintro e w7 ⟨rfl,hb⟩;refine ⟨_,rfl,?_⟩;have n0_:=zz00 (zz21 (by repeat (first|(with_reducible first|exact HB.out|apply zz03|apply zz01|apply zz02)|exact HB.out)) hb);clear HB;have HB:=n0_;clear n0_;(try clear hb);(try clear hb2);(try clear hk);(try clear hi)))
  go_ret2
  exact ⟨by first|rfl|(simp [errW_none,errW_some] <;> rfl)|(simp [*,errW_none,errW_some] <;> rfl),by repeat (first|(with_reducible first|exact HB.out|apply zz03|apply zz01|apply zz02)|exact HB.out)⟩
 ·
  replace c3 := zz32.mpr c3
  subst c3
  have H1 : (some (0, 2)) = some (r1, r2) := by rw [if_neg (show ¬ (false = true) by decide)] at H; exact H
  clear H
  have H := H1
  clear H1
  simp only [zz15, zz16] at H
  obtain ⟨rfl, rfl⟩ := H
  go_enter Tryz.func145, Tryz.ntmps145
  go_wp2_with (first|((with_reducible refine zz23 (f:=37) rfl ?_);refine zz25 (some 9) rfl rfl Tryz.func37 (by kernel_rfl) rfl #[.int .i64 a0] rfl (by (try simp only [List.map_toArray,List.map_cons,List.map_nil]);first|done|rfl|(simp only [List.length_drop,List.length_take];rfl)) ?_;(with_reducible refine (almanackerref07_Right.calls a0 false _ A2.out).mono ?_);rintro e w' ⟨rfl,⟨nd,rfl⟩⟩;refine ⟨_,rfl,?_⟩))
  go_ret2
  exact ⟨by first|rfl|(simp [errW_none,errW_some] <;> rfl)|(simp [*,errW_none,errW_some] <;> rfl),by repeat (first|(with_reducible first|exact HB.out|apply zz03|apply zz01|apply zz02)|exact HB.out)⟩

def almanackerref07_Of.f (k : Nat) (a0 : Int) : Option (Int × Int × Bool × Int) := (almanackerref07_Long.f k a0).bind fun bt247 => (if bt247.2 = 0 then ((almanackerref05_First.f k a0).bind fun bt249 => ((almanackerref04_Weekday.f bt249.1).bind fun t251 => ((almanackerref03_Is.f a0).bind fun t252 => (if t252 = true then (some (t251, wrap64 (bt247.1 - 383), t252, 0)) else (some (t251, wrap64 (bt247.1 - 353), t252, 0)))))) else (some (0, 0, false, bt247.2)))
theorem setCell_mid (w : World) (b : Nat) (x u y : Value) : ((w.setCell ⟨b, 1, none⟩ x).setCell ⟨b, 2, none⟩ u).setCell ⟨b, 1, none⟩ y = (w.setCell ⟨b, 1, none⟩ y).setCell ⟨b, 2, none⟩ u := by
  unfold World.setCell
  congr 1
  apply Array.ext_getElem?
  intro i
  simp only [Array.getElem?_modify]
  by_cases h : b = i
  · simp only [h, if_true]
    cases w.heap[i]? with
    | none => rfl
    | some o =>
      cases o with
      | cells c e f => simp [Array.setIfInBounds_comm]
      | _ => rfl
  · simp [h]
attribute [local go_sem] setCell_mid
set_option maxHeartbeats 8000000 in
set_option maxRecDepth 100000 in
theorem almanackerref07_Of.calls (k : Nat) (a0 : Int) (r1 : Int) (r2 : Int) (r3 : Bool) (r4 : Int) (w : World) (h : almanackerref07_Of.f k a0 = some (r1, r2, r3, r4)) :
  Calls Tryz.prog 97 #[.int .i64 a0] w fun e w' => e = .returned (.tuple #[.agg #[.int .i64 r1, .int .i64 r2, .bool r3], .int .i64 r4]) ∧ Below w.heap.size w w' := by
 have hu93 := Tryz.underlying93
 have HB := zz00 (Below.refl w.heap.size w)
 have H : ((almanackerref07_Long.f k a0).bind fun bt247=>(if bt247.2 = 0 then ((almanackerref05_First.f k a0).bind fun bt249=>((almanackerref04_Weekday.f bt249.1).bind fun t251=>((almanackerref03_Is.f a0).bind fun t252=>(if t252 = true then (some (t251,wrap64 (bt247.1 - 383),t252,0)) else (some (t251,wrap64 (bt247.1 - 353),t252,0)))))) else (some (0,0,false,bt247.2)))) = some (r1,r2,r3,r4):=h
 clear h
 replace H := zz14.mp H
 obtain ⟨⟨t247, t248⟩, A20, H⟩ := H
 replace H : (if t248 = 0 then ((almanackerref05_First.f k a0).bind fun bt249=>((almanackerref04_Weekday.f bt249.1).bind fun t251=>((almanackerref03_Is.f a0).bind fun t252=>(if t252 = true then (some (t251,wrap64 (t247 - 383),t252,0)) else (some (t251,wrap64 (t247 - 353),t252,0)))))) else (some (0,0,false,t248))) = some (r1,r2,r3,r4):=H
 have A2 := zz00 A20
 clear A20
 by_cases c3 : t248 = 0
 ·
  rw [if_pos c3] at H
  have c3b0 : (t248 == 0) = true := zz29.mpr c3
  have c3b1 : (t248 != 0) = false := zz26.mpr c3
  clear c3
  replace H := zz14.mp H
  obtain ⟨⟨t249, t250⟩, A40, H⟩ := H
  replace H : ((almanackerref04_Weekday.f t249).bind fun t251=>((almanackerref03_Is.f a0).bind fun t252=>(if t252 = true then (some (t251,wrap64 (t247 - 383),t252,0)) else (some (t251,wrap64 (t247 - 353),t252,0))))) = some (r1,r2,r3,r4):=H
  have A4 := zz00 A40
  clear A40
  replace H := zz14.mp H
  obtain ⟨t251, A50, H⟩ := H
  replace H : ((almanackerref03_Is.f a0).bind fun t252=>(if t252 = true then (some (t251,wrap64 (t247 - 383),t252,0)) else (some (t251,wrap64 (t247 - 353),t252,0)))) = some (r1,r2,r3,r4):=H
  have A5 := zz00 A50
  clear A50
  replace H := zz14.mp H
  obtain ⟨t252, A60, H⟩ := H
  replace H : (if t252 = true then (some (t251, wrap64 (t247 - 383), t252, 0)) else (some (t251, wrap64 (t247 - 353), t252, 0))) = some (r1, r2, r3, r4) := H
  have A6 := zz00 A60
  clear A60
  by_cases c7 : t252 = true
  ·
   subst c7
   have H1 : (some (t251, wrap64 (t247 - 383), true, 0)) = some (r1, r2, r3, r4) := by rw [if_pos rfl] at H; exact H
   clear H
   have H := H1
   clear H1
   simp only [zz15, zz16] at H
   obtain ⟨rfl, rfl, rfl, rfl⟩ := H
   go_enter Tryz.func97, Tryz.ntmps97
   go_wp2_with (first|((with_reducible refine zz24 (N:=2) rfl ?_);refine zz30 ?hg (N:=2) ?hd (cs:=#[.int .i64 0,.int .i64 0,.bool false]) (t:=93) ?hr ?_;(case hd=>rfl);(case hg=>rfl);(case hr=>first|(go_simp;done)|(go_simp;rfl));intro gb246 hg w8 hbox hb;have n0_:=zz00 (zz21 (by repeat (first|(with_reducible first|exact HB.out|apply zz03|apply zz01|apply zz02)|exact HB.out)) hb);have n1_:=zz00 (hbox);have n2_:=zz00 ((by rw [hg];exact (zz22 (by repeat (first|(with_reducible first|exact HB.out|apply zz03|apply zz01|apply zz02)|exact HB.out))) : w.heap.size ≤ gb246));have n3_:=zz00 ((by rw [hg];exact (zz22 (by repeat (first|(with_reducible first|exact HB.out|apply zz03|apply zz01|apply zz02)|exact HB.out))) : w.heap.size ≤ gb246));clear HB;have HB:=n0_;have BK246:=n1_;have GW246:=n2_;have GE246:=n3_;clear n0_ n1_ n2_ n3_;clear hb hbox hg)|((with_reducible refine zz23 (f:=145) rfl ?_);refine zz25 (some 11) rfl rfl Tryz.func145 (by kernel_rfl) rfl #[.int .i64 a0] rfl (by (try simp only [List.map_toArray,List.map_cons,List.map_nil]);first|done|rfl|(simp only [List.length_drop,List.length_take];rfl)) ?_;(with_reducible refine (almanackerref07_Long.calls k a0 t247 t248 _ A2.out).mono ?_);rintro e w9 ⟨rfl,hb⟩;refine ⟨_,rfl,?_⟩;have n0_:=zz00 (zz34 (g:=gb246) (o:=.cells #[.int .i64 0,.int .i64 0,.bool false] 93 (0,0)) (by (with_reducible repeat (first|refine zz07 ?_ _|refine zz09 ?_|refine zz08 ?_ _));exact BK246.out) hb);have n1_:=zz00 (zz21 (by repeat (first|(with_reducible first|exact HB.out|apply zz03|apply zz01|apply zz02|refine zz10 ?_ GE246.out)|exact HB.out)) hb);clear BK246;clear HB;have BK246:=n0_;have HB:=n1_;clear n0_ n1_;(try clear hb);(try clear hb2);(try clear hk);(try clear hi))|((with_reducible refine zz23 (f:=98) rfl ?_);refine zz25 (some 20) rfl rfl Tryz.func98 (by kernel_rfl) rfl #[.int .i64 a0] rfl (by (try simp only [List.map_toArray,List.map_cons,List.map_nil]);first|done|rfl|(simp only [List.length_drop,List.length_take];rfl)) ?_;(with_reducible refine (almanackerref05_First.calls k a0 t249 t250 _ A4.out).mono ?_);rintro e w10 ⟨rfl,hb⟩;refine ⟨_,rfl,?_⟩;have n0_:=zz00 (zz34 (g:=gb246) (o:=.cells #[.int .i64 0,.int .i64 0,.bool false] 93 (0,0)) (by (with_reducible repeat (first|refine zz07 ?_ _|refine zz09 ?_|refine zz08 ?_ _));exact BK246.out) hb);have n1_:=zz00 (zz21 (by repeat (first|(with_reducible first|exact HB.out|apply zz03|apply zz01|apply zz02|refine zz10 ?_ GE246.out)|exact HB.out)) hb);clear BK246;clear HB;have BK246:=n0_;have HB:=n1_;clear n0_ n1_;(try clear hb);(try clear hb2);(try clear hk);(try clear hi))|((with_reducible refine zz23 (f:=90) rfl ?_);refine zz25 (some 24) rfl rfl Tryz.func90 (by kernel_rfl) rfl #[.int .i64 t249] rfl (by (try simp only [List.map_toArray,List.map_cons,List.map_nil]);first|done|rfl|(simp only [List.length_drop,List.length_take];rfl)) ?_;(with_reducible refine (almanackerref04_Weekday.calls t249 t251 _ A5.out).mono ?_);rintro e w' ⟨rfl,⟨nd,rfl⟩⟩;refine ⟨_,rfl,?_⟩;(try (rw [drewN_self w10];generalize hq_ : World.drewN w10 _ = w10;have n0_ : Aside0 (w10.heap[gb246]? = some (.cells #[.int .i64 0,.int .i64 0,.bool false] 93 (0,0))):=⟨by rw [← hq_];exact (by (with_reducible repeat (first|refine zz07 ?_ _|refine zz09 ?_|refine zz08 ?_ _));exact BK246.out)⟩;have n1_ : Aside0 (Below w.heap.size w w10):=⟨by rw [← hq_];exact (by repeat (first|(with_reducible first|exact HB.out|apply zz03|apply zz01|apply zz02|refine zz10 ?_ GE246.out)|exact HB.out))⟩;clear BK246 HB hq_;have BK246:=n0_;have HB:=n1_;clear n0_ n1_)))|((with_reducible refine zz23 (f:=23) rfl ?_);refine zz25 (some 28) rfl rfl Tryz.func23 (by kernel_rfl) rfl #[.int .i64 a0] rfl (by (try simp only [List.map_toArray,List.map_cons,List.map_nil]);first|done|rfl|(simp only [List.length_drop,List.length_take];rfl)) ?_;(with_reducible refine (almanackerref03_Is.calls a0 true _ A6.out).mono ?_);rintro e w' ⟨rfl,⟨nd,rfl⟩⟩;refine ⟨_,rfl,?_⟩;(try (rw [drewN_self w10];generalize hq_ : World.drewN w10 _ = w10;have n0_ : Aside0 (w10.heap[gb246]? = some (.cells #[.int .i64 0,.int .i64 0,.bool false] 93 (0,0))):=⟨by rw [← hq_];exact (by (with_reducible repeat (first|refine zz07 ?_ _|refine zz09 ?_|refine zz08 ?_ _));exact BK246.out)⟩;have n1_ : Aside0 (Below w.heap.size w w10):=⟨by rw [← hq_];exact (by repeat (first|(with_reducible first|exact HB.out|apply zz03|apply zz01|apply zz02|refine zz10 ?_ GE246.out)|exact HB.out))⟩;clear BK246 HB hq_;have BK246:=n0_;have HB:=n1_;clear n0_ n1_)))|((with_reducible refine zz24 (N:=8) rfl ?_);refine zz30 ?hg (N:=8) ?hd (cs:=#[.int .i64 0,.int .i64 0,.bool false]) (t:=93) ?hr ?_;(case hd=>rfl);(case hg=>rfl);(case hr=>first|(go_simp;done)|(go_simp;rfl));intro gb253 hg w11 hbox hb;have n0_:=zz00 (zz34 (g:=gb246) (o:=.cells #[.int .i64 0,.int .i64 0,.bool false] 93 (0,0)) (by (with_reducible repeat (first|refine zz07 ?_ _|refine zz09 ?_|refine zz08 ?_ _));exact BK246.out) hb);have n1_:=zz00 (zz21 (by repeat (first|(with_reducible first|exact HB.out|apply zz03|apply zz01|apply zz02|refine zz10 ?_ GE246.out)|exact HB.out)) hb);have n2_:=zz00 (hbox);have n3_:=zz00 ((by rw [hg];exact (zz22 (by repeat (first|(with_reducible first|exact HB.out|apply zz03|apply zz01|apply zz02|refine zz10 ?_ GE246.out)|exact HB.out))) : w.heap.size ≤ gb253));have n4_:=zz00 ((by rw [hg];exact (zz22 (by repeat (first|(with_reducible first|exact HB.out|apply zz03|apply zz01|apply zz02|refine zz10 ?_ GE246.out)|exact HB.out))) : w.heap.size ≤ gb253));have n5_:=zz00 ((by rw [hg];exact Nat.ne_of_lt (blk_lt (g:=gb246) (o:=.cells #[.int .i64 0,.int .i64 0,.bool false] 93 (0,0)) (by (with_reducible repeat (first|refine zz07 ?_ _|refine zz09 ?_|refine zz08 ?_ _));exact BK246.out)) : gb246 ≠ gb253));have n6_:=zz00 ((by rw [hg];exact Nat.ne_of_gt (blk_lt (g:=gb246) (o:=.cells #[.int .i64 0,.int .i64 0,.bool false] 93 (0,0)) (by (with_reducible repeat (first|refine zz07 ?_ _|refine zz09 ?_|refine zz08 ?_ _));exact BK246.out)) : gb253 ≠ gb246));clear BK246;clear HB;have BK246:=n0_;have HB:=n1_;have BK253:=n2_;have GW253:=n3_;have GE253:=n4_;have NB246_253:=n5_;have NB253_246:=n6_;clear n0_ n1_ n2_ n3_ n4_ n5_ n6_;clear hb hbox hg;have hnb12:=NB253_246.out;have hnc12:=NB246_253.out;have hcz13_0 : w11.cell? ⟨gb253,0,none⟩ = some (.int .i64 0):=(zz18 BK253.out 0).trans rfl;have hcz13_1 : w11.cell? ⟨gb253,1,none⟩ = some (.int .i64 0):=(zz18 BK253.out 1).trans rfl;have hcz13_2 : w11.cell? ⟨gb253,2,none⟩ = some (.bool false):=(zz18 BK253.out 2).trans rfl;have hfz13_0:=zz17 BK253.out 0;have hfz13_1:=zz17 BK253.out 1;have hfz13_2:=zz17 BK253.out 2;have hcz14_0 : w11.cell? ⟨gb246,0,none⟩ = some (.int .i64 0):=(zz18 BK246.out 0).trans rfl;have hcz14_1 : w11.cell? ⟨gb246,1,none⟩ = some (.int .i64 0):=(zz18 BK246.out 1).trans rfl;have hcz14_2 : w11.cell? ⟨gb246,2,none⟩ = some (.bool false):=(zz18 BK246.out 2).trans rfl;have hfz14_0:=zz17 BK246.out 0;have hfz14_1:=zz17 BK246.out 1;have hfz14_2:=zz17 BK246.out 2))
   refine bodyPost_ret (results_ct rfl _ _ gb246 93 #[.int .i64 t251,.int .i64 (wrap64 (t247 - 383)),.bool true] (0,0) _ rfl (by (with_reducible repeat (first|refine zz07 ?_ _|refine zz09 ?_|refine zz08 ?_ _));refine zz35 (cs:=#[.int .i64 t251,.int .i64 (wrap64 (t247 - 383)),.bool false]) ?_ 2 _ rfl;(with_reducible repeat (first|refine zz07 ?_ _|refine zz09 ?_|refine zz08 ?_ _));refine zz35 (cs:=#[.int .i64 t251,.int .i64 0,.bool false]) ?_ 1 _ rfl;(with_reducible repeat (first|refine zz07 ?_ _|refine zz09 ?_|refine zz08 ?_ _));refine zz35 (cs:=#[.int .i64 0,.int .i64 0,.bool false]) ?_ 0 _ rfl;(with_reducible repeat (first|refine zz07 ?_ _|refine zz09 ?_|refine zz08 ?_ _));refine zz33 ?_ NB246_253.out _;(with_reducible repeat (first|refine zz07 ?_ _|refine zz09 ?_|refine zz08 ?_ _));refine zz33 ?_ NB246_253.out _;(with_reducible repeat (first|refine zz07 ?_ _|refine zz09 ?_|refine zz08 ?_ _));refine zz33 ?_ NB246_253.out _;(with_reducible repeat (first|refine zz07 ?_ _|refine zz09 ?_|refine zz08 ?_ _));exact BK246.out) Tryz.underlying93 rfl (by kernel_rfl)) rfl ?_
   exact ⟨by first|rfl|(simp [errW_none,errW_some] <;> rfl)|(simp [*,errW_none,errW_some] <;> rfl),by repeat (first|(with_reducible first|exact HB.out|apply zz03|apply zz01|apply zz02|refine zz10 ?_ GE246.out|refine zz10 ?_ GE253.out)|exact HB.out)⟩
  ·
   replace c7 := zz32.mpr c7
   subst c7
   have H1 : (some (t251, wrap64 (t247 - 353), false, 0)) = some (r1, r2, r3, r4) := by rw [if_neg (show ¬ (false = true) by decide)] at H; exact H
   clear H
   have H := H1
   clear H1
   simp only [zz15, zz16] at H
   obtain ⟨rfl, rfl, rfl, rfl⟩ := H
   go_enter Tryz.func97, Tryz.ntmps97
   go_wp2_with (first|((with_reducible refine zz24 (N:=2) rfl ?_);refine zz30 ?hg (N:=2) ?hd (cs:=#[.int .i64 0,.int .i64 0,.bool false]) (t:=93) ?hr ?_;(case hd=>rfl);(case hg=>rfl);(case hr=>first|(go_simp;done)|(go_simp;rfl));intro gb246 hg w15 hbox hb;have n0_:=zz00 (zz21 (by repeat (first|(with_reducible first|exact HB.out|apply zz03|apply zz01|apply zz02)|exact HB.out)) hb);have n1_:=zz00 (hbox);have n2_:=zz00 ((by rw [hg];exact (zz22 (by repeat (first|(with_reducible first|exact HB.out|apply zz03|apply zz01|apply zz02)|exact HB.out))) : w.heap.size ≤ gb246));have n3_:=zz00 ((by rw [hg];exact (zz22 (by repeat (first|(with_reducible first|exact HB.out|apply zz03|apply zz01|apply zz02)|exact HB.out))) : w.heap.size ≤ gb246));clear HB;have HB:=n0_;have BK246:=n1_;have GW246:=n2_;have GE246:=n3_;clear n0_ n1_ n2_ n3_;clear hb hbox hg)|((with_reducible refine zz23 (f:=145) rfl ?_);refine zz25 (some 11) rfl rfl Tryz.func145 (by kernel_rfl) rfl #[.int .i64 a0] rfl (by (try simp only [List.map_toArray,List.map_cons,List.map_nil]);first|done|rfl|(simp only [List.length_drop,List.length_take];rfl)) ?_;(with_reducible refine (almanackerref07_Long.calls k a0 t247 t248 _ A2.out).mono ?_);rintro e w16 ⟨rfl,hb⟩;refine ⟨_,rfl,?_⟩;have n0_:=zz00 (zz34 (g:=gb246) (o:=.cells #[.int .i64 0,.int .i64 0,.bool false] 93 (0,0)) (by (with_reducible repeat (first|refine zz07 ?_ _|refine zz09 ?_|refine zz08 ?_ _));exact BK246.out) hb);have n1_:=zz00 (zz21 (by repeat (first|(with_reducible first|exact HB.out|apply zz03|apply zz01|apply zz02|refine zz10 ?_ GE246.out)|exact HB.out)) hb);clear BK246;clear HB;have BK246:=n0_;have HB:=n1_;clear n0_ n1_;(try clear hb);(try clear hb2);(try clear hk);(try clear hi))|((with_reducible refine zz23 (f:=98) rfl ?_);refine zz25 (some 20) rfl rfl Tryz.func98 (by kernel_rfl) rfl #[.int .i64 a0] rfl (by (try simp only [List.map_toArray,List.map_cons,List.map_nil]);first|done|rfl|(simp only [List.length_drop,List.length_take];rfl)) ?_;(with_reducible refine (almanackerref05_First.calls k a0 t249 t250 _ A4.out).mono ?_);rintro e w17 ⟨rfl,hb⟩;refine ⟨_,rfl,?_⟩;have n0_:=zz00 (zz34 (g:=gb246) (o:=.cells #[.int .i64 0,.int .i64 0,.bool false] 93 (0,0)) (by (with_reducible repeat (first|refine zz07 ?_ _|refine zz09 ?_|refine zz08 ?_ _));exact BK246.out) hb);have n1_:=zz00 (zz21 (by repeat (first|(with_reducible first|exact HB.out|apply zz03|apply zz01|apply zz02|refine zz10 ?_ GE246.out)|exact HB.out)) hb);clear BK246;clear HB;have BK246:=n0_;have HB:=n1_;clear n0_ n1_;(try clear hb);(try clear hb2);(try clear hk);(try clear hi))|((with_reducible refine zz23 (f:=90) rfl ?_);refine zz25 (some 24) rfl rfl Tryz.func90 (by kernel_rfl) rfl #[.int .i64 t249] rfl (by (try simp only [List.map_toArray,List.map_cons,List.map_nil]);first|done|rfl|(simp only [List.length_drop,List.length_take];rfl)) ?_;(with_reducible refine (almanackerref04_Weekday.calls t249 t251 _ A5.out).mono ?_);rintro e w' ⟨rfl,⟨nd,rfl⟩⟩;refine ⟨_,rfl,?_⟩;(try (rw [drewN_self w17];generalize hq_ : World.drewN w17 _ = w17;have n0_ : Aside0 (w17.heap[gb246]? = some (.cells #[.int .i64 0,.int .i64 0,.bool false] 93 (0,0))):=⟨by rw [← hq_];exact (by (with_reducible repeat (first|refine zz07 ?_ _|refine zz09 ?_|refine zz08 ?_ _));exact BK246.out)⟩;have n1_ : Aside0 (Below w.heap.size w w17):=⟨by rw [← hq_];exact (by repeat (first|(with_reducible first|exact HB.out|apply zz03|apply zz01|apply zz02|refine zz10 ?_ GE246.out)|exact HB.out))⟩;clear BK246 HB hq_;have BK246:=n0_;have HB:=n1_;clear n0_ n1_)))|((with_reducible refine zz23 (f:=23) rfl ?_);refine zz25 (some 28) rfl rfl Tryz.func23 (by kernel_rfl) rfl #[.int .i64 a0] rfl (by (try simp only [List.map_toArray,List.map_cons,List.map_nil]);first|done|rfl|(simp only [List.length_drop,List.length_take];rfl)) ?_;(with_reducible refine (almanackerref03_Is.calls a0 false _ A6.out).mono ?_);rintro e w' ⟨rfl,⟨nd,rfl⟩⟩;refine ⟨_,rfl,?_⟩;(try (rw [drewN_self w17];generalize hq_ : World.drewN w17 _ = w17;have n0_ : Aside0 (w17.heap[gb246]? = some (.cells #[.int .i64 0,.int .i64 0,.bool false] 93 (0,0))):=⟨by rw [← hq_];exact (by (with_reducible repeat (first|refine zz07 ?_ _|refine zz09 ?_|refine zz08 ?_ _));exact BK246.out)⟩;have n1_ : Aside0 (Below w.heap.size w w17):=⟨by rw [← hq_];exact (by repeat (first|(with_reducible first|exact HB.out|apply zz03|apply zz01|apply zz02|refine zz10 ?_ GE246.out)|exact HB.out))⟩;clear BK246 HB hq_;have BK246:=n0_;have HB:=n1_;clear n0_ n1_)))|((with_reducible refine zz24 (N:=8) rfl ?_);refine zz30 ?hg (N:=8) ?hd (cs:=#[.int .i64 0,.int .i64 0,.bool false]) (t:=93) ?hr ?_;(case hd=>rfl);(case hg=>rfl);(case hr=>first|(go_simp;done)|(go_simp;rfl));intro gb253 hg w18 hbox hb;have n0_:=zz00 (zz34 (g:=gb246) (o:=.cells #[.int .i64 0,.int .i64 0,.bool false] 93 (0,0)) (by (with_reducible repeat (first|refine zz07 ?_ _|refine zz09 ?_|refine zz08 ?_ _));exact BK246.out) hb);have n1_:=zz00 (zz21 (by repeat (first|(with_reducible first|exact HB.out|apply zz03|apply zz01|apply zz02|refine zz10 ?_ GE246.out)|exact HB.out)) hb);have n2_:=zz00 (hbox);have n3_:=zz00 ((by rw [hg];exact (zz22 (by repeat (first|(with_reducible first|exact HB.out|apply zz03|apply zz01|apply zz02|refine zz10 ?_ GE246.out)|exact HB.out))) : w.heap.size ≤ gb253));have n4_:=zz00 ((by rw [hg];exact (zz22 (by repeat (first|(with_reducible first|exact HB.out|apply zz03|apply zz01|apply zz02|refine zz10 ?_ GE246.out)|exact HB.out))) : w.heap.size ≤ gb253));have n5_:=zz00 ((by rw [hg];exact Nat.ne_of_lt (blk_lt (g:=gb246) (o:=.cells #[.int .i64 0,.int .i64 0,.bool false] 93 (0,0)) (by (with_reducible repeat (first|refine zz07 ?_ _|refine zz09 ?_|refine zz08 ?_ _));exact BK246.out)) : gb246 ≠ gb253));have n6_:=zz00 ((by rw [hg];exact Nat.ne_of_gt (blk_lt (g:=gb246) (o:=.cells #[.int .i64 0,.int .i64 0,.bool false] 93 (0,0)) (by (with_reducible repeat (first|refine zz07 ?_ _|refine zz09 ?_|refine zz08 ?_ _));exact BK246.out)) : gb253 ≠ gb246));clear BK246;clear HB;have BK246:=n0_;have HB:=n1_;have BK253:=n2_;have GW253:=n3_;have GE253:=n4_;have NB246_253:=n5_;have NB253_246:=n6_;clear n0_ n1_ n2_ n3_ n4_ n5_ n6_;clear hb hbox hg;have hnb19:=NB253_246.out;have hnc19:=NB246_253.out;have hcz20_0 : w18.cell? ⟨gb253,0,none⟩ = some (.int .i64 0):=(zz18 BK253.out 0).trans rfl;have hcz20_1 : w18.cell? ⟨gb253,1,none⟩ = some (.int .i64 0):=(zz18 BK253.out 1).trans rfl;have hcz20_2 : w18.cell? ⟨gb253,2,none⟩ = some (.bool false):=(zz18 BK253.out 2).trans rfl;have hfz20_0:=zz17 BK253.out 0;have hfz20_1:=zz17 BK253.out 1;have hfz20_2:=zz17 BK253.out 2;have hcz21_0 : w18.cell? ⟨gb246,0,none⟩ = some (.int .i64 0):=(zz18 BK246.out 0).trans rfl;have hcz21_1 : w18.cell? ⟨gb246,1,none⟩ = some (.int .i64 0):=(zz18 BK246.out 1).trans rfl;have hcz21_2 : w18.cell? ⟨gb246,2,none⟩ = some (.bool false):=(zz18 BK246.out 2).trans rfl;have hfz21_0:=zz17 BK246.out 0;have hfz21_1:=zz17 BK246.out 1;have hfz21_2:=zz17 BK246.out 2))
   refine bodyPost_ret (results_ct rfl _ _ gb246 93 #[.int .i64 t251,.int .i64 (wrap64 (t247 - 353)),.bool false] (0,0) _ rfl (by (with_reducible repeat (first|refine zz07 ?_ _|refine zz09 ?_|refine zz08 ?_ _));refine zz35 (cs:=#[.int .i64 t251,.int .i64 (wrap64 (t247 - 353)),.bool false]) ?_ 2 _ rfl;(with_reducible repeat (first|refine zz07 ?_ _|refine zz09 ?_|refine zz08 ?_ _));refine zz35 (cs:=#[.int .i64 t251,.int .i64 0,.bool false]) ?_ 1 _ rfl;(with_reducible repeat (first|refine zz07 ?_ _|refine zz09 ?_|refine zz08 ?_ _));refine zz35 (cs:=#[.int .i64 0,.int .i64 0,.bool false]) ?_ 0 _ rfl;(with_reducible repeat (first|refine zz07 ?_ _|refine zz09 ?_|refine zz08 ?_ _));refine zz33 ?_ NB246_253.out _;(with_reducible repeat (first|refine zz07 ?_ _|refine zz09 ?_|refine zz08 ?_ _));refine zz33 ?_ NB246_253.out _;(with_reducible repeat (first|refine zz07 ?_ _|refine zz09 ?_|refine zz08 ?_ _));refine zz33 ?_ NB246_253.out _;(with_reducible repeat (first|refine zz07 ?_ _|refine zz09 ?_|refine zz08 ?_ _));exact BK246.out) Tryz.underlying93 rfl (by kernel_rfl)) rfl ?_
   exact ⟨by first|rfl|(simp [errW_none,errW_some] <;> rfl)|(simp [*,errW_none,errW_some] <;> rfl),by repeat (first|(with_reducible first|exact HB.out|apply zz03|apply zz01|apply zz02|refine zz10 ?_ GE246.out|refine zz10 ?_ GE253.out)|exact HB.out)⟩
 ·
  rw [if_neg c3] at H
  have c3b0 : (t248 == 0) = false := zz27.mpr c3
  have c3b1 : (t248 != 0) = true := zz28.mpr c3
  simp only [zz15, zz16] at H
  obtain ⟨rfl, rfl, rfl, rfl⟩ := H
  go_enter Tryz.func97, Tryz.ntmps97
  go_wp2_with (first|((with_reducible refine zz24 (N:=2) rfl ?_);refine zz30 ?hg (N:=2) ?hd (cs:=#[.int .i64 0,.int .i64 0,.bool false]) (t:=93) ?hr ?_;(case hd=>rfl);(case hg=>rfl);(case hr=>first|(go_simp;done)|(go_simp;rfl));intro gb246 hg w22 hbox hb;have n0_:=zz00 (zz21 (by repeat (first|(with_reducible first|exact HB.out|apply zz03|apply zz01|apply zz02)|exact HB.out)) hb);have n1_:=zz00 (hbox);have n2_:=zz00 ((by rw [hg];exact (zz22 (by repeat (first|(with_reducible first|exact HB.out|apply zz03|apply zz01|apply zz02)|exact HB.out))) : w.heap.size ≤ gb246));have n3_:=zz00 ((by rw [hg];exact (zz22 (by repeat (first|(with_reducible first|exact HB.out|apply zz03|apply zz01|apply zz02)|exact HB.out))) : w.heap.size ≤ gb246));clear HB;have HB:=n0_;have BK246:=n1_;have GW246:=n2_;have GE246:=n3_;clear n0_ n1_ n2_ n3_;clear hb hbox hg)|((with_reducible refine zz23 (f:=145) rfl ?_);refine zz25 (some 11) rfl rfl Tryz.func145 (by kernel_rfl) rfl #[.int .i64 a0] rfl (by (try simp only [List.map_toArray,List.map_cons,List.map_nil]);first|done|rfl|(simp only [List.length_drop,List.length_take];rfl)) ?_;(with_reducible refine (almanackerref07_Long.calls k a0 t247 t248 _ A2.out).mono ?_);rintro e w23 ⟨rfl,hb⟩;refine ⟨_,rfl,?_⟩;have n0_:=zz00 (zz34 (g:=gb246) (o:=.cells #[.int .i64 0,.int .i64 0,.bool false] 93 (0,0)) (by (with_reducible repeat (first|refine zz07 ?_ _|refine zz09 ?_|refine zz08 ?_ _));exact BK246.out) hb);have n1_:=zz00 (zz21 (by repeat (first|(with_reducible first|exact HB.out|apply zz03|apply zz01|apply zz02|refine zz10 ?_ GE246.out)|exact HB.out)) hb);clear BK246;clear HB;have BK246:=n0_;have HB:=n1_;clear n0_ n1_;(try clear hb);(try clear hb2);(try clear hk);(try clear hi);have hcz24_0 : w23.cell? ⟨gb246,0,none⟩ = some (.int .i64 0):=(zz18 BK246.out 0).trans rfl;have hcz24_1 : w23.cell? ⟨gb246,1,none⟩ = some (.int .i64 0):=(zz18 BK246.out 1).trans rfl;have hcz24_2 : w23.cell? ⟨gb246,2,none⟩ = some (.bool false):=(zz18 BK246.out 2).trans rfl;have hfz24_0:=zz17 BK246.out 0;have hfz24_1:=zz17 BK246.out 1;have hfz24_2:=zz17 BK246.out 2))
  refine bodyPost_ret (results_ct rfl _ _ gb246 93 #[.int .i64 0,.int .i64 0,.bool false] (0,0) _ rfl (by (with_reducible repeat (first|refine zz07 ?_ _|refine zz09 ?_|refine zz08 ?_ _));refine zz35 (cs:=#[.int .i64 0,.int .i64 0,.bool false]) ?_ 2 _ rfl;(with_reducible repeat (first|refine zz07 ?_ _|refine zz09 ?_|refine zz08 ?_ _));refine zz35 (cs:=#[.int .i64 0,.int .i64 0,.bool false]) ?_ 1 _ rfl;(with_reducible repeat (first|refine zz07 ?_ _|refine zz09 ?_|refine zz08 ?_ _));refine zz35 (cs:=#[.int .i64 0,.int .i64 0,.bool false]) ?_ 0 _ rfl;(with_reducible repeat (first|refine zz07 ?_ _|refine zz09 ?_|refine zz08 ?_ _));exact BK246.out) Tryz.underlying93 rfl (by kernel_rfl)) rfl ?_
  exact ⟨by first|rfl|(simp [errW_none,errW_some] <;> rfl)|(simp [*,errW_none,errW_some] <;> rfl),by repeat (first|(with_reducible first|exact HB.out|apply zz03|apply zz01|apply zz02|refine zz10 ?_ GE246.out)|exact HB.out)⟩

def almanackerref09_codes.l0 : Nat → Bool → List (S32) → Int → Option ((List (S32)))
  | 0, _, _, _ => none
  | k + 1, x0, x3, x4 => if x4 ≤ 12 then (if x3.length < 8796093022208 then ((some (x3 ++ [(⟨x4, false⟩ : S32)] : List (S32))).bind fun y254 => (if x4 = 5 then (if x0 = true then (if y254.length < 8796093022208 then (almanackerref09_codes.l0 k x0 (y254 ++ [(⟨5, true⟩ : S32)]) (wrap64 (x4 + 1))) else (none)) else (almanackerref09_codes.l0 k x0 y254 (wrap64 (x4 + 1)))) else (almanackerref09_codes.l0 k x0 y254 (wrap64 (x4 + 1))))) else (none)) else (some x3)
def almanackerref09_codes.f (k : Nat) (a0 : Bool) : Option ((List (S32))) := almanackerref09_codes.l0 k a0 ([] : List (S32)) 1
theorem almanackerref09_codes.mono_l : ∀ k, (∀ y0 y1 y2, LeO (almanackerref09_codes.l0 k y0 y1 y2) (almanackerref09_codes.l0 (k + 1) y0 y1 y2))
 | 0 => fun _ _ _ r h => by simp [almanackerref09_codes.l0] at h
 | k + 1 => by
  have ih0 := almanackerref09_codes.mono_l k
  ·
   intro y0 y1 y2
   unfold almanackerref09_codes.l0
   repeat' first
   | (with_reducible exact ih0 _ _ _)
   | (with_reducible exact LeO.refl _)
   | (with_reducible exact LeO.none _)
   | (with_reducible refine LeO.ite ?_ ?_)
   | (with_reducible refine LeO.bind ?_ (fun _ => ?_))
   | exact ih0 _ _ _
   | exact LeO.none _
   | refine LeO.ite ?_ ?_
   | refine LeO.bind ?_ (fun _ => ?_)
theorem almanackerref09_codes.mono : ∀ a0 k, LeO (almanackerref09_codes.f k a0) (almanackerref09_codes.f (k + 1) a0) := by
 intro a0 k
 have ih0 := almanackerref09_codes.mono_l k
 unfold almanackerref09_codes.f
 repeat' first
   | (with_reducible exact ih0 _ _ _)
   | (with_reducible exact LeO.refl _)
   | (with_reducible exact LeO.none _)
   | (with_reducible refine LeO.ite ?_ ?_)
   | (with_reducible refine LeO.bind ?_ (fun _ => ?_))
   | exact ih0 _ _ _
   | exact LeO.none _
   | refine LeO.ite ?_ ?_
   | refine LeO.bind ?_ (fun _ => ?_)
set_option maxHeartbeats 8000000 in
set_option maxRecDepth 100000 in
theorem almanackerref09_codes.calls (k : Nat) (a0 : Bool) (r : List (S32)) (w : World) (h : almanackerref09_codes.f k a0 = some r) :
  Calls Tryz.prog 128 #[.bool a0] w fun e w' => ∃ v0_ : Value, e = .returned (v0_) ∧ Kd.R k32 32 w' w.heap.size (fun _ => True) v0_ r ∧ Below w.heap.size w w' := by
 have hu32 := Tryz.underlying32
 have HB := zz00 (Below.refl w.heap.size w)
 have H : (almanackerref09_codes.l0 k a0 ([] : List (S32)) 1) = some r := h
 clear h
 have H' := zz00 H
 clear H
 go_enter Tryz.func128, Tryz.ntmps128
 go_wp2
 go_loopg [3,4] k (fun kq v3 v4 w'=>∃ (x3_1 : List (S32)) (x4_1 : Int),v4 = .int .i64 x4_1 ∧ Aside0 (almanackerref09_codes.l0 kq a0 x3_1 x4_1 = some r) ∧ Aside0 (kq ≤ k) ∧ Aside0 (Kd.R k32 32 w' w.heap.size (fun _=>True) v3 x3_1) ∧ Aside0 (Below w.heap.size w w'))
 case atStart=>exact ⟨(([] : List (S32))),(1),(by first|rfl|(simp;done)|(simp [*];done)),H',⟨Nat.le_refl _⟩,⟨by first|exact Kd.R_nil _ _ _ _ _|exact Kd.N_nil _ _ _ _ _|exact Kd.V_nil _ _ _ _ _|exact Kd.Q_nil _ _ _ _ _|exact Kd.S_nil _ _ _ _ _⟩,⟨by repeat (first|(with_reducible first|exact HB.out|apply zz03|apply zz01|apply zz02)|exact HB.out)⟩⟩
 case round =>
  clear H'
  try clear c1
  obtain ⟨x3_1, x4_1, rfl, HA, HK1, HO_3, HB⟩ := hrel
  cases gk with
  | zero => exact absurd HA.out (by simp [almanackerref09_codes.l0])
  | succ k1 =>
   have H := HA.out
   clear HA
   simp only [almanackerref09_codes.l0] at H
   by_cases c2 : x4_1 ≤ 12
   ·
    rw [if_pos c2] at H
    have c2b0 : decide (x4_1 ≤ 12) = true := decide_eq_true c2
    clear c2
    by_cases c3 : x3_1.length < 8796093022208
    ·
     rw [if_pos c3] at H
     have LMc3 := zz00 c3
     clear c3
     obtain ⟨y254, hy254⟩ : ∃ y_ : List (S32), y_ = (x3_1 ++ [(⟨x4_1, false⟩ : S32)]) := ⟨_, rfl⟩
     replace H : (if x4_1 = 5 then (if a0 = true then (if y254.length < 8796093022208 then (almanackerref09_codes.l0 k1 a0 (y254 ++ [(⟨5,true⟩ : S32)]) (wrap64 (x4_1 + 1))) else (none)) else (almanackerref09_codes.l0 k1 a0 y254 (wrap64 (x4_1 + 1)))) else (almanackerref09_codes.l0 k1 a0 y254 (wrap64 (x4_1 + 1)))) = some r:=by first|(rw [hy254];with_reducible exact H)|(have H2_:=(Option.bind_some _ _).symm.trans H;rw [hy254];with_reducible exact H2_)|(have H2_:=(Option.bind_some _ _).symm.trans H;with_reducible exact H2_)|with_reducible exact H|(rw [hy254];exact H)|exact H
     have Ny254 := zz00 hy254
     clear hy254
     by_cases c4 : x4_1 = 5
     ·
      rw [if_pos c4] at H
      have c4b0 : (x4_1 == 5) = true := zz29.mpr c4
      have c4b1 : (x4_1 != 5) = false := zz26.mpr c4
      clear c4
      by_cases c5 : a0 = true
      ·
       subst c5
       have H1 : (if y254.length < 8796093022208 then (almanackerref09_codes.l0 k1 true (y254 ++ [(⟨5, true⟩ : S32)]) (wrap64 (x4_1 + 1))) else (none)) = some r := by rw [if_pos rfl] at H; exact H
       clear H
       have H := H1
       clear H1
       by_cases c6 : y254.length < 8796093022208
       ·
        rw [if_pos c6] at H
        have LMc6 := zz00 c6
        clear c6
        obtain ⟨y257, hy257⟩ : ∃ y_ : List (S32), y_ = (y254 ++ [(⟨5, true⟩ : S32)]) := ⟨_, rfl⟩
        replace H : (almanackerref09_codes.l0 k1 true y257 (wrap64 (x4_1 + 1))) = some r:=by first|(rw [hy257];with_reducible exact H)|(have H2_:=(Option.bind_some _ _).symm.trans H;rw [hy257];with_reducible exact H2_)|(have H2_:=(Option.bind_some _ _).symm.trans H;with_reducible exact H2_)|with_reducible exact H|(rw [hy257];exact H)|exact H
        have Ny257 := zz00 hy257
        clear hy257
        have H' := zz00 H
        clear H
        go_wp2_with (first|((with_reducible refine gate_builtin (b:=.append) (xs:=#[.tmp 9,.tmp 12]) rfl ?_);at_builtin;refine Kd.R_append k32 (w0:=w) w.heap.size rfl (.tmp 9) (.tmp 12) 144 32 (.agg #[(.int .i64 0),(.bool false)]) 16 rfl Tryz.underlying144 info32 rfl (by decide) (by omega) u3 x3_1 (⟨x4_1,false⟩ : S32) [.int .i64 x4_1,.bool false] (fun _=>True) (fun _=>False) rfl rfl ?aP (fun _ hk=>hk.elim) ?aF ?aO ?aB ?aS ?aL ?_;(case aP=>exact k32_mkM _ _ _ (⟨x4_1,false⟩ : S32));(case aB=>exact (by repeat (first|(with_reducible first|exact HB.out|apply zz03|apply zz01|apply zz02)|exact HB.out)));(case aF=>exact (fun _ _=>trivial));(case aO=>exact (by (with_reducible repeat (first|apply zz05|apply zz04|apply zz06));exact HO_3.out));(case aS=>exact (zz22 (by repeat (first|(with_reducible first|exact HB.out|apply zz03|apply zz01|apply zz02)|exact HB.out))));(case aL=>have:=LMc3.out;omega);intro v255 w7 ho hb hg hat;rw [← Ny254.out] at ho;have n0_:=zz00 (hb);have n1_:=zz00 (ho);clear HB;clear HO_3;have HB:=n0_;have HO256:=n1_;clear n0_ n1_;clear ho hb hg hat)|((with_reducible refine gate_builtin (b:=.append) (xs:=#[.tmp 19,.tmp 21]) rfl ?_);at_builtin;refine Kd.R_append k32 (w0:=w) w.heap.size rfl (.tmp 19) (.tmp 21) 144 32 (.agg #[(.int .i64 0),(.bool false)]) 16 rfl Tryz.underlying144 info32 rfl (by decide) (by omega) v255 y254 (⟨5,true⟩ : S32) [.int .i64 5,.bool true] (fun _=>True) (fun _=>False) rfl rfl ?aP (fun _ hk=>hk.elim) ?aF ?aO ?aB ?aS ?aL ?_;(case aP=>exact k32_mkM _ _ _ (⟨5,true⟩ : S32));(case aB=>exact (by repeat (first|(with_reducible first|exact HB.out|apply zz03|apply zz01|apply zz02)|exact HB.out)));(case aF=>exact (fun _ _=>trivial));(case aO=>exact (by (with_reducible repeat (first|apply zz05|apply zz04|apply zz06));exact HO256.out));(case aS=>exact (zz22 (by repeat (first|(with_reducible first|exact HB.out|apply zz03|apply zz01|apply zz02)|exact HB.out))));(case aL=>have:=LMc6.out;omega);intro v258 w8 ho hb hg hat;rw [← Ny257.out] at ho;have n0_:=zz00 (hb);have n1_:=zz00 (ho);clear HB;clear HO256;have HB:=n0_;have HO259:=n1_;clear n0_ n1_;clear ho hb hg hat))
        go_roundg k1
        case measure => have := HK1.out; omega
        case rel=>exact ⟨(y257),(wrap64 (x4_1 + 1)),(by first|rfl|(simp;done)|(simp [*];done)),H',⟨by have:=HK1.out;omega⟩,⟨by (with_reducible repeat (first|apply zz05|apply zz04|apply zz06));exact HO259.out⟩,⟨by repeat (first|(with_reducible first|exact HB.out|apply zz03|apply zz01|apply zz02)|exact HB.out)⟩⟩
       ·
        rw [if_neg c6] at H
        exact absurd H (by simp)
      ·
       replace c5 := zz32.mpr c5
       subst c5
       have H1 : (almanackerref09_codes.l0 k1 false y254 (wrap64 (x4_1 + 1))) = some r := by rw [if_neg (show ¬ (false = true) by decide)] at H; exact H
       clear H
       have H := H1
       clear H1
       have H' := zz00 H
       clear H
       go_wp2_with (first|((with_reducible refine gate_builtin (b:=.append) (xs:=#[.tmp 9,.tmp 12]) rfl ?_);at_builtin;refine Kd.R_append k32 (w0:=w) w.heap.size rfl (.tmp 9) (.tmp 12) 144 32 (.agg #[(.int .i64 0),(.bool false)]) 16 rfl Tryz.underlying144 info32 rfl (by decide) (by omega) u3 x3_1 (⟨x4_1,false⟩ : S32) [.int .i64 x4_1,.bool false] (fun _=>True) (fun _=>False) rfl rfl ?aP (fun _ hk=>hk.elim) ?aF ?aO ?aB ?aS ?aL ?_;(case aP=>exact k32_mkM _ _ _ (⟨x4_1,false⟩ : S32));(case aB=>exact (by repeat (first|(with_reducible first|exact HB.out|apply zz03|apply zz01|apply zz02)|exact HB.out)));(case aF=>exact (fun _ _=>trivial));(case aO=>exact (by (with_reducible repeat (first|apply zz05|apply zz04|apply zz06));exact HO_3.out));(case aS=>exact (zz22 (by repeat (first|(with_reducible first|exact HB.out|apply zz03|apply zz01|apply zz02)|exact HB.out))));(case aL=>have:=LMc3.out;omega);intro v255 w9 ho hb hg hat;rw [← Ny254.out] at ho;have n0_:=zz00 (hb);have n1_:=zz00 (ho);clear HB;clear HO_3;have HB:=n0_;have HO256:=n1_;clear n0_ n1_;clear ho hb hg hat))
       go_roundg k1
       case measure => have := HK1.out; omega
       case rel=>exact ⟨(y254),(wrap64 (x4_1 + 1)),(by first|rfl|(simp;done)|(simp [*];done)),H',⟨by have:=HK1.out;omega⟩,⟨by (with_reducible repeat (first|apply zz05|apply zz04|apply zz06));exact HO256.out⟩,⟨by repeat (first|(with_reducible first|exact HB.out|apply zz03|apply zz01|apply zz02)|exact HB.out)⟩⟩
     ·
      rw [if_neg c4] at H
      have c4b0 : (x4_1 == 5) = false := zz27.mpr c4
      have c4b1 : (x4_1 != 5) = true := zz28.mpr c4
      have H' := zz00 H
      clear H
      go_wp2_with (first|((with_reducible refine gate_builtin (b:=.append) (xs:=#[.tmp 9,.tmp 12]) rfl ?_);at_builtin;refine Kd.R_append k32 (w0:=w) w.heap.size rfl (.tmp 9) (.tmp 12) 144 32 (.agg #[(.int .i64 0),(.bool false)]) 16 rfl Tryz.underlying144 info32 rfl (by decide) (by omega) u3 x3_1 (⟨x4_1,false⟩ : S32) [.int .i64 x4_1,.bool false] (fun _=>True) (fun _=>False) rfl rfl ?aP (fun _ hk=>hk.elim) ?aF ?aO ?aB ?aS ?aL ?_;(case aP=>exact k32_mkM _ _ _ (⟨x4_1,false⟩ : S32));(case aB=>exact (by repeat (first|(with_reducible first|exact HB.out|apply zz03|apply zz01|apply zz02)|exact HB.out)));(case aF=>exact (fun _ _=>trivial));(case aO=>exact (by (with_reducible repeat (first|apply zz05|apply zz04|apply zz06));exact HO_3.out));(case aS=>exact (zz22 (by repeat (first|(with_reducible first|exact HB.out|apply zz03|apply zz01|apply zz02)|exact HB.out))));(case aL=>have:=LMc3.out;omega);intro v255 w10 ho hb hg hat;rw [← Ny254.out] at ho;have n0_:=zz00 (hb);have n1_:=zz00 (ho);clear HB;clear HO_3;have HB:=n0_;have HO256:=n1_;clear n0_ n1_;clear ho hb hg hat))
      go_roundg k1
      case measure => have := HK1.out; omega
      case rel=>exact ⟨(y254),(wrap64 (x4_1 + 1)),(by first|rfl|(simp;done)|(simp [*];done)),H',⟨by have:=HK1.out;omega⟩,⟨by (with_reducible repeat (first|apply zz05|apply zz04|apply zz06));exact HO256.out⟩,⟨by repeat (first|(with_reducible first|exact HB.out|apply zz03|apply zz01|apply zz02)|exact HB.out)⟩⟩
    ·
     rw [if_neg c3] at H
     exact absurd H (by simp)
   ·
    rw [if_neg c2] at H
    have c2b0 : decide (x4_1 ≤ 12) = false := decide_eq_false c2
    clear c2
    obtain rfl := Option.some.inj H
    go_wp2
    go_ret
    exact ⟨_,by first|rfl|(simp [errW_none,errW_some] <;> rfl)|(simp [*,errW_none,errW_some] <;> rfl),by (with_reducible repeat (first|apply zz05|apply zz04|apply zz06));exact HO_3.out,by repeat (first|(with_reducible first|exact HB.out|apply zz03|apply zz01|apply zz02)|exact HB.out)⟩

def almanackerref09_Place.l0 : Nat → List (S32) → Int → Int → Bool → Option (Int × Bool)
  | 0, _, _, _, _ => none
  | k + 1, x6, x7, x261000, x261001 => if x7 < (x6.length : Int) then (if 0 ≤ x7 then (if (((rd_T32 x6 x7).f0) == x261000 && (((rd_T32 x6 x7).f1) == x261001)) = true then (some (wrap64 (x7 + 1), true)) else (almanackerref09_Place.l0 k x6 (wrap64 (x7 + 1)) x261000 x261001)) else (none)) else (some (0, false))
def almanackerref09_Place.f (k : Nat) (a0 : Bool) (a1_0 : Int) (a1_1 : Bool) : Option (Int × Bool) := (almanackerref09_codes.f k a0).bind fun t261 => (almanackerref09_Place.l0 k t261 0 a1_0 a1_1)
theorem almanackerref09_Place.mono_l : ∀ k, (∀ y0 y1 y2 y3, LeO (almanackerref09_Place.l0 k y0 y1 y2 y3) (almanackerref09_Place.l0 (k + 1) y0 y1 y2 y3))
 | 0 => fun _ _ _ _ r h => by simp [almanackerref09_Place.l0] at h
 | k + 1 => by
  have ih0 := almanackerref09_Place.mono_l k
  ·
   intro y0 y1 y2 y3
   unfold almanackerref09_Place.l0
   repeat' first
   | (with_reducible exact ih0 _ _ _ _)
   | (with_reducible exact almanackerref09_codes.mono _ _)
   | (with_reducible exact LeO.refl _)
   | (with_reducible exact LeO.none _)
   | (with_reducible refine LeO.ite ?_ ?_)
   | (with_reducible refine LeO.bind ?_ (fun _ => ?_))
   | exact ih0 _ _ _ _
   | exact almanackerref09_codes.mono _ _
   | exact LeO.none _
   | refine LeO.ite ?_ ?_
   | refine LeO.bind ?_ (fun _ => ?_)
theorem almanackerref09_Place.mono : ∀ a0 a1 a2 k, LeO (almanackerref09_Place.f k a0 a1 a2) (almanackerref09_Place.f (k + 1) a0 a1 a2) := by
 intro a0 a1 a2 k
 have ih0 := almanackerref09_Place.mono_l k
 unfold almanackerref09_Place.f
 repeat' first
   | (with_reducible exact ih0 _ _ _ _)
   | (with_reducible exact almanackerref09_codes.mono _ _)
   | (with_reducible exact LeO.refl _)
   | (with_reducible exact LeO.none _)
   | (with_reducible refine LeO.ite ?_ ?_)
   | (with_reducible refine LeO.bind ?_ (fun _ => ?_))
   | exact ih0 _ _ _ _
   | exact almanackerref09_codes.mono _ _
   | exact LeO.none _
   | refine LeO.ite ?_ ?_
   | refine LeO.bind ?_ (fun _ => ?_)
set_option maxHeartbeats 8000000 in
set_option maxRecDepth 100000 in
theorem almanackerref09_Place.calls (k : Nat) (a0 : Bool) (a1_0 : Int) (a1_1 : Bool) (r1 : Int) (r2 : Bool) (w : World) (h : almanackerref09_Place.f k a0 a1_0 a1_1 = some (r1, r2)) :
  Calls Tryz.prog 104 #[.bool a0, .agg #[.int .i64 a1_0, .bool a1_1]] w fun e w' => e = .returned (.tuple #[.int .i64 r1, .bool r2]) ∧ Below w.heap.size w w' := by
 have hu32 := Tryz.underlying32
 have HB := zz00 (Below.refl w.heap.size w)
 have H : ((almanackerref09_codes.f k a0).bind fun t261 => (almanackerref09_Place.l0 k t261 0 a1_0 a1_1)) = some (r1, r2) := h
 clear h
 replace H := zz14.mp H
 obtain ⟨t261, A30, H⟩ := H
 replace H : (almanackerref09_Place.l0 k t261 0 a1_0 a1_1) = some (r1, r2) := H
 have A3 := zz00 A30
 clear A30
 have H' := zz00 H
 clear H
 go_enter Tryz.func104, Tryz.ntmps104
 go_wp2_with (first|((with_reducible refine zz24 (N:=3) rfl ?_);refine zz30 ?hg (N:=3) ?hd (cs:=#[.int .i64 a1_0,.bool a1_1]) (t:=32) ?hr ?_;(case hd=>rfl);(case hg=>rfl);(case hr=>first|(go_simp;done)|(go_simp;rfl));intro gb260 hg w4 hbox hb;have n0_:=zz00 (zz21 (by repeat (first|(with_reducible first|exact HB.out|apply zz03|apply zz01|apply zz02)|exact HB.out)) hb);have n1_:=zz00 (hbox);have n2_:=zz00 ((by rw [hg];exact (zz22 (by repeat (first|(with_reducible first|exact HB.out|apply zz03|apply zz01|apply zz02)|exact HB.out))) : w.heap.size ≤ gb260));have n3_:=zz00 ((by rw [hg];exact (zz22 (by repeat (first|(with_reducible first|exact HB.out|apply zz03|apply zz01|apply zz02)|exact HB.out))) : w.heap.size ≤ gb260));clear HB;have HB:=n0_;have BK260:=n1_;have GW260:=n2_;have GE260:=n3_;clear n0_ n1_ n2_ n3_;clear hb hbox hg)|(go_at_call 128;(with_reducible refine (almanackerref09_codes.calls k a0 t261 _ A3.out).mono ?_);rintro e w5 ⟨v262,rfl,ho0,hb⟩;have n0_:=zz00 (Kd.R_lower (Kd.R_newB ho0 (g:=gb260) (o:=.cells #[.int .i64 a1_0,.bool a1_1] 32 (0,0)) (by (with_reducible repeat (first|refine zz07 ?_ _|refine zz09 ?_|refine zz08 ?_ _));exact BK260.out)) (zz22 (by repeat (first|(with_reducible first|exact HB.out|apply zz03|apply zz01|apply zz02|refine zz10 ?_ GE260.out)|exact HB.out))));have n1_:=zz00 (zz34 (g:=gb260) (o:=.cells #[.int .i64 a1_0,.bool a1_1] 32 (0,0)) (by (with_reducible repeat (first|refine zz07 ?_ _|refine zz09 ?_|refine zz08 ?_ _));exact BK260.out) hb);have n2_:=zz00 (zz21 (by repeat (first|(with_reducible first|exact HB.out|apply zz03|apply zz01|apply zz02|refine zz10 ?_ GE260.out)|exact HB.out)) hb);clear BK260;clear HB;have HO263:=n0_;have BK260:=n1_;have HB:=n2_;clear n0_ n1_ n2_;(try clear hb);(try clear hb2);(try clear hk);(try clear hi);(try clear ho0)))
 repeat (go_quiet (first|((with_reducible refine zz24 (N:=3) rfl ?_);refine zz30 ?hg (N:=3) ?hd (cs:=#[.int .i64 a1_0,.bool a1_1]) (t:=32) ?hr ?_;(case hd=>rfl);(case hg=>rfl);(case hr=>first|(go_simp;done)|(go_simp;rfl));intro gb260 hg w4 hbox hb;have n0_:=zz00 (zz21 (by repeat (first|(with_reducible first|exact HB.out|apply zz03|apply zz01|apply zz02)|exact HB.out)) hb);have n1_:=zz00 (hbox);have n2_:=zz00 ((by rw [hg];exact (zz22 (by repeat (first|(with_reducible first|exact HB.out|apply zz03|apply zz01|apply zz02)|exact HB.out))) : w.heap.size ≤ gb260));have n3_:=zz00 ((by rw [hg];exact (zz22 (by repeat (first|(with_reducible first|exact HB.out|apply zz03|apply zz01|apply zz02)|exact HB.out))) : w.heap.size ≤ gb260));clear HB;have HB:=n0_;have BK260:=n1_;have GW260:=n2_;have GE260:=n3_;clear n0_ n1_ n2_ n3_;clear hb hbox hg)|(go_at_call 128;(with_reducible refine (almanackerref09_codes.calls k a0 t261 _ A3.out).mono ?_);rintro e w5 ⟨v262,rfl,ho0,hb⟩;have n0_:=zz00 (Kd.R_lower (Kd.R_newB ho0 (g:=gb260) (o:=.cells #[.int .i64 a1_0,.bool a1_1] 32 (0,0)) (by (with_reducible repeat (first|refine zz07 ?_ _|refine zz09 ?_|refine zz08 ?_ _));exact BK260.out)) (zz22 (by repeat (first|(with_reducible first|exact HB.out|apply zz03|apply zz01|apply zz02|refine zz10 ?_ GE260.out)|exact HB.out))));have n1_:=zz00 (zz34 (g:=gb260) (o:=.cells #[.int .i64 a1_0,.bool a1_1] 32 (0,0)) (by (with_reducible repeat (first|refine zz07 ?_ _|refine zz09 ?_|refine zz08 ?_ _));exact BK260.out) hb);have n2_:=zz00 (zz21 (by repeat (first|(with_reducible first|exact HB.out|apply zz03|apply zz01|apply zz02|refine zz10 ?_ GE260.out)|exact HB.out)) hb);clear BK260;clear HB;have HO263:=n0_;have BK260:=n1_;have HB:=n2_;clear n0_ n1_ n2_;(try clear hb);(try clear hb2);(try clear hk);(try clear hi);(try clear ho0)));try go_wp2_with (first|((with_reducible refine zz24 (N:=3) rfl ?_);refine zz30 ?hg (N:=3) ?hd (cs:=#[.int .i64 a1_0,.bool a1_1]) (t:=32) ?hr ?_;(case hd=>rfl);(case hg=>rfl);(case hr=>first|(go_simp;done)|(go_simp;rfl));intro gb260 hg w4 hbox hb;have n0_:=zz00 (zz21 (by repeat (first|(with_reducible first|exact HB.out|apply zz03|apply zz01|apply zz02)|exact HB.out)) hb);have n1_:=zz00 (hbox);have n2_:=zz00 ((by rw [hg];exact (zz22 (by repeat (first|(with_reducible first|exact HB.out|apply zz03|apply zz01|apply zz02)|exact HB.out))) : w.heap.size ≤ gb260));have n3_:=zz00 ((by rw [hg];exact (zz22 (by repeat (first|(with_reducible first|exact HB.out|apply zz03|apply zz01|apply zz02)|exact HB.out))) : w.heap.size ≤ gb260));clear HB;have HB:=n0_;have BK260:=n1_;have GW260:=n2_;have GE260:=n3_;clear n0_ n1_ n2_ n3_;clear hb hbox hg)|(go_at_call 128;(with_reducible refine (almanackerref09_codes.calls k a0 t261 _ A3.out).mono ?_);rintro e w5 ⟨v262,rfl,ho0,hb⟩;have n0_:=zz00 (Kd.R_lower (Kd.R_newB ho0 (g:=gb260) (o:=.cells #[.int .i64 a1_0,.bool a1_1] 32 (0,0)) (by (with_reducible repeat (first|refine zz07 ?_ _|refine zz09 ?_|refine zz08 ?_ _));exact BK260.out)) (zz22 (by repeat (first|(with_reducible first|exact HB.out|apply zz03|apply zz01|apply zz02|refine zz10 ?_ GE260.out)|exact HB.out))));have n1_:=zz00 (zz34 (g:=gb260) (o:=.cells #[.int .i64 a1_0,.bool a1_1] 32 (0,0)) (by (with_reducible repeat (first|refine zz07 ?_ _|refine zz09 ?_|refine zz08 ?_ _));exact BK260.out) hb);have n2_:=zz00 (zz21 (by repeat (first|(with_reducible first|exact HB.out|apply zz03|apply zz01|apply zz02|refine zz10 ?_ GE260.out)|exact HB.out)) hb);clear BK260;clear HB;have HO263:=n0_;have BK260:=n1_;have HB:=n2_;clear n0_ n1_ n2_;(try clear hb);(try clear hb2);(try clear hk);(try clear hi);(try clear ho0))))
 go_loopg [7] k (fun kq v7 w'=>∃ (x7_1 : Int),v7 = .int .i64 x7_1 ∧ Aside0 (almanackerref09_Place.l0 kq t261 x7_1 a1_0 a1_1 = some (r1,r2)) ∧ Aside0 (kq ≤ k) ∧ Aside0 (Kd.R k32 32 w' w.heap.size (fun k_=>k_ ≠ gb260) v262 t261) ∧ Aside0 (w'.heap[gb260]? = some (.cells #[.int .i64 a1_0,.bool a1_1] 32 (0,0))) ∧ Aside0 (Below w.heap.size w w'))
 case atStart=>exact ⟨(0),(by first|rfl|(simp;done)|(simp [*];done)),H',⟨Nat.le_refl _⟩,⟨by (with_reducible repeat (first|apply zz05|apply zz04|apply zz06));exact Kd.R_mono HO263.out (fun _ hk=>hk.2)⟩,⟨by (with_reducible repeat (first|refine zz07 ?_ _|refine zz09 ?_|refine zz08 ?_ _));exact BK260.out⟩,⟨by repeat (first|(with_reducible first|exact HB.out|apply zz03|apply zz01|apply zz02|refine zz10 ?_ GE260.out)|exact HB.out)⟩⟩
 case round =>
  clear H'
  try clear c1
  try clear p2
  obtain ⟨x7_1, rfl, HA, HK1, HO_6, BK260, HB⟩ := hrel
  cases gk with
  | zero => exact absurd HA.out (by simp [almanackerref09_Place.l0])
  | succ k1 =>
   have H := HA.out
   clear HA
   simp only [almanackerref09_Place.l0] at H
   by_cases c6 : x7_1 < (t261.length : Int)
   ·
    rw [if_pos c6] at H
    have c6b0 : decide (x7_1 < (t261.length : Int)) = true := decide_eq_true c6
    clear c6
    by_cases c7 : 0 ≤ x7_1
    ·
     rw [if_pos c7] at H
     have c7b0 : decide (0 ≤ x7_1) = true := decide_eq_true c7
     clear c7
     by_cases c8 : (((rd_T32 t261 x7_1).f0) == a1_0 && (((rd_T32 t261 x7_1).f1) == a1_1)) = true
     ·
      rw [if_pos c8] at H
      have c8b0 : (((rd_T32 t261 x7_1).f0) == a1_0 && (((rd_T32 t261 x7_1).f1) == a1_1)) = true := c8
      (try (have c8b1 : decide (((rd_T32 t261 x7_1).f0) = a1_0 && (((rd_T32 t261 x7_1).f1) == a1_1)) = true := by simpa using c8))
      (try (have c8b2 : (((rd_T32 t261 x7_1).f0) == a1_0 && (((rd_T32 t261 x7_1).f1) == a1_1)) = true := by simpa using c8))
      clear c8
      simp only [zz15, zz16] at H
      obtain ⟨rfl, rfl⟩ := H
      obtain ⟨Ao9, co9, eo9⟩ := Kd.R_slice HO_6.out
      subst eo9
      have p264 : 0 ≤ (x7_1 : Int) := zz31 (by first | (with_reducible assumption) | assumption)
      have q264 : x7_1 < (t261.length : Int) := zz31 (by first | (with_reducible assumption) | assumption)
      obtain ⟨ad264, e264, hx264_0, hx264_1⟩ := at_T32 (Kd.R_reads' HO_6.out).2.2 x7_1 p264 q264
      cases e264
      replace p264 := eq_true p264
      replace q264 := eq_true q264
      have hcz10_0 : wr.cell? ⟨gb260, 0, none⟩ = some (.int .i64 a1_0) := (zz18 BK260.out 0).trans rfl
      have hcz10_1 : wr.cell? ⟨gb260, 1, none⟩ = some (.bool a1_1) := (zz18 BK260.out 1).trans rfl
      have hfz10_0 := zz17 BK260.out 0
      have hfz10_1 := zz17 BK260.out 1
      go_wp2
      repeat (go_quiet (fail); try go_wp2)
      go_ret2
      exact ⟨by first|rfl|(simp [errW_none,errW_some] <;> rfl)|(simp [*,errW_none,errW_some] <;> rfl),by repeat (first|(with_reducible first|exact HB.out|apply zz03|apply zz01|apply zz02|refine zz10 ?_ GE260.out)|exact HB.out)⟩
     ·
      rw [if_neg c8] at H
      have c8b0 : (((rd_T32 t261 x7_1).f0) == a1_0 && (((rd_T32 t261 x7_1).f1) == a1_1)) = false := by simpa using c8
      (try (have c8b1 : decide (((rd_T32 t261 x7_1).f0) = a1_0 && (((rd_T32 t261 x7_1).f1) == a1_1)) = false := by simpa using c8))
      (try (have c8b2 : (((rd_T32 t261 x7_1).f0) == a1_0 && (((rd_T32 t261 x7_1).f1) == a1_1)) = false := by simpa using c8))
      (try (have c8b3 : ¬ (((rd_T32 t261 x7_1).f0) = a1_0 && (((rd_T32 t261 x7_1).f1) == a1_1)) := by simpa using c8))
      clear c8
      have H' := zz00 H
      clear H
      obtain ⟨Ao11, co11, eo11⟩ := Kd.R_slice HO_6.out
      subst eo11
      have p264 : 0 ≤ (x7_1 : Int) := zz31 (by first | (with_reducible assumption) | assumption)
      have q264 : x7_1 < (t261.length : Int) := zz31 (by first | (with_reducible assumption) | assumption)
      obtain ⟨ad264, e264, hx264_0, hx264_1⟩ := at_T32 (Kd.R_reads' HO_6.out).2.2 x7_1 p264 q264
      cases e264
      replace p264 := eq_true p264
      replace q264 := eq_true q264
      have hcz12_0 : wr.cell? ⟨gb260, 0, none⟩ = some (.int .i64 a1_0) := (zz18 BK260.out 0).trans rfl
      have hcz12_1 : wr.cell? ⟨gb260, 1, none⟩ = some (.bool a1_1) := (zz18 BK260.out 1).trans rfl
      have hfz12_0 := zz17 BK260.out 0
      have hfz12_1 := zz17 BK260.out 1
      go_wp2
      repeat (go_quiet (fail); try go_wp2)
      go_roundg k1
      case measure => have := HK1.out; omega
      case rel=>exact ⟨(wrap64 (x7_1 + 1)),(by first|rfl|(simp;done)|(simp [*];done)),H',⟨by have:=HK1.out;omega⟩,⟨by (with_reducible repeat (first|apply zz05|apply zz04|apply zz06));exact HO_6.out⟩,⟨by (with_reducible repeat (first|refine zz07 ?_ _|refine zz09 ?_|refine zz08 ?_ _));exact BK260.out⟩,⟨by repeat (first|(with_reducible first|exact HB.out|apply zz03|apply zz01|apply zz02|refine zz10 ?_ GE260.out)|exact HB.out)⟩⟩
    ·
     rw [if_neg c7] at H
     exact absurd H (by simp)
   ·
    rw [if_neg c6] at H
    have c6b0 : decide (x7_1 < (t261.length : Int)) = false := decide_eq_false c6
    clear c6
    simp only [zz15, zz16] at H
    obtain ⟨rfl, rfl⟩ := H
    obtain ⟨Ao13, co13, eo13⟩ := Kd.R_slice HO_6.out
    subst eo13
    go_wp2
    repeat (go_quiet (fail); try go_wp2)
    go_ret2
    exact ⟨by first|rfl|(simp [errW_none,errW_some] <;> rfl)|(simp [*,errW_none,errW_some] <;> rfl),by repeat (first|(with_reducible first|exact HB.out|apply zz03|apply zz01|apply zz02|refine zz10 ?_ GE260.out)|exact HB.out)⟩

end Go.Proofs.YtflpddhoiafhcaaGreatDoor.R
end

section
-- Written by wip/hprint.py of this repo (holes typed by hand, all else by a program) over the seat YtflpddhoiafhcaaGreatDoor.
namespace Go.Proofs.YtflpddhoiafhcaaGreatDoor.R
open Go.Proofs.YtflpddhoiafhcaaGreatDoor.H
open Go.RowKit Go.Proofs.YtflpddhoiafhcaaGreatDoorW.PrintWords Go.Proofs.YtflpddhoiafhcaaGreatDoorW.PrintLast Go.Proofs.YtflpddhoiafhcaaGreatDoorW.PrintMore
attribute [local go_sem] max2_int min2_int max_two min_two max_three min_three max_four min_four   -- for this text's walks alone
set_option linter.unusedVariables false
set_option linter.unusedSimpArgs false

theorem eqA93 (d : Nat) (w : World) (x0 y0 : Int) (x1 y1 : Int) (x2 y2 : Bool) :
    (Op.equalIn (d + 2) 93 (.agg #[.int .i64 x0, .int .i64 x1, .bool x2]) (.agg #[.int .i64 y0, .int .i64 y1, .bool y2])).run Tryz.prog w = .ok (x0 == y0 && (x1 == y1 && (x2 == y2))) w := by
  refine eqA_of Tryz.underlying93 (by kernel_rfl) ?_
  refine eqf_cons (by rfl) (by go_simp; rfl) (by go_simp; rfl) (by go_simp) ?_
  refine eqf_cons (by rfl) (by go_simp; rfl) (by go_simp; rfl) (by go_simp) ?_
  exact eqf_last (by rfl) (by go_simp; rfl) (by go_simp; rfl) (by go_simp)
end Go.Proofs.YtflpddhoiafhcaaGreatDoor.R
end
