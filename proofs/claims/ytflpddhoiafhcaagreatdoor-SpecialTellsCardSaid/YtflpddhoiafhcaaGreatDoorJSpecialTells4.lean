/- Texts of the proof of 'SpecialTells', joined by a program (part 4): contracts of functions, plain laws. -/
import Derived.Test.YtflpddhoiafhcaaGreatDoorJSpecialTells0
import Derived.Test.YtflpddhoiafhcaaGreatDoorJSpecialTells2
import Derived.Test.YtflpddhoiafhcaaGreatDoorJSpecialTells3
set_option linter.unusedVariables false
set_option linter.unusedSimpArgs false
section
-- Written by wip/hprint.py of this repo (holes typed by hand, all else by a program) over the seat YtflpddhoiafhcaaGreatDoor.
namespace Go.Proofs.YtflpddhoiafhcaaGreatDoor.S
open Go.Proofs.YtflpddhoiafhcaaGreatDoor.H
open Go.RowKit Go.Proofs.YtflpddhoiafhcaaGreatDoorW.PrintWords Go.Proofs.YtflpddhoiafhcaaGreatDoorW.PrintLast Go.Proofs.YtflpddhoiafhcaaGreatDoorW.PrintMore
attribute [local go_sem] max2_int min2_int max_two min_two max_three min_three max_four min_four   -- for this text's walks alone
set_option linter.unusedVariables false
set_option linter.unusedSimpArgs false

def heb_ToDay.f (k : Nat) (a0_0 : Int) (a0_1 : Int) (a0_2 : Bool) (a0_3 : Int) : Option (Int × Int) := (heb_look.f k a0_0 a0_1 a0_2 a0_3).bind fun bt186 => (if bt186.2.2.2.2 = 0 then ((newyear_First.f k a0_0).bind fun bt192 => ((month_Ahead.f bt186.1 bt186.2.1 bt186.2.2.1 bt186.2.2.2.1).bind fun t194 => (some (wrap64 ((wrap64 ((wrap64 (bt192.1 + t194)) + a0_3)) - 1), bt192.2)))) else (some (0, bt186.2.2.2.2)))
theorem heb_ToDay.mono : ∀ a0 a1 a2 a3 k, LeO (heb_ToDay.f k a0 a1 a2 a3) (heb_ToDay.f (k + 1) a0 a1 a2 a3) := by
 intro a0 a1 a2 a3 k
 unfold heb_ToDay.f
 repeat' first
   | (with_reducible exact heb_look.mono _ _ _ _ _)
   | (with_reducible exact newyear_First.mono _ _)
   | (with_reducible exact LeO.refl _)
   | (with_reducible exact LeO.none _)
   | (with_reducible refine LeO.ite ?_ ?_)
   | (with_reducible refine LeO.bind ?_ (fun _ => ?_))
   | exact heb_look.mono _ _ _ _ _
   | exact newyear_First.mono _ _
   | exact LeO.none _
   | refine LeO.ite ?_ ?_
   | refine LeO.bind ?_ (fun _ => ?_)
def heb_ToDay.T5 : Bool × List (List Nat × List Nat) := (true, [([], []), ([], []), ([1], [1]), ([], []), ([3], [3]), ([2, 4], [2, 4]), ([0, 5], [0, 5]), ([], []), ([7], [7]), ([6, 8], [6, 8]), ([9], [9]), ([], []), ([10, 5, 0, 1, 2, 3, 4, 5, 6, 7, 8, 9, 10], [10]), ([11, 12, 0, 1, 2, 3, 4, 5, 6, 7, 8, 9, 10, 11, 12], [11])])
def heb_ToDay.B5 : List Nat := [0, 0, 2, 0, 8, 30, 63, 0, 128, 511, 1023, 0, 2047, 8191]
theorem heb_ToDay.tab5 : rtab .any (opsOf Tryz.f35 5) = heb_ToDay.T5 := by kernel_rfl
theorem heb_ToDay.bits5 : waitsOk heb_ToDay.T5.2 heb_ToDay.B5 = true := by kernel_rfl
set_option maxHeartbeats 8000000 in
set_option maxRecDepth 100000 in
theorem heb_ToDay.calls (k : Nat) (a0_0 : Int) (a0_1 : Int) (a0_2 : Bool) (a0_3 : Int) (r1 : Int) (r2 : Int) (w : World) (HGT : GlobT w) (h : heb_ToDay.f k a0_0 a0_1 a0_2 a0_3 = some (r1, r2)) :
  Calls Tryz.prog 35 #[.agg #[.int .i64 a0_0, .int .i64 a0_1, .bool a0_2, .int .i64 a0_3]] w fun e w' => e = .returned (.tuple #[.int .i64 r1, .int .i64 r2]) ∧ Below w.heap.size w w' := by
 have hu34 := Tryz.underlying34
 have hu95 := Tryz.underlying95
 have hu93 := Tryz.underlying93
 have HB := zz00 (Below.refl w.heap.size w)
 have H : ((heb_look.f k a0_0 a0_1 a0_2 a0_3).bind fun bt186=>(if bt186.2.2.2.2 = 0 then ((newyear_First.f k a0_0).bind fun bt192=>((month_Ahead.f bt186.1 bt186.2.1 bt186.2.2.1 bt186.2.2.2.1).bind fun t194=>(some (wrap64 ((wrap64 ((wrap64 (bt192.1 + t194)) + a0_3)) - 1),bt192.2)))) else (some (0,bt186.2.2.2.2)))) = some (r1,r2):=h
 clear h
 replace H := zz14.mp H
 obtain ⟨⟨t186, t187, t188, t189, t190⟩, A20, H⟩ := H
 replace H : (if t190 = 0 then ((newyear_First.f k a0_0).bind fun bt192=>((month_Ahead.f t186 t187 t188 t189).bind fun t194=>(some (wrap64 ((wrap64 ((wrap64 (bt192.1 + t194)) + a0_3)) - 1),bt192.2)))) else (some (0,t190))) = some (r1,r2):=H
 have A2 := zz00 A20
 clear A20
 by_cases c3 : t190 = 0
 ·
  rw [if_pos c3] at H
  have c3b0 : (t190 == 0) = true := zz29.mpr c3
  have c3b1 : (t190 != 0) = false := zz26.mpr c3
  clear c3
  replace H := zz14.mp H
  obtain ⟨⟨t192, t193⟩, A40, H⟩ := H
  replace H : ((month_Ahead.f t186 t187 t188 t189).bind fun t194 => (some (wrap64 ((wrap64 ((wrap64 (t192 + t194)) + a0_3)) - 1), t193))) = some (r1, r2) := H
  have A4 := zz00 A40
  clear A40
  replace H := zz14.mp H
  obtain ⟨t194, A50, H⟩ := H
  replace H : (some (wrap64 ((wrap64 ((wrap64 (t192 + t194)) + a0_3)) - 1), t193)) = some (r1, r2) := H
  have A5 := zz00 A50
  clear A50
  simp only [zz15, zz16] at H
  obtain ⟨rfl, rfl⟩ := H
  go_enter Tryz.func35, Tryz.ntmps35
  try go_wp2_with (first|((with_reducible refine zz24 (N:=1) rfl ?_);refine zz30 ?hg (N:=1) ?hd (cs:=#[.int .i64 a0_0,.int .i64 a0_1,.bool a0_2,.int .i64 a0_3]) (t:=34) ?hr ?_;(case hd=>rfl);(case hg=>rfl);(case hr=>first|(go_simp;done)|(go_simp;rfl));intro gb185 hg w6 hbox hb;have n0_:=zz00 (zz21 (by repeat (first|(with_reducible first|exact HB.out|apply zz03|apply zz01|apply zz02)|exact HB.out)) hb);have n1_:=zz00 (hbox);have n2_:=zz00 ((by rw [hg];exact (zz22 (by repeat (first|(with_reducible first|exact HB.out|apply zz03|apply zz01|apply zz02)|exact HB.out))) : w.heap.size ≤ gb185));have n3_:=zz00 ((by rw [hg];exact (zz22 (by repeat (first|(with_reducible first|exact HB.out|apply zz03|apply zz01|apply zz02)|exact HB.out))) : w.heap.size ≤ gb185));clear HB;have HB:=n0_;have BK185:=n1_;have GW185:=n2_;have GE185:=n3_;clear n0_ n1_ n2_ n3_;clear hb hbox hg;have hcz7_0 : w6.cell? ⟨gb185,0,none⟩ = some (.int .i64 a0_0):=(zz18 BK185.out 0).trans rfl;have hcz7_1 : w6.cell? ⟨gb185,1,none⟩ = some (.int .i64 a0_1):=(zz18 BK185.out 1).trans rfl;have hcz7_2 : w6.cell? ⟨gb185,2,none⟩ = some (.bool a0_2):=(zz18 BK185.out 2).trans rfl;have hcz7_3 : w6.cell? ⟨gb185,3,none⟩ = some (.int .i64 a0_3):=(zz18 BK185.out 3).trans rfl;have hfz7_0:=zz17 BK185.out 0;have hfz7_1:=zz17 BK185.out 1;have hfz7_2:=zz17 BK185.out 2;have hfz7_3:=zz17 BK185.out 3)|((with_reducible refine zz23 (f:=79) rfl ?_);refine zz25 (some 9) rfl rfl Tryz.func79 (by kernel_rfl) rfl #[.agg #[.int .i64 a0_0,.int .i64 a0_1,.bool a0_2,.int .i64 a0_3]] rfl (by (try simp only [List.map_toArray,List.map_cons,List.map_nil]);first|done|rfl|(simp only [List.length_drop,List.length_take];rfl)) ?_;(with_reducible refine (heb_look.calls k a0_0 a0_1 a0_2 a0_3 t186 t187 t188 t189 t190 _ ?side1 A2.out).mono ?_);(case side1=>exact GlobT.below HGT (by repeat (first|(with_reducible first|exact HB.out|apply zz03|apply zz01|apply zz02|refine zz10 ?_ GE185.out)|exact HB.out)));rintro e w8 ⟨rfl,hb⟩;refine ⟨_,rfl,?_⟩;have n0_:=zz00 (zz34 (g:=gb185) (o:=.cells #[.int .i64 a0_0,.int .i64 a0_1,.bool a0_2,.int .i64 a0_3] 34 (0,0)) (by (with_reducible repeat (first|refine zz07 ?_ _|refine zz09 ?_|refine zz08 ?_ _));exact BK185.out) hb);have n1_:=zz00 (zz21 (by repeat (first|(with_reducible first|exact HB.out|apply zz03|apply zz01|apply zz02|refine zz10 ?_ GE185.out)|exact HB.out)) hb);clear BK185;clear HB;have BK185:=n0_;have HB:=n1_;clear n0_ n1_;(try clear hb);(try clear hb2);(try clear hk);(try clear hi))|((with_reducible refine zz24 (N:=4) rfl ?_);refine zz30 ?hg (N:=4) ?hd (cs:=#[.int .i64 0,.int .i64 0,.bool false,.int .i64 0]) (t:=95) ?hr ?_;(case hd=>rfl);(case hg=>rfl);(case hr=>first|(go_simp;done)|(go_simp;rfl));intro gb191 hg w9 hbox hb;have n0_:=zz00 (zz34 (g:=gb185) (o:=.cells #[.int .i64 a0_0,.int .i64 a0_1,.bool a0_2,.int .i64 a0_3] 34 (0,0)) (by (with_reducible repeat (first|refine zz07 ?_ _|refine zz09 ?_|refine zz08 ?_ _));exact BK185.out) hb);have n1_:=zz00 (zz21 (by repeat (first|(with_reducible first|exact HB.out|apply zz03|apply zz01|apply zz02|refine zz10 ?_ GE185.out)|exact HB.out)) hb);have n2_:=zz00 (hbox);have n3_:=zz00 ((by rw [hg];exact (zz22 (by repeat (first|(with_reducible first|exact HB.out|apply zz03|apply zz01|apply zz02|refine zz10 ?_ GE185.out)|exact HB.out))) : w.heap.size ≤ gb191));have n4_:=zz00 ((by rw [hg];exact (zz22 (by repeat (first|(with_reducible first|exact HB.out|apply zz03|apply zz01|apply zz02|refine zz10 ?_ GE185.out)|exact HB.out))) : w.heap.size ≤ gb191));have n5_:=zz00 ((by rw [hg];exact Nat.ne_of_lt (blk_lt (g:=gb185) (o:=.cells #[.int .i64 a0_0,.int .i64 a0_1,.bool a0_2,.int .i64 a0_3] 34 (0,0)) (by (with_reducible repeat (first|refine zz07 ?_ _|refine zz09 ?_|refine zz08 ?_ _));exact BK185.out)) : gb185 ≠ gb191));have n6_:=zz00 ((by rw [hg];exact Nat.ne_of_gt (blk_lt (g:=gb185) (o:=.cells #[.int .i64 a0_0,.int .i64 a0_1,.bool a0_2,.int .i64 a0_3] 34 (0,0)) (by (with_reducible repeat (first|refine zz07 ?_ _|refine zz09 ?_|refine zz08 ?_ _));exact BK185.out)) : gb191 ≠ gb185));clear BK185;clear HB;have BK185:=n0_;have HB:=n1_;have BK191:=n2_;have GW191:=n3_;have GE191:=n4_;have NB185_191:=n5_;have NB191_185:=n6_;clear n0_ n1_ n2_ n3_ n4_ n5_ n6_;clear hb hbox hg;have hnb10:=NB191_185.out;have hnc10:=NB185_191.out;have hcz11_0 : w9.cell? ⟨gb191,0,none⟩ = some (.int .i64 0):=(zz18 BK191.out 0).trans rfl;have hcz11_1 : w9.cell? ⟨gb191,1,none⟩ = some (.int .i64 0):=(zz18 BK191.out 1).trans rfl;have hcz11_2 : w9.cell? ⟨gb191,2,none⟩ = some (.bool false):=(zz18 BK191.out 2).trans rfl;have hcz11_3 : w9.cell? ⟨gb191,3,none⟩ = some (.int .i64 0):=(zz18 BK191.out 3).trans rfl;have hfz11_0:=zz17 BK191.out 0;have hfz11_1:=zz17 BK191.out 1;have hfz11_2:=zz17 BK191.out 2;have hfz11_3:=zz17 BK191.out 3;have hcz12_0 : w9.cell? ⟨gb185,0,none⟩ = some (.int .i64 a0_0):=(zz18 BK185.out 0).trans rfl;have hcz12_1 : w9.cell? ⟨gb185,1,none⟩ = some (.int .i64 a0_1):=(zz18 BK185.out 1).trans rfl;have hcz12_2 : w9.cell? ⟨gb185,2,none⟩ = some (.bool a0_2):=(zz18 BK185.out 2).trans rfl;have hcz12_3 : w9.cell? ⟨gb185,3,none⟩ = some (.int .i64 a0_3):=(zz18 BK185.out 3).trans rfl;have hfz12_0:=zz17 BK185.out 0;have hfz12_1:=zz17 BK185.out 1;have hfz12_2:=zz17 BK185.out 2;have hfz12_3:=zz17 BK185.out 3)|((with_reducible refine zz23 (f:=80) rfl ?_);refine zz25 (some 18) rfl rfl Tryz.func80 (by kernel_rfl) rfl #[.int .i64 a0_0] rfl (by (try simp only [List.map_toArray,List.map_cons,List.map_nil]);first|done|rfl|(simp only [List.length_drop,List.length_take];rfl)) ?_;(with_reducible refine (newyear_First.calls k a0_0 t192 t193 _ A4.out).mono ?_);rintro e w13 ⟨rfl,hb⟩;refine ⟨_,rfl,?_⟩;have n0_:=zz00 (zz34 (g:=gb185) (o:=.cells #[.int .i64 a0_0,.int .i64 a0_1,.bool a0_2,.int .i64 a0_3] 34 (0,0)) (by (with_reducible repeat (first|refine zz07 ?_ _|refine zz09 ?_|refine zz08 ?_ _));refine zz33 ?_ NB185_191.out _;(with_reducible repeat (first|refine zz07 ?_ _|refine zz09 ?_|refine zz08 ?_ _));refine zz33 ?_ NB185_191.out _;(with_reducible repeat (first|refine zz07 ?_ _|refine zz09 ?_|refine zz08 ?_ _));refine zz33 ?_ NB185_191.out _;(with_reducible repeat (first|refine zz07 ?_ _|refine zz09 ?_|refine zz08 ?_ _));refine zz33 ?_ NB185_191.out _;(with_reducible repeat (first|refine zz07 ?_ _|refine zz09 ?_|refine zz08 ?_ _));exact BK185.out) hb);have n1_:=zz00 (zz34 (g:=gb191) (o:=.cells #[.int .i64 t186,.int .i64 t187,.bool t188,.int .i64 t189] 95 (0,0)) (by (with_reducible repeat (first|refine zz07 ?_ _|refine zz09 ?_|refine zz08 ?_ _));refine zz35 (cs:=#[.int .i64 t186,.int .i64 t187,.bool t188,.int .i64 0]) ?_ 3 _ rfl;(with_reducible repeat (first|refine zz07 ?_ _|refine zz09 ?_|refine zz08 ?_ _));refine zz35 (cs:=#[.int .i64 t186,.int .i64 t187,.bool false,.int .i64 0]) ?_ 2 _ rfl;(with_reducible repeat (first|refine zz07 ?_ _|refine zz09 ?_|refine zz08 ?_ _));refine zz35 (cs:=#[.int .i64 t186,.int .i64 0,.bool false,.int .i64 0]) ?_ 1 _ rfl;(with_reducible repeat (first|refine zz07 ?_ _|refine zz09 ?_|refine zz08 ?_ _));refine zz35 (cs:=#[.int .i64 0,.int .i64 0,.bool false,.int .i64 0]) ?_ 0 _ rfl;(with_reducible repeat (first|refine zz07 ?_ _|refine zz09 ?_|refine zz08 ?_ _));exact BK191.out) hb);have n2_:=zz00 (zz21 (by repeat (first|(with_reducible first|exact HB.out|apply zz03|apply zz01|apply zz02|refine zz10 ?_ GE185.out|refine zz10 ?_ GE191.out)|exact HB.out)) hb);clear BK185;clear BK191;clear HB;have BK185:=n0_;have BK191:=n1_;have HB:=n2_;clear n0_ n1_ n2_;(try clear hb);(try clear hb2);(try clear hk);(try clear hi)))
  have n0_ := zz00 (zz09 BK185.out)
  have n1_ := zz00 (zz09 BK191.out)
  have n2_ := zz00 (zz02 HB.out)
  clear BK185
  clear BK191
  clear HB
  have BK185 := n0_
  have BK191 := n1_
  have HB := n2_
  clear n0_ n1_ n2_
  refine start_ (n:=14) (S:=fun w'=>w'.cell? ⟨gb191,0,none⟩ = some (.int .i64 t186) ∧ w'.cell? ⟨gb191,1,none⟩ = some (.int .i64 t187) ∧ w'.cell? ⟨gb191,2,none⟩ = some (.bool t188) ∧ w'.cell? ⟨gb191,3,none⟩ = some (.int .i64 t189) ∧ w'.cell? ⟨gb185,0,none⟩ = some (.int .i64 a0_0) ∧ w'.cell? ⟨gb185,1,none⟩ = some (.int .i64 a0_1) ∧ w'.cell? ⟨gb185,2,none⟩ = some (.bool a0_2) ∧ w'.cell? ⟨gb185,3,none⟩ = some (.int .i64 a0_3)) (ds:=[]) #[false,false,false,false,false,false,false,false,false,false,false,false,false,false] (by kernel_rfl) rfl rfl ⟨(zz18 BK191.out 0).trans rfl,(zz18 BK191.out 1).trans rfl,(zz18 BK191.out 2).trans rfl,(zz18 BK191.out 3).trans rfl,(zz18 BK185.out 0).trans rfl,(zz18 BK185.out 1).trans rfl,(zz18 BK185.out 2).trans rfl,(zz18 BK185.out 3).trans rfl⟩ (fun hHeld=>?_);refine with_tabW heb_ToDay.tab5 heb_ToDay.bits5 (fun HT_ HW_=>?_)
  generalize w13.drew = w14 at BK185 BK191 HB hHeld ⊢
  refine pure_ (i:=0) (N:=some 21) (v:=?_) (a':=?_) #[true,false,false,false,false,false,false,false,false,false,false,false,false,false] rfl rfl (any_of HT_.out (by kernel_rfl)) (fun _ _ _ h=>h) (Or.inl ⟨by rfl,?_⟩) ?_ ?_
  rotate_left
  ·
   intro w'
   go_simp
   with_reducible rfl
  rotate_left
  ·
   simp only [Act.put, zz11, zz12, zz13, i64_w, i32_w]
   rfl
  refine pure_ (i:=1) (N:=some 22) (v:=?_) (a':=?_) #[true,true,false,false,false,false,false,false,false,false,false,false,false,false] rfl rfl (any_of HT_.out (by kernel_rfl)) (fun _ _ _ h=>h) (Or.inl ⟨by rfl,?_⟩) ?_ ?_
  rotate_left
  ·
   intro w'
   go_simp
   with_reducible rfl
  rotate_left
  ·
   simp only [Act.put, zz11, zz12, zz13, i64_w, i32_w]
   rfl
  refine pure_ (i:=3) (N:=some 24) (v:=?_) (a':=?_) #[true,true,false,true,false,false,false,false,false,false,false,false,false,false] rfl rfl (any_of HT_.out (by kernel_rfl)) (fun _ _ _ h=>h) (Or.inl ⟨by rfl,?_⟩) ?_ ?_
  rotate_left
  ·
   intro w'
   go_simp
   with_reducible rfl
  rotate_left
  ·
   simp only [Act.put, zz11, zz12, zz13, i64_w, i32_w]
   rfl
  refine pure_ (i:=7) (N:=some 28) (v:=?_) (a':=?_) #[true,true,false,true,false,false,false,true,false,false,false,false,false,false] rfl rfl (any_of HT_.out (by kernel_rfl)) (fun _ _ _ h=>h) (Or.inl ⟨by rfl,?_⟩) ?_ ?_
  rotate_left
  ·
   intro w'
   go_simp
   with_reducible rfl
  rotate_left
  ·
   simp only [Act.put, zz11, zz12, zz13, i64_w, i32_w]
   rfl
  refine pure_ (i:=11) (N:=some 32) (v:=?_) (a':=?_) #[true,true,false,true,false,false,false,true,false,false,false,true,false,false] rfl rfl (any_of HT_.out (by kernel_rfl)) (fun _ _ _ h=>h) (Or.inl ⟨by rfl,?_⟩) ?_ ?_
  rotate_left
  ·
   intro w'
   go_simp
   with_reducible rfl
  rotate_left
  ·
   simp only [Act.put, zz11, zz12, zz13, i64_w, i32_w]
   rfl
  refine take_ (i:=2) (N:=some 23) (v:=?_) (a':=?_) #[true,true,true,true,false,false,false,true,false,false,false,true,false,false] rfl rfl (take_ofW HT_.out HW_.out (by kernel_rfl)) (fun _ _ _ h=>h) (Or.inl ⟨by rfl,?_⟩) hHeld ?_ ?_
  rotate_left
  ·
   rintro w' ⟨s0, s1, s2, s3, s4, s5, s6, s7⟩
   go_simp
   with_reducible rfl
  rotate_left
  ·
   simp only [Act.put, zz11, zz12, zz13, i64_w, i32_w]
   rfl
  refine take_ (i:=4) (N:=some 25) (v:=?_) (a':=?_) #[true,true,true,true,true,false,false,true,false,false,false,true,false,false] rfl rfl (take_ofW HT_.out HW_.out (by kernel_rfl)) (fun _ _ _ h=>h) (Or.inl ⟨by rfl,?_⟩) hHeld ?_ ?_
  rotate_left
  ·
   rintro w' ⟨s0, s1, s2, s3, s4, s5, s6, s7⟩
   go_simp
   with_reducible rfl
  rotate_left
  ·
   simp only [Act.put, zz11, zz12, zz13, i64_w, i32_w]
   rfl
  refine take_ (i:=8) (N:=some 29) (v:=?_) (a':=?_) #[true,true,true,true,true,false,false,true,true,false,false,true,false,false] rfl rfl (take_ofW HT_.out HW_.out (by kernel_rfl)) (fun _ _ _ h=>h) (Or.inl ⟨by rfl,?_⟩) hHeld ?_ ?_
  rotate_left
  ·
   rintro w' ⟨s0, s1, s2, s3, s4, s5, s6, s7⟩
   go_simp
   with_reducible rfl
  rotate_left
  ·
   simp only [Act.put, zz11, zz12, zz13, i64_w, i32_w]
   rfl
  refine one_ (i := 5) (N := some 26) #[true, true, true, true, true, true, false, true, true, false, false, true, false, false] rfl rfl (one_of HT_.out (by kernel_rfl)) (by decide) (fun K hK => ?_)
  refine goes_ Tryz.func81 (by kernel_rfl) rfl #[.agg #[.int .i64 t186,.int .i64 t187,.bool t188],.int .i64 t189] (by rfl) rfl rfl (by (try simp only [List.map_toArray,List.map_cons,List.map_nil]);first|done|rfl|(simp only [List.length_drop,List.length_take];rfl)) ?_
  with_reducible refine (month_Ahead.calls t186 t187 t188 t189 t194 _ ?side1 A5.out).mono ?_
  (case side1=>exact GlobT.below HGT (by repeat (first|(with_reducible first|exact HB.out|apply zz03|apply zz01|apply zz02|refine zz10 ?_ GE185.out|refine zz10 ?_ GE191.out)|exact HB.out)))
  rintro e w15 ⟨rfl, hb⟩
  refine ⟨_, rfl, ?_⟩
  have n0_:=zz00 (zz34 (g:=gb185) (o:=.cells #[.int .i64 a0_0,.int .i64 a0_1,.bool a0_2,.int .i64 a0_3] 34 (0,0)) (by (with_reducible repeat (first|refine zz07 ?_ _|refine zz09 ?_|refine zz08 ?_ _));exact BK185.out) hb)
  have n1_:=zz00 (zz34 (g:=gb191) (o:=.cells #[.int .i64 t186,.int .i64 t187,.bool t188,.int .i64 t189] 95 (0,0)) (by (with_reducible repeat (first|refine zz07 ?_ _|refine zz09 ?_|refine zz08 ?_ _));exact BK191.out) hb)
  have n2_:=zz00 (zz21 (by repeat (first|(with_reducible first|exact HB.out|apply zz03|apply zz01|apply zz02|refine zz10 ?_ GE185.out|refine zz10 ?_ GE191.out)|exact HB.out)) hb)
  clear BK185
  clear BK191
  clear HB
  have BK185 := n0_
  have BK191 := n1_
  have HB := n2_
  clear n0_ n1_ n2_
  (try clear hb)
  (try clear hb2)
  (try clear hk)
  (try clear hi)
  refine hK.out _ _ ⟨(zz18 BK191.out 0).trans rfl,(zz18 BK191.out 1).trans rfl,(zz18 BK191.out 2).trans rfl,(zz18 BK191.out 3).trans rfl,(zz18 BK185.out 0).trans rfl,(zz18 BK185.out 1).trans rfl,(zz18 BK185.out 2).trans rfl,(zz18 BK185.out 3).trans rfl⟩ (fun hHeld=>?_)
  clear hK K
  refine norm_ (a' := ?_) ?_ ?_
  rotate_left
  ·
   show Act.put _ (some 26) _ = _
   simp only [Act.put, zz11, zz12, zz13, i64_w, i32_w]
   rfl
  refine pure_ (i:=6) (N:=some 27) (v:=?_) (a':=?_) #[true,true,true,true,true,true,true,true,true,false,false,true,false,false] rfl rfl (any_of HT_.out (by kernel_rfl)) (fun _ _ _ h=>h) (Or.inl ⟨by rfl,?_⟩) ?_ ?_
  rotate_left
  ·
   intro w'
   go_simp
   with_reducible rfl
  rotate_left
  ·
   simp only [Act.put, zz11, zz12, zz13, i64_w, i32_w]
   rfl
  refine pure_ (i:=9) (N:=some 30) (v:=?_) (a':=?_) #[true,true,true,true,true,true,true,true,true,true,false,true,false,false] rfl rfl (any_of HT_.out (by kernel_rfl)) (fun _ _ _ h=>h) (Or.inl ⟨by rfl,?_⟩) ?_ ?_
  rotate_left
  ·
   intro w'
   go_simp
   with_reducible rfl
  rotate_left
  ·
   simp only [Act.put, zz11, zz12, zz13, i64_w, i32_w]
   rfl
  refine pure_ (i:=10) (N:=some 31) (v:=?_) (a':=?_) #[true,true,true,true,true,true,true,true,true,true,true,true,false,false] rfl rfl (any_of HT_.out (by kernel_rfl)) (fun _ _ _ h=>h) (Or.inl ⟨by rfl,?_⟩) ?_ ?_
  rotate_left
  ·
   intro w'
   go_simp
   with_reducible rfl
  rotate_left
  ·
   simp only [Act.put, zz11, zz12, zz13, i64_w, i32_w]
   rfl
  refine pure_ (i:=12) (N:=some 2) (v:=?_) (a':=?_) #[true,true,true,true,true,true,true,true,true,true,true,true,true,false] rfl rfl (any_of HT_.out (by kernel_rfl)) (fun _ _ _ h=>h) (Or.inl ⟨by rfl,?_⟩) ?_ ?_
  rotate_left
  ·
   intro w'
   go_simp
   with_reducible rfl
  rotate_left
  ·
   simp only [Act.put, zz11, zz12, zz13, i64_w, i32_w]
   rfl
  refine pure_ (i:=13) (N:=some 3) (v:=?_) (a':=?_) #[true,true,true,true,true,true,true,true,true,true,true,true,true,true] rfl rfl (any_of HT_.out (by kernel_rfl)) (fun _ _ _ h=>h) (Or.inl ⟨by rfl,?_⟩) ?_ ?_
  rotate_left
  ·
   intro w'
   go_simp
   with_reducible rfl
  rotate_left
  ·
   simp only [Act.put, zz11, zz12, zz13, i64_w, i32_w]
   rfl
  refine done_ (done_of HT_.out (by kernel_rfl)) ?_
  try go_wp2
  go_ret2
  exact ⟨by first|rfl|(simp [errW_none,errW_some] <;> rfl)|(simp [*,errW_none,errW_some] <;> rfl),by repeat (first|(with_reducible first|exact HB.out|apply zz03|apply zz01|apply zz02|refine zz10 ?_ GE185.out|refine zz10 ?_ GE191.out)|exact HB.out)⟩
 ·
  rw [if_neg c3] at H
  have c3b0 : (t190 == 0) = false := zz27.mpr c3
  have c3b1 : (t190 != 0) = true := zz28.mpr c3
  simp only [zz15, zz16] at H
  obtain ⟨rfl, rfl⟩ := H
  go_enter Tryz.func35, Tryz.ntmps35
  go_wp2_with (first|((with_reducible refine zz24 (N:=1) rfl ?_);refine zz30 ?hg (N:=1) ?hd (cs:=#[.int .i64 a0_0,.int .i64 a0_1,.bool a0_2,.int .i64 a0_3]) (t:=34) ?hr ?_;(case hd=>rfl);(case hg=>rfl);(case hr=>first|(go_simp;done)|(go_simp;rfl));intro gb185 hg w16 hbox hb;have n0_:=zz00 (zz21 (by repeat (first|(with_reducible first|exact HB.out|apply zz03|apply zz01|apply zz02)|exact HB.out)) hb);have n1_:=zz00 (hbox);have n2_:=zz00 ((by rw [hg];exact (zz22 (by repeat (first|(with_reducible first|exact HB.out|apply zz03|apply zz01|apply zz02)|exact HB.out))) : w.heap.size ≤ gb185));have n3_:=zz00 ((by rw [hg];exact (zz22 (by repeat (first|(with_reducible first|exact HB.out|apply zz03|apply zz01|apply zz02)|exact HB.out))) : w.heap.size ≤ gb185));clear HB;have HB:=n0_;have BK185:=n1_;have GW185:=n2_;have GE185:=n3_;clear n0_ n1_ n2_ n3_;clear hb hbox hg;have hcz17_0 : w16.cell? ⟨gb185,0,none⟩ = some (.int .i64 a0_0):=(zz18 BK185.out 0).trans rfl;have hcz17_1 : w16.cell? ⟨gb185,1,none⟩ = some (.int .i64 a0_1):=(zz18 BK185.out 1).trans rfl;have hcz17_2 : w16.cell? ⟨gb185,2,none⟩ = some (.bool a0_2):=(zz18 BK185.out 2).trans rfl;have hcz17_3 : w16.cell? ⟨gb185,3,none⟩ = some (.int .i64 a0_3):=(zz18 BK185.out 3).trans rfl;have hfz17_0:=zz17 BK185.out 0;have hfz17_1:=zz17 BK185.out 1;have hfz17_2:=zz17 BK185.out 2;have hfz17_3:=zz17 BK185.out 3)|((with_reducible refine zz23 (f:=79) rfl ?_);refine zz25 (some 9) rfl rfl Tryz.func79 (by kernel_rfl) rfl #[.agg #[.int .i64 a0_0,.int .i64 a0_1,.bool a0_2,.int .i64 a0_3]] rfl (by (try simp only [List.map_toArray,List.map_cons,List.map_nil]);first|done|rfl|(simp only [List.length_drop,List.length_take];rfl)) ?_;(with_reducible refine (heb_look.calls k a0_0 a0_1 a0_2 a0_3 t186 t187 t188 t189 t190 _ ?side1 A2.out).mono ?_);(case side1=>exact GlobT.below HGT (by repeat (first|(with_reducible first|exact HB.out|apply zz03|apply zz01|apply zz02|refine zz10 ?_ GE185.out)|exact HB.out)));rintro e w18 ⟨rfl,hb⟩;refine ⟨_,rfl,?_⟩;have n0_:=zz00 (zz34 (g:=gb185) (o:=.cells #[.int .i64 a0_0,.int .i64 a0_1,.bool a0_2,.int .i64 a0_3] 34 (0,0)) (by (with_reducible repeat (first|refine zz07 ?_ _|refine zz09 ?_|refine zz08 ?_ _));exact BK185.out) hb);have n1_:=zz00 (zz21 (by repeat (first|(with_reducible first|exact HB.out|apply zz03|apply zz01|apply zz02|refine zz10 ?_ GE185.out)|exact HB.out)) hb);clear BK185;clear HB;have BK185:=n0_;have HB:=n1_;clear n0_ n1_;(try clear hb);(try clear hb2);(try clear hk);(try clear hi))|((with_reducible refine zz24 (N:=4) rfl ?_);refine zz30 ?hg (N:=4) ?hd (cs:=#[.int .i64 0,.int .i64 0,.bool false,.int .i64 0]) (t:=95) ?hr ?_;(case hd=>rfl);(case hg=>rfl);(case hr=>first|(go_simp;done)|(go_simp;rfl));intro gb191 hg w19 hbox hb;have n0_:=zz00 (zz34 (g:=gb185) (o:=.cells #[.int .i64 a0_0,.int .i64 a0_1,.bool a0_2,.int .i64 a0_3] 34 (0,0)) (by (with_reducible repeat (first|refine zz07 ?_ _|refine zz09 ?_|refine zz08 ?_ _));exact BK185.out) hb);have n1_:=zz00 (zz21 (by repeat (first|(with_reducible first|exact HB.out|apply zz03|apply zz01|apply zz02|refine zz10 ?_ GE185.out)|exact HB.out)) hb);have n2_:=zz00 (hbox);have n3_:=zz00 ((by rw [hg];exact (zz22 (by repeat (first|(with_reducible first|exact HB.out|apply zz03|apply zz01|apply zz02|refine zz10 ?_ GE185.out)|exact HB.out))) : w.heap.size ≤ gb191));have n4_:=zz00 ((by rw [hg];exact (zz22 (by repeat (first|(with_reducible first|exact HB.out|apply zz03|apply zz01|apply zz02|refine zz10 ?_ GE185.out)|exact HB.out))) : w.heap.size ≤ gb191));have n5_:=zz00 ((by rw [hg];exact Nat.ne_of_lt (blk_lt (g:=gb185) (o:=.cells #[.int .i64 a0_0,.int .i64 a0_1,.bool a0_2,.int .i64 a0_3] 34 (0,0)) (by (with_reducible repeat (first|refine zz07 ?_ _|refine zz09 ?_|refine zz08 ?_ _));exact BK185.out)) : gb185 ≠ gb191));have n6_:=zz00 ((by rw [hg];exact Nat.ne_of_gt (blk_lt (g:=gb185) (o:=.cells #[.int .i64 a0_0,.int .i64 a0_1,.bool a0_2,.int .i64 a0_3] 34 (0,0)) (by (with_reducible repeat (first|refine zz07 ?_ _|refine zz09 ?_|refine zz08 ?_ _));exact BK185.out)) : gb191 ≠ gb185));clear BK185;clear HB;have BK185:=n0_;have HB:=n1_;have BK191:=n2_;have GW191:=n3_;have GE191:=n4_;have NB185_191:=n5_;have NB191_185:=n6_;clear n0_ n1_ n2_ n3_ n4_ n5_ n6_;clear hb hbox hg;have hnb20:=NB191_185.out;have hnc20:=NB185_191.out;have hcz21_0 : w19.cell? ⟨gb191,0,none⟩ = some (.int .i64 0):=(zz18 BK191.out 0).trans rfl;have hcz21_1 : w19.cell? ⟨gb191,1,none⟩ = some (.int .i64 0):=(zz18 BK191.out 1).trans rfl;have hcz21_2 : w19.cell? ⟨gb191,2,none⟩ = some (.bool false):=(zz18 BK191.out 2).trans rfl;have hcz21_3 : w19.cell? ⟨gb191,3,none⟩ = some (.int .i64 0):=(zz18 BK191.out 3).trans rfl;have hfz21_0:=zz17 BK191.out 0;have hfz21_1:=zz17 BK191.out 1;have hfz21_2:=zz17 BK191.out 2;have hfz21_3:=zz17 BK191.out 3))
  go_ret2
  exact ⟨by first|rfl|(simp [errW_none,errW_some] <;> rfl)|(simp [*,errW_none,errW_some] <;> rfl),by repeat (first|(with_reducible first|exact HB.out|apply zz03|apply zz01|apply zz02|refine zz10 ?_ GE185.out|refine zz10 ?_ GE191.out)|exact HB.out)⟩

def toP (x : S57) : Int × Int := (x.f0, x.f1)
def ofP (x : Int × Int) : S57 := ⟨x.1, x.2⟩
def feast_Sort.f (l0 : List S57) : Option (List S57) := if l0.length ≤ 8796093022208 then some ((Cal.sortE (l0.map toP)).map ofP) else none
set_option maxHeartbeats 2000000 in
set_option maxRecDepth 100000 in
theorem clone_any (ad : Addr) (n c : Nat) (news : List Value) (w : World) (hl : news.length = n * 2) (hn : n ≤ maxLen) (hbig : n * 16 ≤ 140737488355328)
    (hc : ∀ j u, news[j]? = some u → w.cell? (ad.add j) = some u) (h1 : ∀ u ∈ news, u.oneCell' = true) :
    Calls Tryz.prog 82 #[.slice (some ad) n c] w fun e w' => ∃ v', e = .returned v' ∧ w'.ownsRow w.heap.size 57 2 v' n news ∧ v' ≠ .slice none 0 0 ∧ Below w.heap.size w w' := by
  have hinfo : (Tryz.prog.info? 57).map (fun i => (i.zero, i.size, i.bytes)) = some (some (.agg #[.int .i64 0, .int .i64 0]), 2, 16) := by kernel_rfl
  obtain ⟨i0, hi⟩ : ∃ i0, Tryz.prog.info? 57 = some i0 := by
    cases h : Tryz.prog.info? 57 with
    | none => rw [h] at hinfo; cases hinfo
    | some i0 => exact ⟨i0, rfl⟩
  rw [hi] at hinfo
  simp only [Option.map_some, Option.some.injEq, Prod.mk.injEq] at hinfo
  obtain ⟨hz0, hz1, hz2⟩ := hinfo
  have A : Aside (∀ j u, news[j]? = some u → w.cell? (ad.add j) = some u) := hc
  clear hc
  have q38 : ∀ (w : World) (a : Option Addr) (n c n' c' : Nat), (binOp .eql 22 (.slice a n c) (.slice none n' c')).run Tryz.prog w = .ok (.bool a.isNone) w := fun w a n c n' c' => Lib.run_eql_slice_nil w _ _ a n c n' c' Tryz.underlying22
  go_enter Tryz.func82, Tryz.ntmps82
  go_wp2_with (at_builtin; refine wpList_append_own _ rfl _ _ 22 rfl w.heap.size 57 i0 (.agg #[.int .i64 0, .int .i64 0]) 2 16 Tryz.underlying22 hi hz0 hz1 hz2 rfl (by decide) _ _ _ rfl (World.ownsRow_made w #[] 0 (Nat.le_refl _) (Nat.zero_le _) (by simp)) ad n c news rfl ?qc1 ?qc2 ?qc3 ?qc4 ?qc5 ?qc6 ?_)
  case qc1 => exact hl
  case qc2 =>
    intro j u hj
    exact Lib.cell?_alloc_some _ (A.out j u hj)
  case qc3 => exact h1
  case qc4 => rw [Nat.zero_add]; exact hn
  case qc5 => rw [Nat.zero_add]; exact hbig
  case qc6 => simp
  intro v' w1 hown hgrow hnil
  go_wp2
  go_ret
  refine ⟨v', rfl, by simpa using hown, hnil, ?_⟩
  exact ((Below.refl _ w).alloc (Nat.le_refl _) _).grown hgrow (by simp) (by intro k hk; simp [Value.ownBlock] at hk; omega)
theorem ltOf_ev (x y : Int × Int) : Go.Proofs.ltOf cmpEv x y = Cal.ltE x y := by
  obtain ⟨a, b⟩ := x
  obtain ⟨c, d⟩ := y
  unfold Go.Proofs.ltOf cmpEv or2 cmpI Go.Lib.compareInt Cal.ltE
  simp only
  repeat' split
  all_goals (apply decide_eq_decide.2; omega)
theorem ev_swo : Go.Sort.SWO (Go.Proofs.ltOf cmpEv) := by
  refine ⟨fun x => ?_, fun x y z h1 h2 => ?_, fun x y z h1 h2 => ?_⟩ <;> simp only [ltOf_ev, Cal.ltE, decide_eq_true_eq, decide_eq_false_iff_not] at * <;> omega
theorem flat_get (l : List (Int × Int)) (t : Nat) (h : t < l.length * 2) : (l.flatMap encE)[t]? = (encE l.toArray[t / 2]!)[t % 2]? := by
  induction l generalizing t with
  | nil => simp at h
  | cons x r ih =>
    rw [List.flatMap_cons]
    by_cases h2 : t < 2
    · rw [List.getElem?_append_left (by simpa [encE] using h2)]
      rcases (by omega : t = 0 ∨ t = 1) with rfl | rfl <;> rfl
    · rw [List.getElem?_append_right (by simp [encE]; omega)]
      have e : (encE x).length = 2 := rfl
      rw [e, ih (t - 2) (by simp at h; omega)]
      have e1 : t / 2 = (t - 2) / 2 + 1 := by omega
      have e2 : t % 2 = (t - 2) % 2 := by omega
      rw [e1, e2]
      simp
theorem flat_eq (l : List (Int × Int)) : Go.Sort.flatK encE 2 l.toArray = (l.flatMap encE).toArray := by
  have hlen : (l.flatMap encE).length = l.length * 2 := by
    induction l with
    | nil => rfl
    | cons x r ih => rw [List.flatMap_cons, List.length_append, ih]; simp [encE]; omega
  apply Array.ext
  · simp [hlen]
  · intro i h1 h2
    have h3 : i < l.length * 2 := by simpa using h1
    have g1 := Go.Sort.get_flatK encE 2 l.toArray i (by simpa using h3)
    have g2 := flat_get l i h3
    rw [getElem!_pos _ i h1] at g1
    rw [g1]
    have h4 : i < (l.flatMap encE).length := by omega
    rw [List.getElem?_eq_getElem h4] at g2
    have h5 : i % 2 < (encE l.toArray[i / 2]!).length := by simp [encE]; omega
    rw [List.getElem?_eq_getElem h5] at g2
    rw [getElem!_pos _ (i % 2) h5]
    simpa using (Option.some.inj g2).symm
theorem heap_sortedE {w : World} {g n : Nat} {os : Array Obj} {cur : Array Value} {e : TypeId} {fr : Nat × Nat} (d : Array Value) (hb : w.heap[g]? = some (.cells cur e fr)) :
    (Go.Sort.grow (Go.Sort.putRow id (Go.Sort.ahead w n) g 0 d) os).heap[g]? = some (.cells (Go.Sort.putCells id 0 d cur) e fr) := by
  have hg : g < w.heap.size := (Array.getElem?_eq_some_iff.1 hb).1
  rw [Go.Sort.heap_grow_old _ _ (by simpa using hg)]
  simp [Go.Sort.putRow, Go.Sort.mapBlock, Go.Sort.ahead, Array.getElem?_modify, hb, Go.Sort.onCells]
theorem grownBy_sortedE {w : World} {g n : Nat} {os : Array Obj} (d : Array Value) : w.grownBy (Go.Sort.grow (Go.Sort.putRow id (Go.Sort.ahead w n) g 0 d) os) (some g) := by
  refine ⟨rfl, rfl, rfl, by simp, fun k hk hne => ?_⟩
  rw [Go.Sort.heap_grow_old _ _ (by simpa using hk)]
  have : g ≠ k := fun e => hne (by rw [e])
  simp [Go.Sort.putRow, Go.Sort.mapBlock, Go.Sort.ahead, Array.getElem?_modify, this]
theorem take_putCellsE (cur : Array Value) (ts : List Value) (h : ts.length ≤ cur.size) : (Go.Sort.putCells id 0 ts.toArray cur).toList.take ts.length = ts := by
  apply List.ext_getElem?
  intro j
  by_cases hj : j < ts.length
  · rw [List.getElem?_take_of_lt hj, Array.getElem?_toList]
    simp [Go.Sort.putCells, hj, show j < cur.size by omega]
  · rw [List.getElem?_take_eq_none (by omega), List.getElem?_eq_none (by omega)]
theorem flat_len (l : List (Int × Int)) : (l.flatMap encE).length = l.length * 2 := by
  induction l with
  | nil => rfl
  | cons x r ih => rw [List.flatMap_cons, List.length_append, ih]; simp [encE]; omega
set_option maxHeartbeats 2000000 in
theorem sort_own (g cap : Nat) (l : List (Int × Int)) (cur : Array Value) (W : World) (B : Nat) (hB : B ≤ g) (hb : W.heap[g]? = some (.cells cur 57 (0, 0))) (h1 : l.length ≤ cap) (h2 : cap ≤ maxLen) (h3 : cur.size = cap * 2)
    (ht : cur.toList.take (l.length * 2) = l.flatMap encE) (hsz : l.length < 4611686018427387904) :
    Calls Tryz.prog 83 #[.slice (some ⟨g, 0, none⟩) l.length cap, .func (.func 84) #[] #[]] W
      fun e w' => e = .returned (.tuple #[]) ∧ w'.ownsRow B 57 2 (.slice (some ⟨g, 0, none⟩) l.length cap) l.length ((Cal.sortE l).flatMap encE) ∧ Below B W w' := by
  have hg : g < W.heap.size := (Array.getElem?_eq_some_iff.1 hb).1
  have hH : Go.Sort.HoldsK encE 2 W g 0 l.toArray := by
    unfold Go.Sort.HoldsK
    rw [flat_eq]
    intro j hj
    have hj' : j < (l.flatMap encE).length := by simpa using hj
    have hj2 := flat_len l
    refine ⟨?_, by simp [World.frozen?, hb]⟩
    have e1 : (cur.toList.take (l.length * 2))[j]? = (l.flatMap encE)[j]? := by rw [ht]
    rw [List.getElem?_take_of_lt (by omega)] at e1
    rw [blk_cell hb, Nat.zero_add, ← Array.getElem?_toList, e1, List.getElem?_eq_getElem hj']
    rw [getElem!_pos _ j hj]
    simp
  have hcmp : Go.Proofs.CmpLays Tryz.prog 84 #[] encE 2 cmpEv g 0 l.toArray.size W := fun m os dk hs x y => by
    simpa using ev_closure x y _
  have h := AnyQ.slices_SortFunc Tryz.sortEv 2 Tryz.isAgg57 Tryz.sizeOf57 encE (fun _ => rfl) (fun x v hv => by simp [encE] at hv; rcases hv with rfl | rfl <;> rfl) cmpEv ev_swo 84 #[] g 0 cap l.toArray W
    (enters_of Tryz.func84 (by kernel_rfl) rfl) hcmp hH hg (by simpa using hsz)
  refine (show Calls Tryz.prog 83 #[.slice (some ⟨g, 0, none⟩) l.length cap, .func (.func 84) #[] #[]] W _ from h).mono ?_
  rintro e w' ⟨he, d', n, os, hp, hs, rfl⟩
  have hsz' : d'.size = l.length := by simpa using hp.1
  have hperm : d'.toList.Perm l := by
    have := hp.2.2
    simpa [Array.extract_eq_self_of_le, hsz'] using this
  have hord : Cal.InOrder d'.toList := by
    rw [Cal.InOrder, List.pairwise_iff_getElem]
    intro i j hi hj hij
    have h5 := hs i j (Nat.zero_le _) hij (by simpa [hsz'] using hj)
    have hi' : i < d'.size := by simpa using hi
    have hj' : j < d'.size := by simpa using hj
    rw [getElem!_pos d' i hi', getElem!_pos d' j hj', ltOf_ev] at h5
    simpa using h5
  have hd' : d' = (Cal.sortE l).toArray := by
    rw [← Cal.sortE_of hord hperm]
  subst hd'
  refine ⟨he, ⟨?_, .inr ⟨g, cap, Go.Sort.putCells id 0 (Go.Sort.flatK encE 2 (Cal.sortE l).toArray) cur, rfl, hB, ?_, h1, h2, ?_, ?_⟩⟩, ?_⟩
  · rw [flat_len, Cal.sortE_length]
  · exact heap_sortedE _ hb
  · simp [Go.Sort.putCells, h3]
  · have e2 : l.length * 2 = ((Cal.sortE l).flatMap encE).length := by rw [flat_len, Cal.sortE_length]
    rw [e2, flat_eq]
    exact take_putCellsE cur _ (by rw [flat_len, Cal.sortE_length]; omega)
  · exact (Below.refl B W).grown (grownBy_sortedE _) (by omega) (by intro k hk; simp at hk; omega)
theorem reps_flat : ∀ (ps : List S57) (inner : List Value), inner.length = ps.length * 2 → (∀ j p, ps[j]? = some p → (inner.drop (j * 2)).take 2 = encE (toP p)) → inner = (ps.map toP).flatMap encE
  | [], inner, hl, _ => by simpa using hl
  | p :: r, inner, hl, h => by
    have h0 := h 0 p rfl
    have hr := reps_flat r (inner.drop 2) (by rw [List.length_drop, hl]; simp; omega) (fun j q hq => by
      have := h (j + 1) q (by simpa using hq)
      rw [List.drop_drop, show 2 + j * 2 = (j + 1) * 2 by omega]
      exact this)
    rw [List.map_cons, List.flatMap_cons, ← hr, ← h0]
    simp
theorem flat_chunk : ∀ (ps : List S57) (j : Nat) (p : S57), ps[j]? = some p → ((((ps.map toP).flatMap encE).drop (j * 2)).take 2) = encE (toP p)
  | [], j, p, h => by simp at h
  | q :: r, 0, p, h => by
    obtain rfl : q = p := by simpa using h
    rfl
  | q :: r, j + 1, p, h => by
    rw [List.map_cons, List.flatMap_cons, show (j + 1) * 2 = 2 + j * 2 by omega, ← List.drop_drop]
    exact flat_chunk r j p (by simpa using h)
theorem toP_ofP (l : List (Int × Int)) : (l.map ofP).map toP = l := by
  rw [List.map_map]
  exact List.map_id'' (fun _ => rfl) l
theorem own_row_of {W : World} {base : Nat} {v : Value} (l : List (Int × Int)) (h : W.ownsRow base 57 2 v l.length (l.flatMap encE)) : Kd.R k57 57 W base (fun _ => True) v (l.map ofP) := by
  refine ⟨fun _ _ => trivial, l.flatMap encE, ?_, ?_, ?_⟩
  · rw [List.length_map]; exact h
  · rw [flat_len, List.length_map]; rfl
  · intro j p hj
    have := flat_chunk (l.map ofP) j p hj
    rw [toP_ofP] at this
    show k57.M _ _ _ p (((l.flatMap encE).drop (j * 2)).take 2)
    rw [this]
    exact k57_mkM _ _ _ p
/-- The sort's inner functions at no element. -/
theorem ins_nil (fv : Value) (w : World) : Calls Tryz.prog 186 #[.slice none 0 0, .int .i64 0, .int .i64 0, fv] w fun e w' => e = .returned (.tuple #[]) ∧ w = w' := by
  go_enter Tryz.func186, Tryz.ntmps186
  go_wp2_with fail
  refine wp_loop_rounds 1 ?_
  rw [rounds_succ]
  go_wp2_with fail
  go_end0
  exact ⟨rfl, rfl⟩
theorem pdq_nil (m : Int) (fv : Value) (w : World) : Calls Tryz.prog 135 #[.slice none 0 0, .int .i64 0, .int .i64 0, .int .i64 m, fv] w fun e w' => e = .returned (.tuple #[]) ∧ w = w' := by
  have HI := Aside0.mk (ins_nil fv w)
  go_enter Tryz.func135, Tryz.ntmps135
  go_wp2_with fail
  refine wp_loop_rounds 1 ?_
  rw [rounds_succ]
  go_wp2_with fail
  refine HI.out.mono ?_
  rintro e w' ⟨rfl, rfl⟩
  go_wp2_with fail
  refine bodyPost_ret (results_none rfl _ _ _) rfl ?_
  exact ⟨rfl, rfl⟩
theorem sort_nil (fv : Value) (w : World) : Calls Tryz.prog 83 #[.slice none 0 0, fv] w fun e w' => e = .returned (.tuple #[]) ∧ w = w' := by
  go_enter Tryz.func83, Tryz.ntmps83
  go_wp2_with fail
  refine (Tryz.bits_Len 0 w (by decide) (by decide)).mono ?_
  rintro e w' ⟨rfl, rfl⟩
  go_wp2_with fail
  refine (pdq_nil _ fv _).mono ?_
  rintro e w' ⟨rfl, rfl⟩
  go_wp2_with fail
  go_end0
  exact ⟨rfl, rfl⟩
set_option maxHeartbeats 4000000 in
theorem feast_Sort.calls (A0 : Option Addr) (c0 : Nat) (l0 : List (S57)) (r : List (S57)) (w : World) (hr0 : Kd.C k57 w A0 l0.length l0) (hc0 : l0.length ≤ c0) (h : feast_Sort.f l0 = some r) :
    Calls Tryz.prog 36 #[.slice A0 l0.length c0] w fun e w' => ∃ v0_ : Value, e = .returned (v0_) ∧ Kd.R k57 57 w' w.heap.size (fun _ => True) v0_ r ∧ Below w.heap.size w w' := by
  have hlen : l0.length ≤ 8796093022208 := by unfold feast_Sort.f at h; split at h <;> first | assumption | cases h
  rw [feast_Sort.f, if_pos hlen] at h
  have h' := Option.some.inj h
  subst h'
  clear h
  cases A0 with
  | none =>
    have hn : l0 = [] := by
      by_cases hz : l0.length = 0
      · exact List.length_eq_zero_iff.1 hz
      · obtain ⟨ad, he, _⟩ := hr0.2.2 (by omega)
        cases he
    subst hn
    clear hr0
    have HC : Aside0 (∀ W, Calls Tryz.prog 82 #[.slice none 0 c0] W fun e w' => e = .returned (.slice none 0 0) ∧ W = w') := ⟨fun W => (AnyE.slices_Clone_nil Tryz.cloneEv 0 c0 W).mono fun e w' h => ⟨h.1, h.2.symm⟩⟩
    have HS : Aside0 (∀ W, Calls Tryz.prog 83 #[.slice none 0 0, .func (.func 84) #[] #[]] W fun e w' => e = .returned (.tuple #[]) ∧ W = w') := ⟨fun W => sort_nil _ W⟩
    simp only [List.length_nil]
    go_enter Tryz.func36, Tryz.ntmps36
    go_wp2_with fail
    refine (HC.out _).mono ?_
    rintro e W1 ⟨rfl, rfl⟩
    go_wp2_with fail
    refine (HS.out _).mono ?_
    rintro e W2 ⟨rfl, rfl⟩
    go_wp2_with fail
    go_ret
    exact ⟨_, rfl, Kd.R_nil _ _ _ _ _, Below.refl _ _⟩
  | some ad =>
    obtain ⟨inner, hreps, hcells⟩ := ReadsRow.inner_ hr0
    have hin : inner = (l0.map toP).flatMap encE := reps_flat l0 inner hreps.1 (fun j p hj => k57_open (hreps.2 j p hj))
    subst hin
    have hlm : (l0.map toP).length = l0.length := List.length_map _
    have HC := Aside0.mk (clone_any ad l0.length c0 ((l0.map toP).flatMap encE) w (by rw [flat_len, hlm]) (by have : (8796093022208 : Nat) ≤ maxLen := by decide
                                                                                                              omega) (by omega) hcells (fun u hu => by
      obtain ⟨x, _, hx⟩ := List.mem_flatMap.1 hu
      simp [encE] at hx
      rcases hx with rfl | rfl <;> rfl))
    have HL := Aside0.mk hlen
    have HLM := Aside0.mk hlm
    clear hr0 hreps hcells hc0 hlen hlm
    go_enter Tryz.func36, Tryz.ntmps36
    go_wp2_with fail
    refine HC.out.mono ?_
    rintro e W1 ⟨v', rfl, hown, hnil, hb⟩
    rcases hown.2 with ⟨h0, _⟩ | ⟨g, cap, cur, hv, hg, hb1, hn, hcap, hcs, htk⟩
    · exact absurd h0 hnil
    subst hv
    have HS := Aside0.mk (sort_own g cap (l0.map toP) cur W1 w.heap.size hg hb1 (by rw [HLM.out]; exact hn) hcap hcs (by rw [HLM.out]; exact htk) (by rw [HLM.out]; have := HL.out; omega))
    rw [HLM.out] at HS
    have HB := Aside0.mk hb
    clear hown hnil hb hb1 hn hcap hcs htk hg HC
    go_wp2_with fail
    refine HS.out.mono ?_
    rintro e W2 ⟨rfl, hown, hb⟩
    have HO : Aside0 (Kd.R k57 57 W2 w.heap.size (fun _ => True) (.slice (some ⟨g, 0, none⟩) l0.length cap) ((Cal.sortE (l0.map toP)).map ofP)) := ⟨own_row_of _ (by rw [Cal.sortE_length, HLM.out]; exact hown)⟩
    have HB2 := Aside0.mk (HB.out.trans hb)
    clear hown hb
    go_wp2_with fail
    go_ret
    exact ⟨_, rfl, HO.out, HB2.out⟩

end Go.Proofs.YtflpddhoiafhcaaGreatDoor.S
end

section
-- Written by wip/hprint.py of this repo (holes typed by hand, all else by a program) over the seat YtflpddhoiafhcaaGreatDoor.
namespace Go.Proofs.YtflpddhoiafhcaaGreatDoor.S
open Go.Proofs.YtflpddhoiafhcaaGreatDoor.H
open Go.RowKit Go.Proofs.YtflpddhoiafhcaaGreatDoorW.PrintWords Go.Proofs.YtflpddhoiafhcaaGreatDoorW.PrintLast Go.Proofs.YtflpddhoiafhcaaGreatDoorW.PrintMore
attribute [local go_sem] max2_int min2_int max_two min_two max_three min_three max_four min_four   -- for this text's walks alone
set_option linter.unusedVariables false
set_option linter.unusedSimpArgs false

def special_Of.l0 : Nat → Int → List (S57) → List (S54) → Int → Int → Option ((List (S57)) × Int)
  | 0, _, _, _, _, _ => none
  | k + 1, x0, x4, x9, x10, x11 => if x11 < x10 then (if 0 ≤ x11 then (if x11 < (x9.length : Int) then ((heb_ToDay.f k x0 ((rd_T54 x9 x11).f1) false ((rd_T54 x9 x11).f2)).bind fun bt203 => (if bt203.2 = 0 then ((near.f ((rd_T54 x9 x11).f3) bt203.1 6).bind fun t205 => (if x4.length < 8796093022208 then (special_Of.l0 k x0 (x4 ++ [(⟨(rd_T54 x9 x11).f0, wrap64 (t205 + ((rd_T54 x9 x11).f4))⟩ : S57)]) x9 x10 (wrap64 (x11 + 1))) else (none))) else (some (([] : List (S57)), bt203.2)))) else (none)) else (none)) else ((feast_Sort.f x4).bind fun t198 => (some (t198, 0)))
def special_Of.f (k : Nat) (a0 : Int) : Option ((List (S57)) × Int) := (special_rules.f).bind fun t195 => (special_Of.l0 k a0 ([] : List (S57)) t195 (t195.length : Int) 0)
theorem special_Of.mono_l : ∀ k, (∀ y0 y1 y2 y3 y4, LeO (special_Of.l0 k y0 y1 y2 y3 y4) (special_Of.l0 (k + 1) y0 y1 y2 y3 y4))
 | 0 => fun _ _ _ _ _ r h => by simp [special_Of.l0] at h
 | k + 1 => by
  have ih0 := special_Of.mono_l k
  ·
   intro y0 y1 y2 y3 y4
   unfold special_Of.l0
   repeat' first
   | (with_reducible exact ih0 _ _ _ _ _)
   | (with_reducible exact heb_ToDay.mono _ _ _ _ _)
   | (with_reducible exact LeO.refl _)
   | (with_reducible exact LeO.none _)
   | (with_reducible refine LeO.ite ?_ ?_)
   | (with_reducible refine LeO.bind ?_ (fun _ => ?_))
   | exact ih0 _ _ _ _ _
   | exact heb_ToDay.mono _ _ _ _ _
   | exact LeO.none _
   | refine LeO.ite ?_ ?_
   | refine LeO.bind ?_ (fun _ => ?_)
theorem special_Of.mono : ∀ a0 k, LeO (special_Of.f k a0) (special_Of.f (k + 1) a0) := by
 intro a0 k
 have ih0 := special_Of.mono_l k
 unfold special_Of.f
 repeat' first
   | (with_reducible exact ih0 _ _ _ _ _)
   | (with_reducible exact heb_ToDay.mono _ _ _ _ _)
   | (with_reducible exact LeO.refl _)
   | (with_reducible exact LeO.none _)
   | (with_reducible refine LeO.ite ?_ ?_)
   | (with_reducible refine LeO.bind ?_ (fun _ => ?_))
   | exact ih0 _ _ _ _ _
   | exact heb_ToDay.mono _ _ _ _ _
   | exact LeO.none _
   | refine LeO.ite ?_ ?_
   | refine LeO.bind ?_ (fun _ => ?_)
def special_Of.T8 : Bool × List (List Nat × List Nat) := (true, [([], []), ([], []), ([1], [1]), ([], []), ([3], [3]), ([], []), ([4, 5], [4, 5]), ([], []), ([7], [7]), ([6, 8], [6, 8]), ([2, 9], [2, 9]), ([10], [10]), ([0, 11, 6], [0, 11]), ([12, 12, 0, 1, 2, 3, 4, 5, 6, 7, 8, 9, 10, 11, 12], [0, 12])])
def special_Of.B8 : List Nat := [0, 0, 2, 0, 8, 0, 56, 0, 128, 504, 1022, 2046, 4095, 8191]
theorem special_Of.tab8 : rtab .any (opsOf Tryz.f9 8) = special_Of.T8 := by kernel_rfl
theorem special_Of.bits8 : waitsOk special_Of.T8.2 special_Of.B8 = true := by kernel_rfl
set_option maxHeartbeats 8000000 in
set_option maxRecDepth 100000 in
theorem special_Of.calls (k : Nat) (a0 : Int) (r1 : List (S57)) (r2 : Int) (w : World) (HGT : GlobT w) (h : special_Of.f k a0 = some (r1, r2)) :
  Calls Tryz.prog 9 #[.int .i64 a0] w fun e w' => ∃ v0_ : Value, e = .returned (.tuple #[v0_, .int .i64 r2]) ∧ Kd.R k57 57 w' w.heap.size (fun _ => True) v0_ r1 ∧ Below w.heap.size w w' := by
 have hu54 := Tryz.underlying54
 have hu32 := Tryz.underlying32
 have hu34 := Tryz.underlying34
 have hu57 := Tryz.underlying57
 have HB := zz00 (Below.refl w.heap.size w)
 have H : ((special_rules.f).bind fun t195 => (special_Of.l0 k a0 ([] : List (S57)) t195 (t195.length : Int) 0)) = some (r1, r2) := h
 clear h
 replace H := zz14.mp H
 obtain ⟨t195, A20, H⟩ := H
 replace H : (special_Of.l0 k a0 ([] : List (S57)) t195 (t195.length : Int) 0) = some (r1, r2) := H
 have A2 := zz00 A20
 clear A20
 have H' := zz00 H
 clear H
 go_enter Tryz.func9, Tryz.ntmps9
 go_wp2_with (first|((with_reducible refine zz23 (f:=34) rfl ?_);refine zz25 (some 9) rfl rfl Tryz.func34 (by kernel_rfl) rfl #[] rfl (by (try simp only [List.map_toArray,List.map_cons,List.map_nil]);first|done|rfl|(simp only [List.length_drop,List.length_take];rfl)) ?_;(with_reducible refine (special_rules.calls  t195 _ A2.out).mono ?_);rintro e w3 ⟨v196,rfl,ho0,hb⟩;refine ⟨_,rfl,?_⟩;have n0_:=zz00 (Kd.R_lower ho0 (zz22 (by repeat (first|(with_reducible first|exact HB.out|apply zz03|apply zz01|apply zz02)|exact HB.out))));have n1_:=zz00 (zz21 (by repeat (first|(with_reducible first|exact HB.out|apply zz03|apply zz01|apply zz02)|exact HB.out)) hb);clear HB;have HO197:=n0_;have HB:=n1_;clear n0_ n1_;(try clear hb);(try clear hb2);(try clear hk);(try clear hi);(try clear ho0);obtain ⟨Ao4,co4,eo4⟩:=Kd.R_slice HO197.out;subst eo4))
 go_loopg [4,11] k (fun kq v4 v11 w'=>∃ (x4_1 : List (S57)) (x11_1 : Int),v11 = .int .i64 x11_1 ∧ Aside0 (special_Of.l0 kq a0 x4_1 t195 (t195.length : Int) x11_1 = some (r1,r2)) ∧ Aside0 (kq ≤ k) ∧ Aside0 (Kd.R k57 57 w' w.heap.size (fun _=>True) v4 x4_1) ∧ Aside0 (Kd.R k54 54 w' w.heap.size (fun _=>True) (.slice Ao4 t195.length co4) t195) ∧ Aside0 (Below w.heap.size w w'))
 case atStart=>exact ⟨(([] : List (S57))),(0),(by first|rfl|(simp;done)|(simp [*];done)),H',⟨Nat.le_refl _⟩,⟨by first|exact Kd.R_nil _ _ _ _ _|exact Kd.N_nil _ _ _ _ _|exact Kd.V_nil _ _ _ _ _|exact Kd.Q_nil _ _ _ _ _|exact Kd.S_nil _ _ _ _ _⟩,⟨by (with_reducible repeat (first|apply zz05|apply zz04|apply zz06));exact HO197.out⟩,⟨by repeat (first|(with_reducible first|exact HB.out|apply zz03|apply zz01|apply zz02)|exact HB.out)⟩⟩
 case round =>
  clear H'
  try clear p2
  try clear c3
  obtain ⟨x4_1, x11_1, rfl, HA, HK1, HO_4, HO_9, HB⟩ := hrel
  cases gk with
  | zero => exact absurd HA.out (by simp [special_Of.l0])
  | succ k1 =>
   have H := HA.out
   clear HA
   simp only [special_Of.l0] at H
   by_cases c5 : x11_1 < (t195.length : Int)
   ·
    rw [if_pos c5] at H
    have c5b0 : decide (x11_1 < (t195.length : Int)) = true := decide_eq_true c5
    clear c5
    by_cases c6 : 0 ≤ x11_1
    ·
     rw [if_pos c6] at H
     have c6b0 : decide (0 ≤ x11_1) = true := decide_eq_true c6
     clear c6
     by_cases c7 : x11_1 < (t195.length : Int)
     ·
      rw [if_pos c7] at H
      have c7b0 : decide (x11_1 < (t195.length : Int)) = true := decide_eq_true c7
      clear c7
      replace H := zz14.mp H
      obtain ⟨⟨t203, t204⟩, A80, H⟩ := H
      replace H : (if t204 = 0 then ((near.f ((rd_T54 t195 x11_1).f3) t203 6).bind fun t205=>(if x4_1.length < 8796093022208 then (special_Of.l0 k1 a0 (x4_1 ++ [(⟨(rd_T54 t195 x11_1).f0,wrap64 (t205 + ((rd_T54 t195 x11_1).f4))⟩ : S57)]) t195 (t195.length : Int) (wrap64 (x11_1 + 1))) else (none))) else (some (([] : List (S57)),t204))) = some (r1,r2):=H
      have A8 := zz00 A80
      clear A80
      by_cases c9 : t204 = 0
      ·
       rw [if_pos c9] at H
       have c9b0 : (t204 == 0) = true := zz29.mpr c9
       have c9b1 : (t204 != 0) = false := zz26.mpr c9
       clear c9
       replace H := zz14.mp H
       obtain ⟨t205, A100, H⟩ := H
       replace H : (if x4_1.length < 8796093022208 then (special_Of.l0 k1 a0 (x4_1 ++ [(⟨(rd_T54 t195 x11_1).f0,wrap64 (t205 + ((rd_T54 t195 x11_1).f4))⟩ : S57)]) t195 (t195.length : Int) (wrap64 (x11_1 + 1))) else (none)) = some (r1,r2):=H
       have A10 := zz00 A100
       clear A100
       by_cases c11 : x4_1.length < 8796093022208
       ·
        rw [if_pos c11] at H
        have LMc11 := zz00 c11
        clear c11
        obtain ⟨y206, hy206⟩ : ∃ y_ : List (S57), y_ = (x4_1 ++ [(⟨(rd_T54 t195 x11_1).f0, wrap64 (t205 + ((rd_T54 t195 x11_1).f4))⟩ : S57)]) := ⟨_, rfl⟩
        replace H : (special_Of.l0 k1 a0 y206 t195 (t195.length : Int) (wrap64 (x11_1 + 1))) = some (r1,r2):=by first|(rw [hy206];with_reducible exact H)|(have H2_:=(Option.bind_some _ _).symm.trans H;rw [hy206];with_reducible exact H2_)|(have H2_:=(Option.bind_some _ _).symm.trans H;with_reducible exact H2_)|with_reducible exact H|(rw [hy206];exact H)|exact H
        have Ny206 := zz00 hy206
        clear hy206
        have H' := zz00 H
        clear H
        have p201 : 0 ≤ (x11_1 : Int) := zz31 (by first | (with_reducible assumption) | assumption)
        have q201 : x11_1 < (t195.length : Int) := zz31 (by first | (with_reducible assumption) | assumption)
        obtain ⟨ad201, e201, hx201_0, hx201_1, hx201_2, hx201_3, hx201_4⟩ := at_T54 (Kd.R_reads' HO_9.out).2.2 x11_1 p201 q201
        cases e201
        replace p201 := eq_true p201
        replace q201 := eq_true q201
        try go_wp2_with (first|((with_reducible refine zz24 (N:=6) rfl ?_);refine zz30 ?hg (N:=6) ?hd (cs:=#[.int .i64 0,.int .i64 0,.int .i64 0,.nilFunc,.int .i64 0]) (t:=54) ?hr ?_;(case hd=>rfl);(case hg=>rfl);(case hr=>first|(go_simp;done)|(go_simp;rfl));intro gb202 hg w12 hbox hb;have n0_:=zz00 (zz19 (by (with_reducible repeat (first|apply zz05|apply zz04|apply zz06));exact HO_4.out) hb);have n1_:=zz00 (zz19 (Kd.R_elderB (by (with_reducible repeat (first|apply zz05|apply zz04|apply zz06));exact HO_9.out) gb202 (Nat.le_of_eq hg.symm)) hb);have n2_:=zz00 (zz21 (by repeat (first|(with_reducible first|exact HB.out|apply zz03|apply zz01|apply zz02)|exact HB.out)) hb);have n3_:=zz00 (hbox);have n4_:=zz00 ((by rw [hg];exact (zz22 (by repeat (first|(with_reducible first|exact HB.out|apply zz03|apply zz01|apply zz02)|exact HB.out))) : w.heap.size ≤ gb202));have n5_:=zz00 ((by rw [hg];exact (zz22 (by repeat (first|(with_reducible first|exact HB.out|apply zz03|apply zz01|apply zz02)|exact HB.out))) : w.heap.size ≤ gb202));clear HO_4;clear HO_9;clear HB;have HO_4:=n0_;have HO_9:=n1_;have HB:=n2_;have BK202:=n3_;have GW202:=n4_;have GE202:=n5_;clear n0_ n1_ n2_ n3_ n4_ n5_;clear hb hbox hg;have hcz13_0 : w12.cell? ⟨gb202,0,none⟩ = some (.int .i64 0):=(zz18 BK202.out 0).trans rfl;have hcz13_1 : w12.cell? ⟨gb202,1,none⟩ = some (.int .i64 0):=(zz18 BK202.out 1).trans rfl;have hcz13_2 : w12.cell? ⟨gb202,2,none⟩ = some (.int .i64 0):=(zz18 BK202.out 2).trans rfl;have hcz13_3 : w12.cell? ⟨gb202,3,none⟩ = some (.nilFunc):=(zz18 BK202.out 3).trans rfl;have hcz13_4 : w12.cell? ⟨gb202,4,none⟩ = some (.int .i64 0):=(zz18 BK202.out 4).trans rfl;have hfz13_0:=zz17 BK202.out 0;have hfz13_1:=zz17 BK202.out 1;have hfz13_2:=zz17 BK202.out 2;have hfz13_3:=zz17 BK202.out 3;have hfz13_4:=zz17 BK202.out 4)|((with_reducible refine zz23 (f:=35) rfl ?_);refine zz25 (some 23) rfl rfl Tryz.func35 (by kernel_rfl) rfl #[.agg #[.int .i64 a0,.int .i64 ((rd_T54 t195 x11_1).f1),.bool false,.int .i64 ((rd_T54 t195 x11_1).f2)]] rfl (by (try simp only [List.map_toArray,List.map_cons,List.map_nil]);first|done|rfl|(simp only [List.length_drop,List.length_take];rfl)) ?_;(with_reducible refine (heb_ToDay.calls k1 a0 ((rd_T54 t195 x11_1).f1) false ((rd_T54 t195 x11_1).f2) t203 t204 _ ?side1 A8.out).mono ?_);(case side1=>exact GlobT.below HGT (by repeat (first|(with_reducible first|exact HB.out|apply zz03|apply zz01|apply zz02|refine zz10 ?_ GE202.out)|exact HB.out)));rintro e w14 ⟨rfl,hb⟩;refine ⟨_,rfl,?_⟩;have n0_:=zz00 (zz19 (by (with_reducible repeat (first|apply zz05|apply zz04|apply zz06));exact (Kd.R_mono (Kd.R_far (p:=⟨gb202,4,none⟩) (Kd.R_far (p:=⟨gb202,3,none⟩) (Kd.R_far (p:=⟨gb202,2,none⟩) (Kd.R_far (p:=⟨gb202,1,none⟩) (Kd.R_far (p:=⟨gb202,0,none⟩) (Kd.R_types HO_4.out BK202.out (by decide)) (fun _ hk=>hk.2) (.int .i64 ((rd_T54 t195 x11_1).f0))) (fun _ hk=>hk.2) (.int .i64 ((rd_T54 t195 x11_1).f1))) (fun _ hk=>hk.2) (.int .i64 ((rd_T54 t195 x11_1).f2))) (fun _ hk=>hk.2) (nearV ((rd_T54 t195 x11_1).f3))) (fun _ hk=>hk.2) (.int .i64 ((rd_T54 t195 x11_1).f4))) (fun _ h_=>h_.1))) hb);have n1_:=zz00 (zz19 (by (with_reducible repeat (first|apply zz05|apply zz04|apply zz06));exact (Kd.R_mono (Kd.R_far (p:=⟨gb202,4,none⟩) (Kd.R_far (p:=⟨gb202,3,none⟩) (Kd.R_far (p:=⟨gb202,2,none⟩) (Kd.R_far (p:=⟨gb202,1,none⟩) (Kd.R_far (p:=⟨gb202,0,none⟩) (Kd.R_mono HO_9.out (fun k_ hk=>(⟨hk,hk.2⟩ : _ ∧ k_ ≠ gb202))) (fun _ hk=>hk.2) (.int .i64 ((rd_T54 t195 x11_1).f0))) (fun _ hk=>hk.2) (.int .i64 ((rd_T54 t195 x11_1).f1))) (fun _ hk=>hk.2) (.int .i64 ((rd_T54 t195 x11_1).f2))) (fun _ hk=>hk.2) (nearV ((rd_T54 t195 x11_1).f3))) (fun _ hk=>hk.2) (.int .i64 ((rd_T54 t195 x11_1).f4))) (fun _ h_=>h_.1))) hb);have n2_:=zz00 (zz34 (g:=gb202) (o:=.cells #[.int .i64 ((rd_T54 t195 x11_1).f0),.int .i64 ((rd_T54 t195 x11_1).f1),.int .i64 ((rd_T54 t195 x11_1).f2),nearV ((rd_T54 t195 x11_1).f3),.int .i64 ((rd_T54 t195 x11_1).f4)] 54 (0,0)) (by (with_reducible repeat (first|refine zz07 ?_ _|refine zz09 ?_|refine zz08 ?_ _));refine zz35 (cs:=#[.int .i64 ((rd_T54 t195 x11_1).f0),.int .i64 ((rd_T54 t195 x11_1).f1),.int .i64 ((rd_T54 t195 x11_1).f2),nearV ((rd_T54 t195 x11_1).f3),.int .i64 0]) ?_ 4 _ rfl;(with_reducible repeat (first|refine zz07 ?_ _|refine zz09 ?_|refine zz08 ?_ _));refine zz35 (cs:=#[.int .i64 ((rd_T54 t195 x11_1).f0),.int .i64 ((rd_T54 t195 x11_1).f1),.int .i64 ((rd_T54 t195 x11_1).f2),.nilFunc,.int .i64 0]) ?_ 3 _ rfl;(with_reducible repeat (first|refine zz07 ?_ _|refine zz09 ?_|refine zz08 ?_ _));refine zz35 (cs:=#[.int .i64 ((rd_T54 t195 x11_1).f0),.int .i64 ((rd_T54 t195 x11_1).f1),.int .i64 0,.nilFunc,.int .i64 0]) ?_ 2 _ rfl;(with_reducible repeat (first|refine zz07 ?_ _|refine zz09 ?_|refine zz08 ?_ _));refine zz35 (cs:=#[.int .i64 ((rd_T54 t195 x11_1).f0),.int .i64 0,.int .i64 0,.nilFunc,.int .i64 0]) ?_ 1 _ rfl;(with_reducible repeat (first|refine zz07 ?_ _|refine zz09 ?_|refine zz08 ?_ _));refine zz35 (cs:=#[.int .i64 0,.int .i64 0,.int .i64 0,.nilFunc,.int .i64 0]) ?_ 0 _ rfl;(with_reducible repeat (first|refine zz07 ?_ _|refine zz09 ?_|refine zz08 ?_ _));exact BK202.out) hb);have n3_:=zz00 (zz21 (by repeat (first|(with_reducible first|exact HB.out|apply zz03|apply zz01|apply zz02|refine zz10 ?_ GE202.out)|exact HB.out)) hb);clear HO_4;clear HO_9;clear BK202;clear HB;have HO_4:=n0_;have HO_9:=n1_;have BK202:=n2_;have HB:=n3_;clear n0_ n1_ n2_ n3_;(try clear hb);(try clear hb2);(try clear hk);(try clear hi)))
        have n0_ := zz00 (zz06 HO_4.out)
        have n1_ := zz00 (zz06 HO_9.out)
        have n2_ := zz00 (zz09 BK202.out)
        have n3_ := zz00 (zz02 HB.out)
        clear HO_4
        clear HO_9
        clear BK202
        clear HB
        have HO_4 := n0_
        have HO_9 := n1_
        have BK202 := n2_
        have HB := n3_
        clear n0_ n1_ n2_ n3_
        refine start_ (n:=14) (S:=fun w'=>w'.cell? ⟨gb202,0,none⟩ = some (.int .i64 ((rd_T54 t195 x11_1).f0)) ∧ w'.cell? ⟨gb202,1,none⟩ = some (.int .i64 ((rd_T54 t195 x11_1).f1)) ∧ w'.cell? ⟨gb202,2,none⟩ = some (.int .i64 ((rd_T54 t195 x11_1).f2)) ∧ w'.cell? ⟨gb202,3,none⟩ = some (nearV ((rd_T54 t195 x11_1).f3)) ∧ w'.cell? ⟨gb202,4,none⟩ = some (.int .i64 ((rd_T54 t195 x11_1).f4))) (ds:=[]) #[false,false,false,false,false,false,false,false,false,false,false,false,false,false] (by kernel_rfl) rfl rfl ⟨(zz18 BK202.out 0).trans rfl,(zz18 BK202.out 1).trans rfl,(zz18 BK202.out 2).trans rfl,(zz18 BK202.out 3).trans rfl,(zz18 BK202.out 4).trans rfl⟩ (fun hHeld=>?_);refine with_tabW special_Of.tab8 special_Of.bits8 (fun HT_ HW_=>?_)
        generalize w14.drew = w15 at HO_4 HO_9 BK202 HB hHeld ⊢
        refine pure_ (i:=0) (N:=some 29) (v:=?_) (a':=?_) #[true,false,false,false,false,false,false,false,false,false,false,false,false,false] rfl rfl (any_of HT_.out (by kernel_rfl)) (fun _ _ _ h=>h) (Or.inl ⟨by rfl,?_⟩) ?_ ?_
        rotate_left
        ·
         intro w'
         go_simp
         with_reducible rfl
        rotate_left
        ·
         simp only [Act.put, zz11, zz12, zz13, i64_w, i32_w]
         rfl
        refine pure_ (i:=1) (N:=some 30) (v:=?_) (a':=?_) #[true,true,false,false,false,false,false,false,false,false,false,false,false,false] rfl rfl (any_of HT_.out (by kernel_rfl)) (fun _ _ _ h=>h) (Or.inl ⟨by rfl,?_⟩) ?_ ?_
        rotate_left
        ·
         intro w'
         go_simp
         with_reducible rfl
        rotate_left
        ·
         simp only [Act.put, zz11, zz12, zz13, i64_w, i32_w]
         rfl
        refine pure_ (i:=3) (N:=some 32) (v:=?_) (a':=?_) #[true,true,false,true,false,false,false,false,false,false,false,false,false,false] rfl rfl (any_of HT_.out (by kernel_rfl)) (fun _ _ _ h=>h) (Or.inl ⟨by rfl,?_⟩) ?_ ?_
        rotate_left
        ·
         intro w'
         go_simp
         with_reducible rfl
        rotate_left
        ·
         simp only [Act.put, zz11, zz12, zz13, i64_w, i32_w]
         rfl
        refine pure_ (i:=5) (N:=some 34) (v:=?_) (a':=?_) #[true,true,false,true,false,true,false,false,false,false,false,false,false,false] rfl rfl (any_of HT_.out (by kernel_rfl)) (fun _ _ _ h=>h) (Or.inl ⟨by rfl,?_⟩) ?_ ?_
        rotate_left
        ·
         intro w'
         go_simp
         with_reducible rfl
        rotate_left
        ·
         simp only [Act.put, zz11, zz12, zz13, i64_w, i32_w]
         rfl
        refine pure_ (i:=7) (N:=some 36) (v:=?_) (a':=?_) #[true,true,false,true,false,true,false,true,false,false,false,false,false,false] rfl rfl (any_of HT_.out (by kernel_rfl)) (fun _ _ _ h=>h) (Or.inl ⟨by rfl,?_⟩) ?_ ?_
        rotate_left
        ·
         intro w'
         go_simp
         with_reducible rfl
        rotate_left
        ·
         simp only [Act.put, zz11, zz12, zz13, i64_w, i32_w]
         rfl
        refine take_ (i:=2) (N:=some 31) (v:=?_) (a':=?_) #[true,true,true,true,false,true,false,true,false,false,false,false,false,false] rfl rfl (take_ofW HT_.out HW_.out (by kernel_rfl)) (fun _ _ _ h=>h) (Or.inl ⟨by rfl,?_⟩) hHeld ?_ ?_
        rotate_left
        ·
         rintro w' ⟨s0, s1, s2, s3, s4⟩
         go_simp
         with_reducible rfl
        rotate_left
        ·
         simp only [Act.put, zz11, zz12, zz13, i64_w, i32_w]
         rfl
        refine take_ (i:=4) (N:=some 33) (v:=?_) (a':=?_) #[true,true,true,true,true,true,false,true,false,false,false,false,false,false] rfl rfl (take_ofW HT_.out HW_.out (by kernel_rfl)) (fun _ _ _ h=>h) (Or.inl ⟨by rfl,?_⟩) hHeld ?_ ?_
        rotate_left
        ·
         rintro w' ⟨s0, s1, s2, s3, s4⟩
         go_simp
         with_reducible rfl
        rotate_left
        ·
         simp only [Act.put, zz11, zz12, zz13, i64_w, i32_w]
         rfl
        refine take_ (i:=8) (N:=some 37) (v:=?_) (a':=?_) #[true,true,true,true,true,true,false,true,true,false,false,false,false,false] rfl rfl (take_ofW HT_.out HW_.out (by kernel_rfl)) (fun _ _ _ h=>h) (Or.inl ⟨by rfl,?_⟩) hHeld ?_ ?_
        rotate_left
        ·
         rintro w' ⟨s0, s1, s2, s3, s4⟩
         go_simp
         with_reducible rfl
        rotate_left
        ·
         simp only [Act.put, zz11, zz12, zz13, i64_w, i32_w]
         rfl
        refine one_ (i:=6) (N:=some 35) #[true,true,true,true,true,true,true,true,true,false,false,false,false,false] rfl rfl (one_of HT_.out (by kernel_rfl)) (by decide) (fun K hK=>?_)
        refine goesN_ (f:=if ((rd_T54 t195 x11_1).f3) = 77 then 77 else 78) #[.int .i64 t203,.int .i64 6] (near.enters _ _ _) (by rfl) rfl rfl (by first|rfl|go_simp) (by (try simp only [List.map_toArray,List.map_cons,List.map_nil]);first|done|rfl|(simp only [List.length_drop,List.length_take];rfl)) ?_
        with_reducible refine (near.calls ((rd_T54 t195 x11_1).f3) t203 6 t205 _ A10.out).mono ?_
        rintro e w' ⟨rfl, ⟨nd, rfl⟩⟩
        refine ⟨_, rfl, ?_⟩
        refine hK.out _ _ ⟨(zz18 BK202.out 0).trans rfl,(zz18 BK202.out 1).trans rfl,(zz18 BK202.out 2).trans rfl,(zz18 BK202.out 3).trans rfl,(zz18 BK202.out 4).trans rfl⟩ (fun hHeld=>?_)
        clear hK K
        refine norm_ (a' := ?_) ?_ ?_
        rotate_left
        ·
         show Act.put _ (some 35) _ = _
         simp only [Act.put, zz11, zz12, zz13, i64_w, i32_w]
         rfl
        refine pure_ (i:=9) (N:=some 38) (v:=?_) (a':=?_) #[true,true,true,true,true,true,true,true,true,true,false,false,false,false] rfl rfl (any_of HT_.out (by kernel_rfl)) (fun _ _ _ h=>h) (Or.inl ⟨by rfl,?_⟩) ?_ ?_
        rotate_left
        ·
         intro w'
         go_simp
         with_reducible rfl
        rotate_left
        ·
         simp only [Act.put, zz11, zz12, zz13, i64_w, i32_w]
         rfl
        refine pure_ (i:=10) (N:=some 39) (v:=?_) (a':=?_) #[true,true,true,true,true,true,true,true,true,true,true,false,false,false] rfl rfl (any_of HT_.out (by kernel_rfl)) (fun _ _ _ h=>h) (Or.inl ⟨by rfl,?_⟩) ?_ ?_
        rotate_left
        ·
         intro w'
         go_simp
         with_reducible rfl
        rotate_left
        ·
         simp only [Act.put, zz11, zz12, zz13, i64_w, i32_w]
         rfl
        refine one_ (i:=11) (N:=some 40) #[true,true,true,true,true,true,true,true,true,true,true,true,false,false] rfl rfl (one_of HT_.out (by kernel_rfl)) (by decide) (fun K hK=>?_)
        refine value_ (w1 := ?_) (v := ?_) (by rfl) rfl ?_ ?_
        rotate_left 2
        ·
         go_simp
         constructor
         ·
          rfl
         ·
          rfl
        refine hK.out _ _ ⟨(zz18 (zz08 BK202.out _) 0).trans rfl,(zz18 (zz08 BK202.out _) 1).trans rfl,(zz18 (zz08 BK202.out _) 2).trans rfl,(zz18 (zz08 BK202.out _) 3).trans rfl,(zz18 (zz08 BK202.out _) 4).trans rfl⟩ (fun hHeld=>?_)
        clear hK K
        refine norm_ (a' := ?_) ?_ ?_
        rotate_left
        ·
         show Act.put _ (some 40) _ = _
         simp only [Act.put, zz11, zz12, zz13, i64_w, i32_w]
         rfl
        refine one_ (i:=12) (N:=some 41) #[true,true,true,true,true,true,true,true,true,true,true,true,true,false] rfl rfl (one_of HT_.out (by kernel_rfl)) (by decide) (fun K hK=>?_)
        refine Kd.R_append_step k57 (w0:=w) w.heap.size (by rfl) (.tmp 29) (.tmp 40) 22 57 (.agg #[(.int .i64 0),(.int .i64 0)]) 16 rfl Tryz.underlying22 info57 rfl (by decide) (by omega) u4 x4_1 (⟨(rd_T54 t195 x11_1).f0,wrap64 (t205 + ((rd_T54 t195 x11_1).f4))⟩ : S57) [.int .i64 ((rd_T54 t195 x11_1).f0),.int .i64 (wrap64 (t205 + ((rd_T54 t195 x11_1).f4)))] (fun _=>True) (fun _=>False) rfl rfl ?aP (fun _ hk=>hk.elim) ?aF ?aO ?aB ?aS ?aL ?_
        (case aP => exact k57_mkM _ _ _ (⟨(rd_T54 t195 x11_1).f0, wrap64 (t205 + ((rd_T54 t195 x11_1).f4))⟩ : S57))
        (case aB => exact (by repeat (first | (with_reducible first | exact HB.out | apply zz03 | apply zz01 | apply zz02 | refine zz10 ?_ GE202.out) | exact HB.out)))
        (case aF => exact (fun _ _ => trivial))
        (case aO => exact (by (with_reducible repeat (first | apply zz05 | apply zz04 | apply zz06)); exact HO_4.out))
        (case aS=>exact (zz22 (by repeat (first|(with_reducible first|exact HB.out|apply zz03|apply zz01|apply zz02|refine zz10 ?_ GE202.out)|exact HB.out))))
        (case aL => have := LMc11.out; omega)
        intro v207 w16 ho hb hg hat
        rw [← Ny206.out] at ho
        have n0_:=zz00 (Kd.R_over' (by (with_reducible repeat (first|apply zz05|apply zz04|apply zz06));exact HO_9.out) (Kd.R_typed (by (with_reducible repeat (first|apply zz05|apply zz04|apply zz06));exact HO_4.out)) (by decide) hg)
        have n1_:=zz00 (blk_grown (g:=gb202) (o:=.cells #[.int .i64 ((rd_T54 t195 x11_1).f0),.int .i64 ((rd_T54 t195 x11_1).f1),.int .i64 ((rd_T54 t195 x11_1).f2),nearV ((rd_T54 t195 x11_1).f3),.int .i64 ((rd_T54 t195 x11_1).f4)] 54 (0,0)) (by (with_reducible repeat (first|refine zz07 ?_ _|refine zz09 ?_|refine zz08 ?_ _));exact BK202.out) hg (Kd.R_ne HO_4.out BK202.out (by decide)))
        have n2_ := zz00 (hb)
        have n3_ := zz00 (ho)
        clear HO_9
        clear BK202
        clear HB
        clear HO_4
        have HO_9 := n0_
        have BK202 := n1_
        have HB := n2_
        have HO208 := n3_
        clear n0_ n1_ n2_ n3_
        clear ho hb hg hat
        refine hK.out _ _ ⟨(zz18 BK202.out 0).trans rfl,(zz18 BK202.out 1).trans rfl,(zz18 BK202.out 2).trans rfl,(zz18 BK202.out 3).trans rfl,(zz18 BK202.out 4).trans rfl⟩ (fun hHeld=>?_)
        clear hK K
        refine norm_ (a' := ?_) ?_ ?_
        rotate_left
        ·
         show Act.put _ (some 41) _ = _
         simp only [Act.put, zz11, zz12, zz13, i64_w, i32_w]
         rfl
        refine pure_ (i:=13) (N:=some 4) (v:=?_) (a':=?_) #[true,true,true,true,true,true,true,true,true,true,true,true,true,true] rfl rfl (any_of HT_.out (by kernel_rfl)) (fun _ _ _ h=>h) (Or.inl ⟨by rfl,?_⟩) ?_ ?_
        rotate_left
        ·
         intro w'
         go_simp
         with_reducible rfl
        rotate_left
        ·
         simp only [Act.put, zz11, zz12, zz13, i64_w, i32_w]
         rfl
        refine done_ (done_of HT_.out (by kernel_rfl)) ?_
        try go_wp2
        go_roundg k1
        case measure => have := HK1.out; omega
        case rel=>exact ⟨(y206),(wrap64 (x11_1 + 1)),(by first|rfl|(simp;done)|(simp [*];done)),H',⟨by have:=HK1.out;omega⟩,⟨by (with_reducible repeat (first|apply zz05|apply zz04|apply zz06));exact HO208.out⟩,⟨by (with_reducible repeat (first|apply zz05|apply zz04|apply zz06));exact Kd.R_mono HO_9.out (fun _ hk=>trivial)⟩,⟨by repeat (first|(with_reducible first|exact HB.out|apply zz03|apply zz01|apply zz02|refine zz10 ?_ GE202.out)|exact HB.out)⟩⟩
       ·
        rw [if_neg c11] at H
        exact absurd H (by simp)
      ·
       rw [if_neg c9] at H
       have c9b0 : (t204 == 0) = false := zz27.mpr c9
       have c9b1 : (t204 != 0) = true := zz28.mpr c9
       simp only [zz15, zz16] at H
       obtain ⟨rfl, rfl⟩ := H
       have p201 : 0 ≤ (x11_1 : Int) := zz31 (by first | (with_reducible assumption) | assumption)
       have q201 : x11_1 < (t195.length : Int) := zz31 (by first | (with_reducible assumption) | assumption)
       obtain ⟨ad201, e201, hx201_0, hx201_1, hx201_2, hx201_3, hx201_4⟩ := at_T54 (Kd.R_reads' HO_9.out).2.2 x11_1 p201 q201
       cases e201
       replace p201 := eq_true p201
       replace q201 := eq_true q201
       go_wp2_with (first|((with_reducible refine zz24 (N:=6) rfl ?_);refine zz30 ?hg (N:=6) ?hd (cs:=#[.int .i64 0,.int .i64 0,.int .i64 0,.nilFunc,.int .i64 0]) (t:=54) ?hr ?_;(case hd=>rfl);(case hg=>rfl);(case hr=>first|(go_simp;done)|(go_simp;rfl));intro gb202 hg w17 hbox hb;have n0_:=zz00 (zz19 (by (with_reducible repeat (first|apply zz05|apply zz04|apply zz06));exact HO_4.out) hb);have n1_:=zz00 (zz19 (Kd.R_elderB (by (with_reducible repeat (first|apply zz05|apply zz04|apply zz06));exact HO_9.out) gb202 (Nat.le_of_eq hg.symm)) hb);have n2_:=zz00 (zz21 (by repeat (first|(with_reducible first|exact HB.out|apply zz03|apply zz01|apply zz02)|exact HB.out)) hb);have n3_:=zz00 (hbox);have n4_:=zz00 ((by rw [hg];exact (zz22 (by repeat (first|(with_reducible first|exact HB.out|apply zz03|apply zz01|apply zz02)|exact HB.out))) : w.heap.size ≤ gb202));have n5_:=zz00 ((by rw [hg];exact (zz22 (by repeat (first|(with_reducible first|exact HB.out|apply zz03|apply zz01|apply zz02)|exact HB.out))) : w.heap.size ≤ gb202));clear HO_4;clear HO_9;clear HB;have HO_4:=n0_;have HO_9:=n1_;have HB:=n2_;have BK202:=n3_;have GW202:=n4_;have GE202:=n5_;clear n0_ n1_ n2_ n3_ n4_ n5_;clear hb hbox hg;have hcz18_0 : w17.cell? ⟨gb202,0,none⟩ = some (.int .i64 0):=(zz18 BK202.out 0).trans rfl;have hcz18_1 : w17.cell? ⟨gb202,1,none⟩ = some (.int .i64 0):=(zz18 BK202.out 1).trans rfl;have hcz18_2 : w17.cell? ⟨gb202,2,none⟩ = some (.int .i64 0):=(zz18 BK202.out 2).trans rfl;have hcz18_3 : w17.cell? ⟨gb202,3,none⟩ = some (.nilFunc):=(zz18 BK202.out 3).trans rfl;have hcz18_4 : w17.cell? ⟨gb202,4,none⟩ = some (.int .i64 0):=(zz18 BK202.out 4).trans rfl;have hfz18_0:=zz17 BK202.out 0;have hfz18_1:=zz17 BK202.out 1;have hfz18_2:=zz17 BK202.out 2;have hfz18_3:=zz17 BK202.out 3;have hfz18_4:=zz17 BK202.out 4)|((with_reducible refine zz23 (f:=35) rfl ?_);refine zz25 (some 23) rfl rfl Tryz.func35 (by kernel_rfl) rfl #[.agg #[.int .i64 a0,.int .i64 ((rd_T54 t195 x11_1).f1),.bool false,.int .i64 ((rd_T54 t195 x11_1).f2)]] rfl (by (try simp only [List.map_toArray,List.map_cons,List.map_nil]);first|done|rfl|(simp only [List.length_drop,List.length_take];rfl)) ?_;(with_reducible refine (heb_ToDay.calls k1 a0 ((rd_T54 t195 x11_1).f1) false ((rd_T54 t195 x11_1).f2) t203 t204 _ ?side1 A8.out).mono ?_);(case side1=>exact GlobT.below HGT (by repeat (first|(with_reducible first|exact HB.out|apply zz03|apply zz01|apply zz02|refine zz10 ?_ GE202.out)|exact HB.out)));rintro e w19 ⟨rfl,hb⟩;refine ⟨_,rfl,?_⟩;have n0_:=zz00 (zz19 (by (with_reducible repeat (first|apply zz05|apply zz04|apply zz06));exact (Kd.R_mono (Kd.R_far (p:=⟨gb202,4,none⟩) (Kd.R_far (p:=⟨gb202,3,none⟩) (Kd.R_far (p:=⟨gb202,2,none⟩) (Kd.R_far (p:=⟨gb202,1,none⟩) (Kd.R_far (p:=⟨gb202,0,none⟩) (Kd.R_types HO_4.out BK202.out (by decide)) (fun _ hk=>hk.2) (.int .i64 ((rd_T54 t195 x11_1).f0))) (fun _ hk=>hk.2) (.int .i64 ((rd_T54 t195 x11_1).f1))) (fun _ hk=>hk.2) (.int .i64 ((rd_T54 t195 x11_1).f2))) (fun _ hk=>hk.2) (nearV ((rd_T54 t195 x11_1).f3))) (fun _ hk=>hk.2) (.int .i64 ((rd_T54 t195 x11_1).f4))) (fun _ h_=>h_.1))) hb);have n1_:=zz00 (zz19 (by (with_reducible repeat (first|apply zz05|apply zz04|apply zz06));exact (Kd.R_mono (Kd.R_far (p:=⟨gb202,4,none⟩) (Kd.R_far (p:=⟨gb202,3,none⟩) (Kd.R_far (p:=⟨gb202,2,none⟩) (Kd.R_far (p:=⟨gb202,1,none⟩) (Kd.R_far (p:=⟨gb202,0,none⟩) (Kd.R_mono HO_9.out (fun k_ hk=>(⟨hk,hk.2⟩ : _ ∧ k_ ≠ gb202))) (fun _ hk=>hk.2) (.int .i64 ((rd_T54 t195 x11_1).f0))) (fun _ hk=>hk.2) (.int .i64 ((rd_T54 t195 x11_1).f1))) (fun _ hk=>hk.2) (.int .i64 ((rd_T54 t195 x11_1).f2))) (fun _ hk=>hk.2) (nearV ((rd_T54 t195 x11_1).f3))) (fun _ hk=>hk.2) (.int .i64 ((rd_T54 t195 x11_1).f4))) (fun _ h_=>h_.1))) hb);have n2_:=zz00 (zz34 (g:=gb202) (o:=.cells #[.int .i64 ((rd_T54 t195 x11_1).f0),.int .i64 ((rd_T54 t195 x11_1).f1),.int .i64 ((rd_T54 t195 x11_1).f2),nearV ((rd_T54 t195 x11_1).f3),.int .i64 ((rd_T54 t195 x11_1).f4)] 54 (0,0)) (by (with_reducible repeat (first|refine zz07 ?_ _|refine zz09 ?_|refine zz08 ?_ _));refine zz35 (cs:=#[.int .i64 ((rd_T54 t195 x11_1).f0),.int .i64 ((rd_T54 t195 x11_1).f1),.int .i64 ((rd_T54 t195 x11_1).f2),nearV ((rd_T54 t195 x11_1).f3),.int .i64 0]) ?_ 4 _ rfl;(with_reducible repeat (first|refine zz07 ?_ _|refine zz09 ?_|refine zz08 ?_ _));refine zz35 (cs:=#[.int .i64 ((rd_T54 t195 x11_1).f0),.int .i64 ((rd_T54 t195 x11_1).f1),.int .i64 ((rd_T54 t195 x11_1).f2),.nilFunc,.int .i64 0]) ?_ 3 _ rfl;(with_reducible repeat (first|refine zz07 ?_ _|refine zz09 ?_|refine zz08 ?_ _));refine zz35 (cs:=#[.int .i64 ((rd_T54 t195 x11_1).f0),.int .i64 ((rd_T54 t195 x11_1).f1),.int .i64 0,.nilFunc,.int .i64 0]) ?_ 2 _ rfl;(with_reducible repeat (first|refine zz07 ?_ _|refine zz09 ?_|refine zz08 ?_ _));refine zz35 (cs:=#[.int .i64 ((rd_T54 t195 x11_1).f0),.int .i64 0,.int .i64 0,.nilFunc,.int .i64 0]) ?_ 1 _ rfl;(with_reducible repeat (first|refine zz07 ?_ _|refine zz09 ?_|refine zz08 ?_ _));refine zz35 (cs:=#[.int .i64 0,.int .i64 0,.int .i64 0,.nilFunc,.int .i64 0]) ?_ 0 _ rfl;(with_reducible repeat (first|refine zz07 ?_ _|refine zz09 ?_|refine zz08 ?_ _));exact BK202.out) hb);have n3_:=zz00 (zz21 (by repeat (first|(with_reducible first|exact HB.out|apply zz03|apply zz01|apply zz02|refine zz10 ?_ GE202.out)|exact HB.out)) hb);clear HO_4;clear HO_9;clear BK202;clear HB;have HO_4:=n0_;have HO_9:=n1_;have BK202:=n2_;have HB:=n3_;clear n0_ n1_ n2_ n3_;(try clear hb);(try clear hb2);(try clear hk);(try clear hi)))
       go_ret2
       exact ⟨_,by first|rfl|(simp [errW_none,errW_some] <;> rfl)|(simp [*,errW_none,errW_some] <;> rfl),by first|exact Kd.R_nil _ _ _ _ _|exact Kd.N_nil _ _ _ _ _|exact Kd.V_nil _ _ _ _ _|exact Kd.Q_nil _ _ _ _ _|exact Kd.S_nil _ _ _ _ _,by repeat (first|(with_reducible first|exact HB.out|apply zz03|apply zz01|apply zz02|refine zz10 ?_ GE202.out)|exact HB.out)⟩
     ·
      rw [if_neg c7] at H
      exact absurd H (by simp)
    ·
     rw [if_neg c6] at H
     exact absurd H (by simp)
   ·
    rw [if_neg c5] at H
    have c5b0 : decide (x11_1 < (t195.length : Int)) = false := decide_eq_false c5
    clear c5
    replace H := zz14.mp H
    obtain ⟨t198, A200, H⟩ := H
    replace H : (some (t198, 0)) = some (r1, r2) := H
    have A20 := zz00 A200
    clear A200
    simp only [zz15, zz16] at H
    obtain ⟨rfl, rfl⟩ := H
    obtain ⟨Ao21, co21, eo21⟩ := Kd.R_slice HO_4.out
    subst eo21
    go_wp2_with (first|((with_reducible refine zz23 (f:=36) rfl ?_);refine zz25 (some 44) rfl rfl Tryz.func36 (by kernel_rfl) rfl #[.slice Ao21 x4_1.length co21] rfl (by (try simp only [List.map_toArray,List.map_cons,List.map_nil]);first|done|rfl|(simp only [List.length_drop,List.length_take];rfl)) ?_;(with_reducible refine (feast_Sort.calls _ _ x4_1 t198 _ ?side1 ?side2 A20.out).mono ?_);(case side1=>repeat (first|exact (Kd.R_reads' HO_4.out).2.2|(with_reducible refine Kd.C_alloc ?_ _)|(with_reducible refine Kd.C_drewN ?_ _)|(with_reducible refine Kd.C_drew ?_)));(case side2=>exact (Kd.R_reads' HO_4.out).2.1);rintro e w22 ⟨v199,rfl,ho0,hb⟩;refine ⟨_,rfl,?_⟩;have n0_:=zz00 (zz20 (by (with_reducible repeat (first|apply zz05|apply zz04|apply zz06));exact HO_4.out) (Kd.R_base ho0) hb);have n1_:=zz00 (zz19 (by (with_reducible repeat (first|apply zz05|apply zz04|apply zz06));exact HO_9.out) hb);have n2_:=zz00 (Kd.R_lower (Kd.R_new' ho0 (Kd.R_lt (by (with_reducible repeat (first|apply zz05|apply zz04|apply zz06));exact HO_4.out))) (zz22 (by repeat (first|(with_reducible first|exact HB.out|apply zz03|apply zz01|apply zz02)|exact HB.out))));have n3_:=zz00 (zz21 (by repeat (first|(with_reducible first|exact HB.out|apply zz03|apply zz01|apply zz02)|exact HB.out)) hb);clear HO_4;clear HO_9;clear HB;have HO_4:=n0_;have HO_9:=n1_;have HO200:=n2_;have HB:=n3_;clear n0_ n1_ n2_ n3_;(try clear hb);(try clear hb2);(try clear hk);(try clear hi);(try clear ho0)))
    go_ret2
    exact ⟨_,by first|rfl|(simp [errW_none,errW_some] <;> rfl)|(simp [*,errW_none,errW_some] <;> rfl),by (with_reducible repeat (first|apply zz05|apply zz04|apply zz06));exact Kd.R_mono HO200.out (fun _ hk=>trivial),by repeat (first|(with_reducible first|exact HB.out|apply zz03|apply zz01|apply zz02)|exact HB.out)⟩

def almanackerref07_Right.f (a0 : Int) : Option (Bool) := if a0 ≥ 1 then (some (decide (a0 ≤ 9999))) else (some false)
set_option maxHeartbeats 8000000 in
set_option maxRecDepth 100000 in
theorem almanackerref07_Right.calls (a0 : Int) (r : Bool) (w : World) (h : almanackerref07_Right.f a0 = some r) :
    Calls Tryz.prog 37 #[.int .i64 a0] w fun e w' => e = .returned (.bool r) ∧ Drawn0 w w' := by
  have H : (if a0 ≥ 1 then (some (decide (a0 ≤ 9999))) else (some false)) = some r := h
  clear h
  by_cases c2 : a0 ≥ 1
  · rw [if_pos c2] at H
    have c2b0 : decide (1 ≤ a0) = true := decide_eq_true c2
    clear c2
    obtain rfl := Option.some.inj H
    go_enter Tryz.func37, Tryz.ntmps37
    go_wp2
    go_ret
    exact ⟨by first | rfl | (simp; done) | (simp [*]; done), by repeat (first | exact Drawn0.refl _ | apply Drawn0.step)⟩
  · rw [if_neg c2] at H
    have c2b0 : decide (1 ≤ a0) = false := decide_eq_false c2
    clear c2
    obtain rfl := Option.some.inj H
    go_enter Tryz.func37, Tryz.ntmps37
    go_wp2
    go_ret
    exact ⟨by first | rfl | (simp; done) | (simp [*]; done), by repeat (first | exact Drawn0.refl _ | apply Drawn0.step)⟩

def almanackerref01_Left.f (a0 : Int) (a1 : Int) : Option (Int) := if a1 = 0 then (none) else (if (Int.tmod a0 a1) < 0 then (some (wrap64 ((Int.tmod a0 a1) + a1))) else (some (Int.tmod a0 a1)))
set_option maxHeartbeats 8000000 in
set_option maxRecDepth 100000 in
theorem almanackerref01_Left.calls (a0 : Int) (a1 : Int) (r : Int) (w : World) (h : almanackerref01_Left.f a0 a1 = some r) :
    Calls Tryz.prog 60 #[.int .i64 a0, .int .i64 a1] w fun e w' => e = .returned (.int .i64 r) ∧ Drawn0 w w' := by
  have H : (if a1 = 0 then (none) else (if (Int.tmod a0 a1) < 0 then (some (wrap64 ((Int.tmod a0 a1) + a1))) else (some (Int.tmod a0 a1)))) = some r := h
  clear h
  by_cases c3 : a1 = 0
  · rw [if_pos c3] at H
    exact absurd H (by simp)
  · rw [if_neg c3] at H
    have c3b0 : (a1 == 0) = false := zz27.mpr c3
    have c3b1 : (a1 != 0) = true := zz28.mpr c3
    by_cases c4 : (Int.tmod a0 a1) < 0
    · rw [if_pos c4] at H
      have c4b0 : decide ((Int.tmod a0 a1) < 0) = true := decide_eq_true c4
      clear c4
      obtain rfl := Option.some.inj H
      go_enter Tryz.func60, Tryz.ntmps60
      go_wp2
      go_ret
      exact ⟨by first | rfl | (simp; done) | (simp [*]; done), by repeat (first | exact Drawn0.refl _ | apply Drawn0.step)⟩
    · rw [if_neg c4] at H
      have c4b0 : decide ((Int.tmod a0 a1) < 0) = false := decide_eq_false c4
      clear c4
      obtain rfl := Option.some.inj H
      go_enter Tryz.func60, Tryz.ntmps60
      go_wp2
      go_ret
      exact ⟨by first | rfl | (simp; done) | (simp [*]; done), by repeat (first | exact Drawn0.refl _ | apply Drawn0.step)⟩

def almanackerref03_Is.f (a0 : Int) : Option (Bool) := (almanackerref01_Left.f (wrap64 ((wrap64 (7 * a0)) + 1)) 19).bind fun t209 => (some (decide (t209 < 7)))
set_option maxHeartbeats 8000000 in
set_option maxRecDepth 100000 in
theorem almanackerref03_Is.calls (a0 : Int) (r : Bool) (w : World) (h : almanackerref03_Is.f a0 = some r) :
  Calls Tryz.prog 23 #[.int .i64 a0] w fun e w' => e = .returned (.bool r) ∧ Drawn0 w w' := by
 have H : ((almanackerref01_Left.f (wrap64 ((wrap64 (7 * a0)) + 1)) 19).bind fun t209 => (some (decide (t209 < 7)))) = some r := h
 clear h
 replace H := zz14.mp H
 obtain ⟨t209, A20, H⟩ := H
 replace H : (some (decide (t209 < 7))) = some r := H
 have A2 := zz00 A20
 clear A20
 obtain rfl := Option.some.inj H
 go_enter Tryz.func23, Tryz.ntmps23
 go_wp2_with (first|((with_reducible refine zz23 (f:=60) rfl ?_);refine zz25 (some 6) rfl rfl Tryz.func60 (by kernel_rfl) rfl #[.int .i64 (wrap64 ((wrap64 (7 * a0)) + 1)),.int .i64 19] rfl (by (try simp only [List.map_toArray,List.map_cons,List.map_nil]);first|done|rfl|(simp only [List.length_drop,List.length_take];rfl)) ?_;(with_reducible refine (almanackerref01_Left.calls (wrap64 ((wrap64 (7 * a0)) + 1)) 19 t209 _ A2.out).mono ?_);rintro e w' ⟨rfl,⟨nd,rfl⟩⟩;refine ⟨_,rfl,?_⟩))
 go_ret
 exact ⟨by first | rfl | (simp; done) | (simp [*]; done), by repeat (first | exact Drawn0.refl _ | apply Drawn0.step)⟩

def almanackerref04_Weekday.f (a0 : Int) : Option (Int) := (almanackerref01_Left.f a0 7).bind fun t210 => (some t210)
set_option maxHeartbeats 8000000 in
set_option maxRecDepth 100000 in
theorem almanackerref04_Weekday.calls (a0 : Int) (r : Int) (w : World) (h : almanackerref04_Weekday.f a0 = some r) :
  Calls Tryz.prog 90 #[.int .i64 a0] w fun e w' => e = .returned (.int .i64 r) ∧ Drawn0 w w' := by
 have H : ((almanackerref01_Left.f a0 7).bind fun t210 => (some t210)) = some r := h
 clear h
 replace H := zz14.mp H
 obtain ⟨t210, A20, H⟩ := H
 replace H : (some t210) = some r := H
 have A2 := zz00 A20
 clear A20
 obtain rfl := Option.some.inj H
 go_enter Tryz.func90, Tryz.ntmps90
 go_wp2_with (first|((with_reducible refine zz23 (f:=60) rfl ?_);refine zz25 (some 4) rfl rfl Tryz.func60 (by kernel_rfl) rfl #[.int .i64 a0,.int .i64 7] rfl (by (try simp only [List.map_toArray,List.map_cons,List.map_nil]);first|done|rfl|(simp only [List.length_drop,List.length_take];rfl)) ?_;(with_reducible refine (almanackerref01_Left.calls a0 7 t210 _ A2.out).mono ?_);rintro e w' ⟨rfl,⟨nd,rfl⟩⟩;refine ⟨_,rfl,?_⟩))
 go_ret
 exact ⟨by first | rfl | (simp; done) | (simp [*]; done), by repeat (first | exact Drawn0.refl _ | apply Drawn0.step)⟩

def almanackerref03_Right.f (a0 : Int) : Option (Bool) := if a0 ≥ 0 then (some (decide (a0 ≤ 10001))) else (some false)
set_option maxHeartbeats 8000000 in
set_option maxRecDepth 100000 in
theorem almanackerref03_Right.calls (a0 : Int) (r : Bool) (w : World) (h : almanackerref03_Right.f a0 = some r) :
    Calls Tryz.prog 238 #[.int .i64 a0] w fun e w' => e = .returned (.bool r) ∧ Drawn0 w w' := by
  have H : (if a0 ≥ 0 then (some (decide (a0 ≤ 10001))) else (some false)) = some r := h
  clear h
  by_cases c2 : a0 ≥ 0
  · rw [if_pos c2] at H
    have c2b0 : decide (0 ≤ a0) = true := decide_eq_true c2
    clear c2
    obtain rfl := Option.some.inj H
    go_enter Tryz.func238, Tryz.ntmps238
    go_wp2
    go_ret
    exact ⟨by first | rfl | (simp; done) | (simp [*]; done), by repeat (first | exact Drawn0.refl _ | apply Drawn0.step)⟩
  · rw [if_neg c2] at H
    have c2b0 : decide (0 ≤ a0) = false := decide_eq_false c2
    clear c2
    obtain rfl := Option.some.inj H
    go_enter Tryz.func238, Tryz.ntmps238
    go_wp2
    go_ret
    exact ⟨by first | rfl | (simp; done) | (simp [*]; done), by repeat (first | exact Drawn0.refl _ | apply Drawn0.step)⟩

def almanackerref03_In.f (a0 : Int) : Option (Int × Int) := (almanackerref03_Right.f a0).bind fun t211 => (if t211 = true then ((almanackerref03_Is.f a0).bind fun t212 => (if t212 = true then (some (13, 0)) else (some (12, 0)))) else (some (0, 2)))
set_option maxHeartbeats 8000000 in
set_option maxRecDepth 100000 in
theorem almanackerref03_In.calls (a0 : Int) (r1 : Int) (r2 : Int) (w : World) (h : almanackerref03_In.f a0 = some (r1, r2)) :
  Calls Tryz.prog 196 #[.int .i64 a0] w fun e w' => e = .returned (.tuple #[.int .i64 r1, .int .i64 r2]) ∧ Drawn0 w w' := by
 have H : ((almanackerref03_Right.f a0).bind fun t211=>(if t211 = true then ((almanackerref03_Is.f a0).bind fun t212=>(if t212 = true then (some (13,0)) else (some (12,0)))) else (some (0,2)))) = some (r1,r2):=h
 clear h
 replace H := zz14.mp H
 obtain ⟨t211, A20, H⟩ := H
 replace H : (if t211 = true then ((almanackerref03_Is.f a0).bind fun t212 => (if t212 = true then (some (13, 0)) else (some (12, 0)))) else (some (0, 2))) = some (r1, r2) := H
 have A2 := zz00 A20
 clear A20
 by_cases c3 : t211 = true
 ·
  subst c3
  have H1 : ((almanackerref03_Is.f a0).bind fun t212 => (if t212 = true then (some (13, 0)) else (some (12, 0)))) = some (r1, r2) := by rw [if_pos rfl] at H; exact H
  clear H
  have H := H1
  clear H1
  replace H := zz14.mp H
  obtain ⟨t212, A40, H⟩ := H
  replace H : (if t212 = true then (some (13, 0)) else (some (12, 0))) = some (r1, r2) := H
  have A4 := zz00 A40
  clear A40
  by_cases c5 : t212 = true
  ·
   subst c5
   have H1 : (some (13, 0)) = some (r1, r2) := by rw [if_pos rfl] at H; exact H
   clear H
   have H := H1
   clear H1
   simp only [zz15, zz16] at H
   obtain ⟨rfl, rfl⟩ := H
   go_enter Tryz.func196, Tryz.ntmps196
   go_wp2_with (first|((with_reducible refine zz23 (f:=238) rfl ?_);refine zz25 (some 5) rfl rfl Tryz.func238 (by kernel_rfl) rfl #[.int .i64 a0] rfl (by (try simp only [List.map_toArray,List.map_cons,List.map_nil]);first|done|rfl|(simp only [List.length_drop,List.length_take];rfl)) ?_;(with_reducible refine (almanackerref03_Right.calls a0 true _ A2.out).mono ?_);rintro e w' ⟨rfl,⟨nd,rfl⟩⟩;refine ⟨_,rfl,?_⟩)|((with_reducible refine zz23 (f:=23) rfl ?_);refine zz25 (some 8) rfl rfl Tryz.func23 (by kernel_rfl) rfl #[.int .i64 a0] rfl (by (try simp only [List.map_toArray,List.map_cons,List.map_nil]);first|done|rfl|(simp only [List.length_drop,List.length_take];rfl)) ?_;(with_reducible refine (almanackerref03_Is.calls a0 true _ A4.out).mono ?_);rintro e w' ⟨rfl,⟨nd,rfl⟩⟩;refine ⟨_,rfl,?_⟩))
   go_ret2
   exact ⟨by first | rfl | (simp; done) | (simp [*]; done), by repeat (first | exact Drawn0.refl _ | apply Drawn0.step)⟩
  ·
   replace c5 := zz32.mpr c5
   subst c5
   have H1 : (some (12, 0)) = some (r1, r2) := by rw [if_neg (show ¬ (false = true) by decide)] at H; exact H
   clear H
   have H := H1
   clear H1
   simp only [zz15, zz16] at H
   obtain ⟨rfl, rfl⟩ := H
   go_enter Tryz.func196, Tryz.ntmps196
   go_wp2_with (first|((with_reducible refine zz23 (f:=238) rfl ?_);refine zz25 (some 5) rfl rfl Tryz.func238 (by kernel_rfl) rfl #[.int .i64 a0] rfl (by (try simp only [List.map_toArray,List.map_cons,List.map_nil]);first|done|rfl|(simp only [List.length_drop,List.length_take];rfl)) ?_;(with_reducible refine (almanackerref03_Right.calls a0 true _ A2.out).mono ?_);rintro e w' ⟨rfl,⟨nd,rfl⟩⟩;refine ⟨_,rfl,?_⟩)|((with_reducible refine zz23 (f:=23) rfl ?_);refine zz25 (some 8) rfl rfl Tryz.func23 (by kernel_rfl) rfl #[.int .i64 a0] rfl (by (try simp only [List.map_toArray,List.map_cons,List.map_nil]);first|done|rfl|(simp only [List.length_drop,List.length_take];rfl)) ?_;(with_reducible refine (almanackerref03_Is.calls a0 false _ A4.out).mono ?_);rintro e w' ⟨rfl,⟨nd,rfl⟩⟩;refine ⟨_,rfl,?_⟩))
   go_ret2
   exact ⟨by first | rfl | (simp; done) | (simp [*]; done), by repeat (first | exact Drawn0.refl _ | apply Drawn0.step)⟩
 ·
  replace c3 := zz32.mpr c3
  subst c3
  have H1 : (some (0, 2)) = some (r1, r2) := by rw [if_neg (show ¬ (false = true) by decide)] at H; exact H
  clear H
  have H := H1
  clear H1
  simp only [zz15, zz16] at H
  obtain ⟨rfl, rfl⟩ := H
  go_enter Tryz.func196, Tryz.ntmps196
  go_wp2_with (first|((with_reducible refine zz23 (f:=238) rfl ?_);refine zz25 (some 5) rfl rfl Tryz.func238 (by kernel_rfl) rfl #[.int .i64 a0] rfl (by (try simp only [List.map_toArray,List.map_cons,List.map_nil]);first|done|rfl|(simp only [List.length_drop,List.length_take];rfl)) ?_;(with_reducible refine (almanackerref03_Right.calls a0 false _ A2.out).mono ?_);rintro e w' ⟨rfl,⟨nd,rfl⟩⟩;refine ⟨_,rfl,?_⟩))
  go_ret2
  exact ⟨by first | rfl | (simp; done) | (simp [*]; done), by repeat (first | exact Drawn0.refl _ | apply Drawn0.step)⟩

def almanackerref01_Down.f (a0 : Int) (a1 : Int) : Option (Int) := if a1 = 0 then (none) else (if (Int.tmod a0 a1) < 0 then (some (wrap64 ((wrap64 (Int.tdiv a0 a1)) - 1))) else (some (wrap64 (Int.tdiv a0 a1))))
set_option maxHeartbeats 8000000 in
set_option maxRecDepth 100000 in
theorem almanackerref01_Down.calls (a0 : Int) (a1 : Int) (r : Int) (w : World) (h : almanackerref01_Down.f a0 a1 = some r) :
    Calls Tryz.prog 165 #[.int .i64 a0, .int .i64 a1] w fun e w' => e = .returned (.int .i64 r) ∧ Drawn0 w w' := by
  have H : (if a1 = 0 then (none) else (if (Int.tmod a0 a1) < 0 then (some (wrap64 ((wrap64 (Int.tdiv a0 a1)) - 1))) else (some (wrap64 (Int.tdiv a0 a1))))) = some r := h
  clear h
  by_cases c3 : a1 = 0
  · rw [if_pos c3] at H
    exact absurd H (by simp)
  · rw [if_neg c3] at H
    have c3b0 : (a1 == 0) = false := zz27.mpr c3
    have c3b1 : (a1 != 0) = true := zz28.mpr c3
    by_cases c4 : (Int.tmod a0 a1) < 0
    · rw [if_pos c4] at H
      have c4b0 : decide ((Int.tmod a0 a1) < 0) = true := decide_eq_true c4
      clear c4
      obtain rfl := Option.some.inj H
      go_enter Tryz.func165, Tryz.ntmps165
      go_wp2
      go_ret
      exact ⟨by first | rfl | (simp; done) | (simp [*]; done), by repeat (first | exact Drawn0.refl _ | apply Drawn0.step)⟩
    · rw [if_neg c4] at H
      have c4b0 : decide ((Int.tmod a0 a1) < 0) = false := decide_eq_false c4
      clear c4
      obtain rfl := Option.some.inj H
      go_enter Tryz.func165, Tryz.ntmps165
      go_wp2
      go_ret
      exact ⟨by first | rfl | (simp; done) | (simp [*]; done), by repeat (first | exact Drawn0.refl _ | apply Drawn0.step)⟩

def almanackerref03_Before.f (a0 : Int) : Option (Int × Int) := (almanackerref03_Right.f a0).bind fun t213 => (if t213 = true then ((almanackerref01_Down.f (wrap64 ((wrap64 (235 * a0)) - 234)) 19).bind fun t214 => (some (t214, 0))) else (some (0, 2)))
set_option maxHeartbeats 8000000 in
set_option maxRecDepth 100000 in
theorem almanackerref03_Before.calls (a0 : Int) (r1 : Int) (r2 : Int) (w : World) (h : almanackerref03_Before.f a0 = some (r1, r2)) :
  Calls Tryz.prog 197 #[.int .i64 a0] w fun e w' => e = .returned (.tuple #[.int .i64 r1, .int .i64 r2]) ∧ Drawn0 w w' := by
 have H : ((almanackerref03_Right.f a0).bind fun t213=>(if t213 = true then ((almanackerref01_Down.f (wrap64 ((wrap64 (235 * a0)) - 234)) 19).bind fun t214=>(some (t214,0))) else (some (0,2)))) = some (r1,r2):=h
 clear h
 replace H := zz14.mp H
 obtain ⟨t213, A20, H⟩ := H
 replace H : (if t213 = true then ((almanackerref01_Down.f (wrap64 ((wrap64 (235 * a0)) - 234)) 19).bind fun t214 => (some (t214, 0))) else (some (0, 2))) = some (r1, r2) := H
 have A2 := zz00 A20
 clear A20
 by_cases c3 : t213 = true
 ·
  subst c3
  have H1 : ((almanackerref01_Down.f (wrap64 ((wrap64 (235 * a0)) - 234)) 19).bind fun t214 => (some (t214, 0))) = some (r1, r2) := by rw [if_pos rfl] at H; exact H
  clear H
  have H := H1
  clear H1
  replace H := zz14.mp H
  obtain ⟨t214, A40, H⟩ := H
  replace H : (some (t214, 0)) = some (r1, r2) := H
  have A4 := zz00 A40
  clear A40
  simp only [zz15, zz16] at H
  obtain ⟨rfl, rfl⟩ := H
  go_enter Tryz.func197, Tryz.ntmps197
  go_wp2_with (first|((with_reducible refine zz23 (f:=238) rfl ?_);refine zz25 (some 5) rfl rfl Tryz.func238 (by kernel_rfl) rfl #[.int .i64 a0] rfl (by (try simp only [List.map_toArray,List.map_cons,List.map_nil]);first|done|rfl|(simp only [List.length_drop,List.length_take];rfl)) ?_;(with_reducible refine (almanackerref03_Right.calls a0 true _ A2.out).mono ?_);rintro e w' ⟨rfl,⟨nd,rfl⟩⟩;refine ⟨_,rfl,?_⟩)|((with_reducible refine zz23 (f:=165) rfl ?_);refine zz25 (some 10) rfl rfl Tryz.func165 (by kernel_rfl) rfl #[.int .i64 (wrap64 ((wrap64 (235 * a0)) - 234)),.int .i64 19] rfl (by (try simp only [List.map_toArray,List.map_cons,List.map_nil]);first|done|rfl|(simp only [List.length_drop,List.length_take];rfl)) ?_;(with_reducible refine (almanackerref01_Down.calls (wrap64 ((wrap64 (235 * a0)) - 234)) 19 t214 _ A4.out).mono ?_);rintro e w' ⟨rfl,⟨nd,rfl⟩⟩;refine ⟨_,rfl,?_⟩))
  go_ret2
  exact ⟨by first | rfl | (simp; done) | (simp [*]; done), by repeat (first | exact Drawn0.refl _ | apply Drawn0.step)⟩
 ·
  replace c3 := zz32.mpr c3
  subst c3
  have H1 : (some (0, 2)) = some (r1, r2) := by rw [if_neg (show ¬ (false = true) by decide)] at H; exact H
  clear H
  have H := H1
  clear H1
  simp only [zz15, zz16] at H
  obtain ⟨rfl, rfl⟩ := H
  go_enter Tryz.func197, Tryz.ntmps197
  go_wp2_with (first|((with_reducible refine zz23 (f:=238) rfl ?_);refine zz25 (some 5) rfl rfl Tryz.func238 (by kernel_rfl) rfl #[.int .i64 a0] rfl (by (try simp only [List.map_toArray,List.map_cons,List.map_nil]);first|done|rfl|(simp only [List.length_drop,List.length_take];rfl)) ?_;(with_reducible refine (almanackerref03_Right.calls a0 false _ A2.out).mono ?_);rintro e w' ⟨rfl,⟨nd,rfl⟩⟩;refine ⟨_,rfl,?_⟩))
  go_ret2
  exact ⟨by first | rfl | (simp; done) | (simp [*]; done), by repeat (first | exact Drawn0.refl _ | apply Drawn0.step)⟩

def almanackerref02_Split.f (a0 : Int) : Option (Int × Int) := (almanackerref01_Down.f a0 25920).bind fun t216 => ((almanackerref01_Left.f a0 25920).bind fun t217 => (some (t216, t217)))
set_option maxHeartbeats 8000000 in
set_option maxRecDepth 100000 in
theorem almanackerref02_Split.calls (a0 : Int) (r1 : Int) (r2 : Int) (w : World) (h : almanackerref02_Split.f a0 = some (r1, r2)) :
  Calls Tryz.prog 239 #[.int .i64 a0] w fun e w' => e = .returned (.agg #[.int .i64 r1, .int .i64 r2]) ∧ Below w.heap.size w w' := by
 have hu147 := Tryz.underlying147
 have HB := zz00 (Below.refl w.heap.size w)
 have H : ((almanackerref01_Down.f a0 25920).bind fun t216 => ((almanackerref01_Left.f a0 25920).bind fun t217 => (some (t216, t217)))) = some (r1, r2) := h
 clear h
 replace H := zz14.mp H
 obtain ⟨t216, A20, H⟩ := H
 replace H : ((almanackerref01_Left.f a0 25920).bind fun t217 => (some (t216, t217))) = some (r1, r2) := H
 have A2 := zz00 A20
 clear A20
 replace H := zz14.mp H
 obtain ⟨t217, A30, H⟩ := H
 replace H : (some (t216, t217)) = some (r1, r2) := H
 have A3 := zz00 A30
 clear A30
 simp only [zz15, zz16] at H
 obtain ⟨rfl, rfl⟩ := H
 go_enter Tryz.func239, Tryz.ntmps239
 go_wp2_with (first|((with_reducible refine zz24 (N:=2) rfl ?_);refine zz30 ?hg (N:=2) ?hd (cs:=#[.int .i64 0,.int .i64 0]) (t:=147) ?hr ?_;(case hd=>rfl);(case hg=>rfl);(case hr=>first|(go_simp;done)|(go_simp;rfl));intro gb215 hg w4 hbox hb;have n0_:=zz00 (zz21 (by repeat (first|(with_reducible first|exact HB.out|apply zz03|apply zz01|apply zz02)|exact HB.out)) hb);have n1_:=zz00 (hbox);have n2_:=zz00 ((by rw [hg];exact (zz22 (by repeat (first|(with_reducible first|exact HB.out|apply zz03|apply zz01|apply zz02)|exact HB.out))) : w.heap.size ≤ gb215));have n3_:=zz00 ((by rw [hg];exact (zz22 (by repeat (first|(with_reducible first|exact HB.out|apply zz03|apply zz01|apply zz02)|exact HB.out))) : w.heap.size ≤ gb215));clear HB;have HB:=n0_;have BK215:=n1_;have GW215:=n2_;have GE215:=n3_;clear n0_ n1_ n2_ n3_;clear hb hbox hg)|((with_reducible refine zz23 (f:=165) rfl ?_);refine zz25 (some 4) rfl rfl Tryz.func165 (by kernel_rfl) rfl #[.int .i64 a0,.int .i64 25920] rfl (by (try simp only [List.map_toArray,List.map_cons,List.map_nil]);first|done|rfl|(simp only [List.length_drop,List.length_take];rfl)) ?_;(with_reducible refine (almanackerref01_Down.calls a0 25920 t216 _ A2.out).mono ?_);rintro e w' ⟨rfl,⟨nd,rfl⟩⟩;refine ⟨_,rfl,?_⟩;(try (rw [drewN_self w4];generalize hq_ : World.drewN w4 _ = w4;have n0_ : Aside0 (w4.heap[gb215]? = some (.cells #[.int .i64 0,.int .i64 0] 147 (0,0))):=⟨by rw [← hq_];exact (by (with_reducible repeat (first|refine zz07 ?_ _|refine zz09 ?_|refine zz08 ?_ _));exact BK215.out)⟩;have n1_ : Aside0 (Below w.heap.size w w4):=⟨by rw [← hq_];exact (by repeat (first|(with_reducible first|exact HB.out|apply zz03|apply zz01|apply zz02|refine zz10 ?_ GE215.out)|exact HB.out))⟩;clear BK215 HB hq_;have BK215:=n0_;have HB:=n1_;clear n0_ n1_)))|((with_reducible refine zz23 (f:=60) rfl ?_);refine zz25 (some 6) rfl rfl Tryz.func60 (by kernel_rfl) rfl #[.int .i64 a0,.int .i64 25920] rfl (by (try simp only [List.map_toArray,List.map_cons,List.map_nil]);first|done|rfl|(simp only [List.length_drop,List.length_take];rfl)) ?_;(with_reducible refine (almanackerref01_Left.calls a0 25920 t217 _ A3.out).mono ?_);rintro e w' ⟨rfl,⟨nd,rfl⟩⟩;refine ⟨_,rfl,?_⟩;(try (rw [drewN_self w4];generalize hq_ : World.drewN w4 _ = w4;have n0_ : Aside0 (w4.heap[gb215]? = some (.cells #[.int .i64 0,.int .i64 0] 147 (0,0))):=⟨by rw [← hq_];exact (by (with_reducible repeat (first|refine zz07 ?_ _|refine zz09 ?_|refine zz08 ?_ _));exact BK215.out)⟩;have n1_ : Aside0 (Below w.heap.size w w4):=⟨by rw [← hq_];exact (by repeat (first|(with_reducible first|exact HB.out|apply zz03|apply zz01|apply zz02|refine zz10 ?_ GE215.out)|exact HB.out))⟩;clear BK215 HB hq_;have BK215:=n0_;have HB:=n1_;clear n0_ n1_));have hcz5_0 : w4.cell? ⟨gb215,0,none⟩ = some (.int .i64 0):=(zz18 BK215.out 0).trans rfl;have hcz5_1 : w4.cell? ⟨gb215,1,none⟩ = some (.int .i64 0):=(zz18 BK215.out 1).trans rfl;have hfz5_0:=zz17 BK215.out 0;have hfz5_1:=zz17 BK215.out 1))
 refine bodyPost_ret (results_cell_row rfl _ _ gb215 147 #[.int .i64 t216,.int .i64 t217] (0,0) _ rfl (by (with_reducible repeat (first|refine zz07 ?_ _|refine zz09 ?_|refine zz08 ?_ _));refine zz35 (cs:=#[.int .i64 t216,.int .i64 0]) ?_ 1 _ rfl;(with_reducible repeat (first|refine zz07 ?_ _|refine zz09 ?_|refine zz08 ?_ _));refine zz35 (cs:=#[.int .i64 0,.int .i64 0]) ?_ 0 _ rfl;(with_reducible repeat (first|refine zz07 ?_ _|refine zz09 ?_|refine zz08 ?_ _));exact BK215.out) Tryz.underlying147 rfl (by kernel_rfl)) rfl ?_
 exact ⟨by first|rfl|(simp [errW_none,errW_some] <;> rfl)|(simp [*,errW_none,errW_some] <;> rfl),by repeat (first|(with_reducible first|exact HB.out|apply zz03|apply zz01|apply zz02|refine zz10 ?_ GE215.out)|exact HB.out)⟩

def almanackerref04_Moon.f (a0 : Int) : Option (Int × Int × Int) := if a0 < (-200000) then (some (0, 0, 2)) else (if a0 > 200000 then (some (0, 0, 2)) else ((almanackerref02_Split.f (wrap64 (5604 + (wrap64 (765433 * a0))))).bind fun bt219 => (some (wrap64 (bt219.1 - 1373427), bt219.2, 0))))
set_option maxHeartbeats 8000000 in
set_option maxRecDepth 100000 in
theorem almanackerref04_Moon.calls (a0 : Int) (r1 : Int) (r2 : Int) (r3 : Int) (w : World) (h : almanackerref04_Moon.f a0 = some (r1, r2, r3)) :
  Calls Tryz.prog 198 #[.int .i64 a0] w fun e w' => e = .returned (.tuple #[.agg #[.int .i64 r1, .int .i64 r2], .int .i64 r3]) ∧ Below w.heap.size w w' := by
 have hu147 := Tryz.underlying147
 have HB := zz00 (Below.refl w.heap.size w)
 have H : (if a0 < (-200000) then (some (0,0,2)) else (if a0 > 200000 then (some (0,0,2)) else ((almanackerref02_Split.f (wrap64 (5604 + (wrap64 (765433 * a0))))).bind fun bt219=>(some (wrap64 (bt219.1 - 1373427),bt219.2,0))))) = some (r1,r2,r3):=h
 clear h
 by_cases c2 : a0 < (-200000)
 ·
  rw [if_pos c2] at H
  have c2b0 : decide (a0 < (-200000)) = true := decide_eq_true c2
  clear c2
  simp only [zz15, zz16] at H
  obtain ⟨rfl, rfl, rfl⟩ := H
  go_enter Tryz.func198, Tryz.ntmps198
  go_wp2_with (first|((with_reducible refine zz24 (N:=2) rfl ?_);refine zz30 ?hg (N:=2) ?hd (cs:=#[.int .i64 0,.int .i64 0]) (t:=147) ?hr ?_;(case hd=>rfl);(case hg=>rfl);(case hr=>first|(go_simp;done)|(go_simp;rfl));intro gb218 hg w3 hbox hb;have n0_:=zz00 (zz21 (by repeat (first|(with_reducible first|exact HB.out|apply zz03|apply zz01|apply zz02)|exact HB.out)) hb);have n1_:=zz00 (hbox);have n2_:=zz00 ((by rw [hg];exact (zz22 (by repeat (first|(with_reducible first|exact HB.out|apply zz03|apply zz01|apply zz02)|exact HB.out))) : w.heap.size ≤ gb218));have n3_:=zz00 ((by rw [hg];exact (zz22 (by repeat (first|(with_reducible first|exact HB.out|apply zz03|apply zz01|apply zz02)|exact HB.out))) : w.heap.size ≤ gb218));clear HB;have HB:=n0_;have BK218:=n1_;have GW218:=n2_;have GE218:=n3_;clear n0_ n1_ n2_ n3_;clear hb hbox hg;have hcz4_0 : w3.cell? ⟨gb218,0,none⟩ = some (.int .i64 0):=(zz18 BK218.out 0).trans rfl;have hcz4_1 : w3.cell? ⟨gb218,1,none⟩ = some (.int .i64 0):=(zz18 BK218.out 1).trans rfl;have hfz4_0:=zz17 BK218.out 0;have hfz4_1:=zz17 BK218.out 1))
  refine bodyPost_ret (results_ct rfl _ _ gb218 147 #[.int .i64 0,.int .i64 0] (0,0) _ rfl (by (with_reducible repeat (first|refine zz07 ?_ _|refine zz09 ?_|refine zz08 ?_ _));refine zz35 (cs:=#[.int .i64 0,.int .i64 0]) ?_ 1 _ rfl;(with_reducible repeat (first|refine zz07 ?_ _|refine zz09 ?_|refine zz08 ?_ _));refine zz35 (cs:=#[.int .i64 0,.int .i64 0]) ?_ 0 _ rfl;(with_reducible repeat (first|refine zz07 ?_ _|refine zz09 ?_|refine zz08 ?_ _));exact BK218.out) Tryz.underlying147 rfl (by kernel_rfl)) rfl ?_
  exact ⟨by first|rfl|(simp [errW_none,errW_some] <;> rfl)|(simp [*,errW_none,errW_some] <;> rfl),by repeat (first|(with_reducible first|exact HB.out|apply zz03|apply zz01|apply zz02|refine zz10 ?_ GE218.out)|exact HB.out)⟩
 ·
  rw [if_neg c2] at H
  have c2b0 : decide (a0 < (-200000)) = false := decide_eq_false c2
  clear c2
  by_cases c5 : a0 > 200000
  ·
   rw [if_pos c5] at H
   have c5b0 : decide (200000 < a0) = true := decide_eq_true c5
   clear c5
   simp only [zz15, zz16] at H
   obtain ⟨rfl, rfl, rfl⟩ := H
   go_enter Tryz.func198, Tryz.ntmps198
   go_wp2_with (first|((with_reducible refine zz24 (N:=2) rfl ?_);refine zz30 ?hg (N:=2) ?hd (cs:=#[.int .i64 0,.int .i64 0]) (t:=147) ?hr ?_;(case hd=>rfl);(case hg=>rfl);(case hr=>first|(go_simp;done)|(go_simp;rfl));intro gb218 hg w6 hbox hb;have n0_:=zz00 (zz21 (by repeat (first|(with_reducible first|exact HB.out|apply zz03|apply zz01|apply zz02)|exact HB.out)) hb);have n1_:=zz00 (hbox);have n2_:=zz00 ((by rw [hg];exact (zz22 (by repeat (first|(with_reducible first|exact HB.out|apply zz03|apply zz01|apply zz02)|exact HB.out))) : w.heap.size ≤ gb218));have n3_:=zz00 ((by rw [hg];exact (zz22 (by repeat (first|(with_reducible first|exact HB.out|apply zz03|apply zz01|apply zz02)|exact HB.out))) : w.heap.size ≤ gb218));clear HB;have HB:=n0_;have BK218:=n1_;have GW218:=n2_;have GE218:=n3_;clear n0_ n1_ n2_ n3_;clear hb hbox hg;have hcz7_0 : w6.cell? ⟨gb218,0,none⟩ = some (.int .i64 0):=(zz18 BK218.out 0).trans rfl;have hcz7_1 : w6.cell? ⟨gb218,1,none⟩ = some (.int .i64 0):=(zz18 BK218.out 1).trans rfl;have hfz7_0:=zz17 BK218.out 0;have hfz7_1:=zz17 BK218.out 1))
   refine bodyPost_ret (results_ct rfl _ _ gb218 147 #[.int .i64 0,.int .i64 0] (0,0) _ rfl (by (with_reducible repeat (first|refine zz07 ?_ _|refine zz09 ?_|refine zz08 ?_ _));refine zz35 (cs:=#[.int .i64 0,.int .i64 0]) ?_ 1 _ rfl;(with_reducible repeat (first|refine zz07 ?_ _|refine zz09 ?_|refine zz08 ?_ _));refine zz35 (cs:=#[.int .i64 0,.int .i64 0]) ?_ 0 _ rfl;(with_reducible repeat (first|refine zz07 ?_ _|refine zz09 ?_|refine zz08 ?_ _));exact BK218.out) Tryz.underlying147 rfl (by kernel_rfl)) rfl ?_
   exact ⟨by first|rfl|(simp [errW_none,errW_some] <;> rfl)|(simp [*,errW_none,errW_some] <;> rfl),by repeat (first|(with_reducible first|exact HB.out|apply zz03|apply zz01|apply zz02|refine zz10 ?_ GE218.out)|exact HB.out)⟩
  ·
   rw [if_neg c5] at H
   have c5b0 : decide (200000 < a0) = false := decide_eq_false c5
   clear c5
   replace H := zz14.mp H
   obtain ⟨⟨t219, t220⟩, A80, H⟩ := H
   replace H : (some (wrap64 (t219 - 1373427), t220, 0)) = some (r1, r2, r3) := H
   have A8 := zz00 A80
   clear A80
   simp only [zz15, zz16] at H
   obtain ⟨rfl, rfl, rfl⟩ := H
   go_enter Tryz.func198, Tryz.ntmps198
   go_wp2_with (first|((with_reducible refine zz24 (N:=2) rfl ?_);refine zz30 ?hg (N:=2) ?hd (cs:=#[.int .i64 0,.int .i64 0]) (t:=147) ?hr ?_;(case hd=>rfl);(case hg=>rfl);(case hr=>first|(go_simp;done)|(go_simp;rfl));intro gb218 hg w9 hbox hb;have n0_:=zz00 (zz21 (by repeat (first|(with_reducible first|exact HB.out|apply zz03|apply zz01|apply zz02)|exact HB.out)) hb);have n1_:=zz00 (hbox);have n2_:=zz00 ((by rw [hg];exact (zz22 (by repeat (first|(with_reducible first|exact HB.out|apply zz03|apply zz01|apply zz02)|exact HB.out))) : w.heap.size ≤ gb218));have n3_:=zz00 ((by rw [hg];exact (zz22 (by repeat (first|(with_reducible first|exact HB.out|apply zz03|apply zz01|apply zz02)|exact HB.out))) : w.heap.size ≤ gb218));clear HB;have HB:=n0_;have BK218:=n1_;have GW218:=n2_;have GE218:=n3_;clear n0_ n1_ n2_ n3_;clear hb hbox hg)|((with_reducible refine zz23 (f:=239) rfl ?_);refine zz25 (some 15) rfl rfl Tryz.func239 (by kernel_rfl) rfl #[.int .i64 (wrap64 (5604 + (wrap64 (765433 * a0))))] rfl (by (try simp only [List.map_toArray,List.map_cons,List.map_nil]);first|done|rfl|(simp only [List.length_drop,List.length_take];rfl)) ?_;(with_reducible refine (almanackerref02_Split.calls (wrap64 (5604 + (wrap64 (765433 * a0)))) t219 t220 _ A8.out).mono ?_);rintro e w10 ⟨rfl,hb⟩;refine ⟨_,rfl,?_⟩;have n0_:=zz00 (zz34 (g:=gb218) (o:=.cells #[.int .i64 0,.int .i64 0] 147 (0,0)) (by (with_reducible repeat (first|refine zz07 ?_ _|refine zz09 ?_|refine zz08 ?_ _));exact BK218.out) hb);have n1_:=zz00 (zz21 (by repeat (first|(with_reducible first|exact HB.out|apply zz03|apply zz01|apply zz02|refine zz10 ?_ GE218.out)|exact HB.out)) hb);clear BK218;clear HB;have BK218:=n0_;have HB:=n1_;clear n0_ n1_;(try clear hb);(try clear hb2);(try clear hk);(try clear hi))|((with_reducible refine zz24 (N:=4) rfl ?_);refine zz30 ?hg (N:=4) ?hd (cs:=#[.int .i64 0,.int .i64 0]) (t:=147) ?hr ?_;(case hd=>rfl);(case hg=>rfl);(case hr=>first|(go_simp;done)|(go_simp;rfl));intro gb221 hg w11 hbox hb;have n0_:=zz00 (zz34 (g:=gb218) (o:=.cells #[.int .i64 0,.int .i64 0] 147 (0,0)) (by (with_reducible repeat (first|refine zz07 ?_ _|refine zz09 ?_|refine zz08 ?_ _));exact BK218.out) hb);have n1_:=zz00 (zz21 (by repeat (first|(with_reducible first|exact HB.out|apply zz03|apply zz01|apply zz02|refine zz10 ?_ GE218.out)|exact HB.out)) hb);have n2_:=zz00 (hbox);have n3_:=zz00 ((by rw [hg];exact (zz22 (by repeat (first|(with_reducible first|exact HB.out|apply zz03|apply zz01|apply zz02|refine zz10 ?_ GE218.out)|exact HB.out))) : w.heap.size ≤ gb221));have n4_:=zz00 ((by rw [hg];exact (zz22 (by repeat (first|(with_reducible first|exact HB.out|apply zz03|apply zz01|apply zz02|refine zz10 ?_ GE218.out)|exact HB.out))) : w.heap.size ≤ gb221));have n5_:=zz00 ((by rw [hg];exact Nat.ne_of_lt (blk_lt (g:=gb218) (o:=.cells #[.int .i64 0,.int .i64 0] 147 (0,0)) (by (with_reducible repeat (first|refine zz07 ?_ _|refine zz09 ?_|refine zz08 ?_ _));exact BK218.out)) : gb218 ≠ gb221));have n6_:=zz00 ((by rw [hg];exact Nat.ne_of_gt (blk_lt (g:=gb218) (o:=.cells #[.int .i64 0,.int .i64 0] 147 (0,0)) (by (with_reducible repeat (first|refine zz07 ?_ _|refine zz09 ?_|refine zz08 ?_ _));exact BK218.out)) : gb221 ≠ gb218));clear BK218;clear HB;have BK218:=n0_;have HB:=n1_;have BK221:=n2_;have GW221:=n3_;have GE221:=n4_;have NB218_221:=n5_;have NB221_218:=n6_;clear n0_ n1_ n2_ n3_ n4_ n5_ n6_;clear hb hbox hg;have hnb12:=NB221_218.out;have hnc12:=NB218_221.out;have hcz13_0 : w11.cell? ⟨gb221,0,none⟩ = some (.int .i64 0):=(zz18 BK221.out 0).trans rfl;have hcz13_1 : w11.cell? ⟨gb221,1,none⟩ = some (.int .i64 0):=(zz18 BK221.out 1).trans rfl;have hfz13_0:=zz17 BK221.out 0;have hfz13_1:=zz17 BK221.out 1;have hcz14_0 : w11.cell? ⟨gb218,0,none⟩ = some (.int .i64 0):=(zz18 BK218.out 0).trans rfl;have hcz14_1 : w11.cell? ⟨gb218,1,none⟩ = some (.int .i64 0):=(zz18 BK218.out 1).trans rfl;have hfz14_0:=zz17 BK218.out 0;have hfz14_1:=zz17 BK218.out 1))
   refine bodyPost_ret (results_ct rfl _ _ gb218 147 #[.int .i64 (wrap64 (t219 - 1373427)),.int .i64 t220] (0,0) _ rfl (by (with_reducible repeat (first|refine zz07 ?_ _|refine zz09 ?_|refine zz08 ?_ _));refine zz35 (cs:=#[.int .i64 (wrap64 (t219 - 1373427)),.int .i64 0]) ?_ 1 _ rfl;(with_reducible repeat (first|refine zz07 ?_ _|refine zz09 ?_|refine zz08 ?_ _));refine zz35 (cs:=#[.int .i64 0,.int .i64 0]) ?_ 0 _ rfl;(with_reducible repeat (first|refine zz07 ?_ _|refine zz09 ?_|refine zz08 ?_ _));refine zz33 ?_ NB218_221.out _;(with_reducible repeat (first|refine zz07 ?_ _|refine zz09 ?_|refine zz08 ?_ _));refine zz33 ?_ NB218_221.out _;(with_reducible repeat (first|refine zz07 ?_ _|refine zz09 ?_|refine zz08 ?_ _));exact BK218.out) Tryz.underlying147 rfl (by kernel_rfl)) rfl ?_
   exact ⟨by first|rfl|(simp [errW_none,errW_some] <;> rfl)|(simp [*,errW_none,errW_some] <;> rfl),by repeat (first|(with_reducible first|exact HB.out|apply zz03|apply zz01|apply zz02|refine zz10 ?_ GE218.out|refine zz10 ?_ GE221.out)|exact HB.out)⟩

end Go.Proofs.YtflpddhoiafhcaaGreatDoor.S
end

section
-- Written by wip/hprint.py of this repo (holes typed by hand, all else by a program) over the seat YtflpddhoiafhcaaGreatDoor.
namespace Go.Proofs.YtflpddhoiafhcaaGreatDoor.S
open Go.Proofs.YtflpddhoiafhcaaGreatDoor.H
open Go.RowKit Go.Proofs.YtflpddhoiafhcaaGreatDoorW.PrintWords Go.Proofs.YtflpddhoiafhcaaGreatDoorW.PrintLast Go.Proofs.YtflpddhoiafhcaaGreatDoorW.PrintMore
attribute [local go_sem] max2_int min2_int max_two min_two max_three min_three max_four min_four   -- for this text's walks alone
set_option linter.unusedVariables false
set_option linter.unusedSimpArgs false

def almanackerref04_Of.j0 : Nat → Int → Int → Bool → Option (Int × Int × Int)
  | 0, _, _, _ => none
  | k + 1, x0, x1, x25 => if x25 = true then (some (0, 0, 3)) else ((almanackerref03_Before.f x0).bind fun bt225 => ((almanackerref04_Moon.f (wrap64 ((wrap64 (bt225.1 + x1)) - 1))).bind fun bt227 => (some (bt227.1, bt227.2.1, bt227.2.2))))
def almanackerref04_Of.f (k : Nat) (a0 : Int) (a1 : Int) : Option (Int × Int × Int) := (almanackerref03_In.f a0).bind fun bt223 => (if bt223.2 = 0 then (if a1 < 1 then (almanackerref04_Of.j0 k a0 a1 true) else (almanackerref04_Of.j0 k a0 a1 (decide (a1 > bt223.1)))) else (some (0, 0, bt223.2)))
set_option maxHeartbeats 8000000 in
set_option maxRecDepth 100000 in
theorem almanackerref04_Of.calls (k : Nat) (a0 : Int) (a1 : Int) (r1 : Int) (r2 : Int) (r3 : Int) (w : World) (h : almanackerref04_Of.f k a0 a1 = some (r1, r2, r3)) :
  Calls Tryz.prog 146 #[.int .i64 a0, .int .i64 a1] w fun e w' => e = .returned (.tuple #[.agg #[.int .i64 r1, .int .i64 r2], .int .i64 r3]) ∧ Below w.heap.size w w' := by
 have hu147 := Tryz.underlying147
 have HB := zz00 (Below.refl w.heap.size w)
 have H : ((almanackerref03_In.f a0).bind fun bt223=>(if bt223.2 = 0 then (if a1 < 1 then (almanackerref04_Of.j0 k a0 a1 true) else (almanackerref04_Of.j0 k a0 a1 (decide (a1 > bt223.1)))) else (some (0,0,bt223.2)))) = some (r1,r2,r3):=h
 clear h
 replace H := zz14.mp H
 obtain ⟨⟨t223, t224⟩, A30, H⟩ := H
 replace H : (if t224 = 0 then (if a1 < 1 then (almanackerref04_Of.j0 k a0 a1 true) else (almanackerref04_Of.j0 k a0 a1 (decide (a1 > t223)))) else (some (0, 0, t224))) = some (r1, r2, r3) := H
 have A3 := zz00 A30
 clear A30
 by_cases c4 : t224 = 0
 ·
  rw [if_pos c4] at H
  have c4b0 : (t224 == 0) = true := zz29.mpr c4
  have c4b1 : (t224 != 0) = false := zz26.mpr c4
  clear c4
  have HC5 := zz00 H
  clear H
  go_enter Tryz.func146, Tryz.ntmps146
  go_upto_region 4 with (first|((with_reducible refine zz24 (N:=4) rfl ?_);refine zz30 ?hg (N:=4) ?hd (cs:=#[.int .i64 0,.int .i64 0]) (t:=147) ?hr ?_;(case hd=>rfl);(case hg=>rfl);(case hr=>first|(go_simp;done)|(go_simp;rfl));intro gb222 hg w6 hbox hb;have n0_:=zz00 (zz21 (by repeat (first|(with_reducible first|exact HB.out|apply zz03|apply zz01|apply zz02)|exact HB.out)) hb);have n1_:=zz00 (hbox);have n2_:=zz00 ((by rw [hg];exact (zz22 (by repeat (first|(with_reducible first|exact HB.out|apply zz03|apply zz01|apply zz02)|exact HB.out))) : w.heap.size ≤ gb222));have n3_:=zz00 ((by rw [hg];exact (zz22 (by repeat (first|(with_reducible first|exact HB.out|apply zz03|apply zz01|apply zz02)|exact HB.out))) : w.heap.size ≤ gb222));clear HB;have HB:=n0_;have BK222:=n1_;have GW222:=n2_;have GE222:=n3_;clear n0_ n1_ n2_ n3_;clear hb hbox hg)|((with_reducible refine zz23 (f:=196) rfl ?_);refine zz25 (some 12) rfl rfl Tryz.func196 (by kernel_rfl) rfl #[.int .i64 a0] rfl (by (try simp only [List.map_toArray,List.map_cons,List.map_nil]);first|done|rfl|(simp only [List.length_drop,List.length_take];rfl)) ?_;(with_reducible refine (almanackerref03_In.calls a0 t223 t224 _ A3.out).mono ?_);rintro e w' ⟨rfl,⟨nd,rfl⟩⟩;refine ⟨_,rfl,?_⟩))
  (try simp only [Act.put, zz11, zz12, zz13])
  go_cut [25] (fun v25 wc=>∃ (kq : Nat) (x25_4 : Bool),v25 = .bool x25_4 ∧ Aside0 (almanackerref04_Of.j0 kq a0 a1 x25_4 = some (r1,r2,r3)) ∧ Aside0 (kq ≤ k) ∧ Aside0 (wc.heap[gb222]? = some (.cells #[.int .i64 0,.int .i64 0] 147 (0,0))) ∧ Aside0 (Below w.heap.size w wc))
  case first =>
   have H := HC5.out
   clear HC5
   by_cases c7 : a1 < 1
   ·
    rw [if_pos c7] at H
    have c7b0 : decide (a1 < 1) = true := decide_eq_true c7
    clear c7
    (first | rw [c7b0] | (simp only [i64_w, i32_w]; rw [c7b0]) | skip)
    have H' := zz00 H
    clear H
    go_wp2
    go_meet
    case rel=>exact ⟨_,(true),(by first|rfl|(simp;done)|(simp [*];done)),H',⟨by first|omega|exact Nat.le_refl _⟩,⟨by (with_reducible repeat (first|refine zz07 ?_ _|refine zz09 ?_|refine zz08 ?_ _));exact BK222.out⟩,⟨by repeat (first|(with_reducible first|exact HB.out|apply zz03|apply zz01|apply zz02|refine zz10 ?_ GE222.out)|exact HB.out)⟩⟩
   ·
    rw [if_neg c7] at H
    have c7b0 : decide (a1 < 1) = false := decide_eq_false c7
    clear c7
    (first | rw [c7b0] | (simp only [i64_w, i32_w]; rw [c7b0]) | skip)
    have H' := zz00 H
    clear H
    go_wp2
    go_meet
    case rel=>exact ⟨_,(decide (a1 > t223)),(by first|rfl|(simp;done)|(simp [*];done)),H',⟨by first|omega|exact Nat.le_refl _⟩,⟨by (with_reducible repeat (first|refine zz07 ?_ _|refine zz09 ?_|refine zz08 ?_ _));exact BK222.out⟩,⟨by repeat (first|(with_reducible first|exact HB.out|apply zz03|apply zz01|apply zz02|refine zz10 ?_ GE222.out)|exact HB.out)⟩⟩
  case rest =>
   clear HC5
   try clear c1
   try clear p2
   try clear c4
   try clear c4b0
   try clear c4b1
   try clear c7
   try clear c7b0
   obtain ⟨kq, x25_4, rfl, HA, HJ4, BK222, HB⟩ := hcut
   cases kq with
   | zero => exact absurd HA.out (by simp [almanackerref04_Of.j0])
   | succ kj4 =>
    have H := HA.out
    clear HA
    simp only [almanackerref04_Of.j0] at H
    by_cases c8 : x25_4 = true
    ·
     subst c8
     have H1 : (some (0, 0, 3)) = some (r1, r2, r3) := by rw [if_pos rfl] at H; exact H
     clear H
     have H := H1
     clear H1
     simp only [zz15, zz16] at H
     obtain ⟨rfl, rfl, rfl⟩ := H
     have hcz9_0 : wc.cell? ⟨gb222, 0, none⟩ = some (.int .i64 0) := (zz18 BK222.out 0).trans rfl
     have hcz9_1 : wc.cell? ⟨gb222, 1, none⟩ = some (.int .i64 0) := (zz18 BK222.out 1).trans rfl
     have hfz9_0 := zz17 BK222.out 0
     have hfz9_1 := zz17 BK222.out 1
     go_wp2
     refine bodyPost_ret (results_ct rfl _ _ gb222 147 #[.int .i64 0,.int .i64 0] (0,0) _ rfl (by (with_reducible repeat (first|refine zz07 ?_ _|refine zz09 ?_|refine zz08 ?_ _));refine zz35 (cs:=#[.int .i64 0,.int .i64 0]) ?_ 1 _ rfl;(with_reducible repeat (first|refine zz07 ?_ _|refine zz09 ?_|refine zz08 ?_ _));refine zz35 (cs:=#[.int .i64 0,.int .i64 0]) ?_ 0 _ rfl;(with_reducible repeat (first|refine zz07 ?_ _|refine zz09 ?_|refine zz08 ?_ _));exact BK222.out) Tryz.underlying147 rfl (by kernel_rfl)) rfl ?_
     exact ⟨by first|rfl|(simp [errW_none,errW_some] <;> rfl)|(simp [*,errW_none,errW_some] <;> rfl),by repeat (first|(with_reducible first|exact HB.out|apply zz03|apply zz01|apply zz02|refine zz10 ?_ GE222.out)|exact HB.out)⟩
    ·
     replace c8 := zz32.mpr c8
     subst c8
     have H1 : ((almanackerref03_Before.f a0).bind fun bt225=>((almanackerref04_Moon.f (wrap64 ((wrap64 (bt225.1 + a1)) - 1))).bind fun bt227=>(some (bt227.1,bt227.2.1,bt227.2.2)))) = some (r1,r2,r3):=by rw [if_neg (show ¬ (false = true) by decide)] at H;exact H
     clear H
     have H := H1
     clear H1
     replace H := zz14.mp H
     obtain ⟨⟨t225, t226⟩, A100, H⟩ := H
     replace H : ((almanackerref04_Moon.f (wrap64 ((wrap64 (t225 + a1)) - 1))).bind fun bt227 => (some (bt227.1, bt227.2.1, bt227.2.2))) = some (r1, r2, r3) := H
     have A10 := zz00 A100
     clear A100
     replace H := zz14.mp H
     obtain ⟨⟨t227, t228, t229⟩, A110, H⟩ := H
     replace H : (some (t227, t228, t229)) = some (r1, r2, r3) := H
     have A11 := zz00 A110
     clear A110
     simp only [zz15, zz16] at H
     obtain ⟨rfl, rfl, rfl⟩ := H
     go_wp2_with (first|((with_reducible refine zz23 (f:=197) rfl ?_);refine zz25 (some 29) rfl rfl Tryz.func197 (by kernel_rfl) rfl #[.int .i64 a0] rfl (by (try simp only [List.map_toArray,List.map_cons,List.map_nil]);first|done|rfl|(simp only [List.length_drop,List.length_take];rfl)) ?_;(with_reducible refine (almanackerref03_Before.calls a0 t225 t226 _ A10.out).mono ?_);rintro e w' ⟨rfl,⟨nd,rfl⟩⟩;refine ⟨_,rfl,?_⟩;(try (rw [drewN_self wc];generalize hq_ : World.drewN wc _ = wc;have n0_ : Aside0 (wc.heap[gb222]? = some (.cells #[.int .i64 0,.int .i64 0] 147 (0,0))):=⟨by rw [← hq_];exact (by (with_reducible repeat (first|refine zz07 ?_ _|refine zz09 ?_|refine zz08 ?_ _));exact BK222.out)⟩;have n1_ : Aside0 (Below w.heap.size w wc):=⟨by rw [← hq_];exact (by repeat (first|(with_reducible first|exact HB.out|apply zz03|apply zz01|apply zz02|refine zz10 ?_ GE222.out)|exact HB.out))⟩;clear BK222 HB hq_;have BK222:=n0_;have HB:=n1_;clear n0_ n1_)))|((with_reducible refine zz23 (f:=198) rfl ?_);refine zz25 (some 36) rfl rfl Tryz.func198 (by kernel_rfl) rfl #[.int .i64 (wrap64 ((wrap64 (t225 + a1)) - 1))] rfl (by (try simp only [List.map_toArray,List.map_cons,List.map_nil]);first|done|rfl|(simp only [List.length_drop,List.length_take];rfl)) ?_;(with_reducible refine (almanackerref04_Moon.calls (wrap64 ((wrap64 (t225 + a1)) - 1)) t227 t228 t229 _ A11.out).mono ?_);rintro e w12 ⟨rfl,hb⟩;refine ⟨_,rfl,?_⟩;have n0_:=zz00 (zz34 (g:=gb222) (o:=.cells #[.int .i64 0,.int .i64 0] 147 (0,0)) (by (with_reducible repeat (first|refine zz07 ?_ _|refine zz09 ?_|refine zz08 ?_ _));exact BK222.out) hb);have n1_:=zz00 (zz21 (by repeat (first|(with_reducible first|exact HB.out|apply zz03|apply zz01|apply zz02|refine zz10 ?_ GE222.out)|exact HB.out)) hb);clear BK222;clear HB;have BK222:=n0_;have HB:=n1_;clear n0_ n1_;(try clear hb);(try clear hb2);(try clear hk);(try clear hi);have hcz13_0 : w12.cell? ⟨gb222,0,none⟩ = some (.int .i64 0):=(zz18 BK222.out 0).trans rfl;have hcz13_1 : w12.cell? ⟨gb222,1,none⟩ = some (.int .i64 0):=(zz18 BK222.out 1).trans rfl;have hfz13_0:=zz17 BK222.out 0;have hfz13_1:=zz17 BK222.out 1))
     refine bodyPost_ret (results_ct rfl _ _ gb222 147 #[.int .i64 t227,.int .i64 t228] (0,0) _ rfl (by (with_reducible repeat (first|refine zz07 ?_ _|refine zz09 ?_|refine zz08 ?_ _));refine zz35 (cs:=#[.int .i64 t227,.int .i64 0]) ?_ 1 _ rfl;(with_reducible repeat (first|refine zz07 ?_ _|refine zz09 ?_|refine zz08 ?_ _));refine zz35 (cs:=#[.int .i64 0,.int .i64 0]) ?_ 0 _ rfl;(with_reducible repeat (first|refine zz07 ?_ _|refine zz09 ?_|refine zz08 ?_ _));exact BK222.out) Tryz.underlying147 rfl (by kernel_rfl)) rfl ?_
     exact ⟨by first|rfl|(simp [errW_none,errW_some] <;> rfl)|(simp [*,errW_none,errW_some] <;> rfl),by repeat (first|(with_reducible first|exact HB.out|apply zz03|apply zz01|apply zz02|refine zz10 ?_ GE222.out)|exact HB.out)⟩
 ·
  rw [if_neg c4] at H
  have c4b0 : (t224 == 0) = false := zz27.mpr c4
  have c4b1 : (t224 != 0) = true := zz28.mpr c4
  simp only [zz15, zz16] at H
  obtain ⟨rfl, rfl, rfl⟩ := H
  go_enter Tryz.func146, Tryz.ntmps146
  go_wp2_with (first|((with_reducible refine zz24 (N:=4) rfl ?_);refine zz30 ?hg (N:=4) ?hd (cs:=#[.int .i64 0,.int .i64 0]) (t:=147) ?hr ?_;(case hd=>rfl);(case hg=>rfl);(case hr=>first|(go_simp;done)|(go_simp;rfl));intro gb222 hg w14 hbox hb;have n0_:=zz00 (zz21 (by repeat (first|(with_reducible first|exact HB.out|apply zz03|apply zz01|apply zz02)|exact HB.out)) hb);have n1_:=zz00 (hbox);have n2_:=zz00 ((by rw [hg];exact (zz22 (by repeat (first|(with_reducible first|exact HB.out|apply zz03|apply zz01|apply zz02)|exact HB.out))) : w.heap.size ≤ gb222));have n3_:=zz00 ((by rw [hg];exact (zz22 (by repeat (first|(with_reducible first|exact HB.out|apply zz03|apply zz01|apply zz02)|exact HB.out))) : w.heap.size ≤ gb222));clear HB;have HB:=n0_;have BK222:=n1_;have GW222:=n2_;have GE222:=n3_;clear n0_ n1_ n2_ n3_;clear hb hbox hg)|((with_reducible refine zz23 (f:=196) rfl ?_);refine zz25 (some 12) rfl rfl Tryz.func196 (by kernel_rfl) rfl #[.int .i64 a0] rfl (by (try simp only [List.map_toArray,List.map_cons,List.map_nil]);first|done|rfl|(simp only [List.length_drop,List.length_take];rfl)) ?_;(with_reducible refine (almanackerref03_In.calls a0 t223 t224 _ A3.out).mono ?_);rintro e w' ⟨rfl,⟨nd,rfl⟩⟩;refine ⟨_,rfl,?_⟩;(try (rw [drewN_self w14];generalize hq_ : World.drewN w14 _ = w14;have n0_ : Aside0 (w14.heap[gb222]? = some (.cells #[.int .i64 0,.int .i64 0] 147 (0,0))):=⟨by rw [← hq_];exact (by (with_reducible repeat (first|refine zz07 ?_ _|refine zz09 ?_|refine zz08 ?_ _));exact BK222.out)⟩;have n1_ : Aside0 (Below w.heap.size w w14):=⟨by rw [← hq_];exact (by repeat (first|(with_reducible first|exact HB.out|apply zz03|apply zz01|apply zz02|refine zz10 ?_ GE222.out)|exact HB.out))⟩;clear BK222 HB hq_;have BK222:=n0_;have HB:=n1_;clear n0_ n1_));have hcz15_0 : w14.cell? ⟨gb222,0,none⟩ = some (.int .i64 0):=(zz18 BK222.out 0).trans rfl;have hcz15_1 : w14.cell? ⟨gb222,1,none⟩ = some (.int .i64 0):=(zz18 BK222.out 1).trans rfl;have hfz15_0:=zz17 BK222.out 0;have hfz15_1:=zz17 BK222.out 1))
  refine bodyPost_ret (results_ct rfl _ _ gb222 147 #[.int .i64 0,.int .i64 0] (0,0) _ rfl (by (with_reducible repeat (first|refine zz07 ?_ _|refine zz09 ?_|refine zz08 ?_ _));refine zz35 (cs:=#[.int .i64 0,.int .i64 0]) ?_ 1 _ rfl;(with_reducible repeat (first|refine zz07 ?_ _|refine zz09 ?_|refine zz08 ?_ _));refine zz35 (cs:=#[.int .i64 0,.int .i64 0]) ?_ 0 _ rfl;(with_reducible repeat (first|refine zz07 ?_ _|refine zz09 ?_|refine zz08 ?_ _));exact BK222.out) Tryz.underlying147 rfl (by kernel_rfl)) rfl ?_
  exact ⟨by first|rfl|(simp [errW_none,errW_some] <;> rfl)|(simp [*,errW_none,errW_some] <;> rfl),by repeat (first|(with_reducible first|exact HB.out|apply zz03|apply zz01|apply zz02|refine zz10 ?_ GE222.out)|exact HB.out)⟩

mutual
def almanackerref05_Delay.j0 : Nat → Bool → Int → Int → Bool → Int → Int → Option (Int)
  | 0, _, _, _, _, _, _ => none
  | k + 1, x2, x7, x8, x25, x231000, x231001 => if x25 = true then (if (Int.tmod (wrap64 (x7 + 1)) 7) = 0 then (some (1 + 1)) else (if (Int.tmod (wrap64 (x7 + 1)) 7) = 3 then (some (1 + 1)) else (if (Int.tmod (wrap64 (x7 + 1)) 7) = 5 then (some (1 + 1)) else (some 1)))) else (if x2 = true then (if x7 = 1 then (almanackerref05_Delay.j1 k x7 x8 (decide (x231001 ≥ 16789))) else (almanackerref05_Delay.j1 k x7 x8 false)) else (almanackerref05_Delay.j1 k x7 x8 false))
def almanackerref05_Delay.j1 : Nat → Int → Int → Bool → Option (Int)
  | 0, _, _, _ => none
  | k + 1, x7, x8, x35 => if x35 = true then (if (Int.tmod (wrap64 (x7 + 1)) 7) = 0 then (some (1 + 1)) else (if (Int.tmod (wrap64 (x7 + 1)) 7) = 3 then (some (1 + 1)) else (if (Int.tmod (wrap64 (x7 + 1)) 7) = 5 then (some (1 + 1)) else (some 1)))) else (if (Int.tmod (wrap64 (x7 + x8)) 7) = 0 then (some (wrap64 (x8 + 1))) else (if (Int.tmod (wrap64 (x7 + x8)) 7) = 3 then (some (wrap64 (x8 + 1))) else (if (Int.tmod (wrap64 (x7 + x8)) 7) = 5 then (some (wrap64 (x8 + 1))) else (some x8))))
end
def almanackerref05_Delay.f (k : Nat) (a0_0 : Int) (a0_1 : Int) (a1 : Bool) (a2 : Bool) : Option (Int) := (almanackerref04_Weekday.f a0_0).bind fun t231 => (if a0_1 ≥ 19440 then (if (Int.tmod (wrap64 (t231 + 1)) 7) = 0 then (some (1 + 1)) else (if (Int.tmod (wrap64 (t231 + 1)) 7) = 3 then (some (1 + 1)) else (if (Int.tmod (wrap64 (t231 + 1)) 7) = 5 then (some (1 + 1)) else (some 1)))) else (if a1 = true then (almanackerref05_Delay.j0 k a2 t231 0 false a0_0 a0_1) else (if t231 = 2 then (almanackerref05_Delay.j0 k a2 t231 0 (decide (a0_1 ≥ 9924)) a0_0 a0_1) else (almanackerref05_Delay.j0 k a2 t231 0 false a0_0 a0_1))))
set_option maxHeartbeats 8000000 in
set_option maxRecDepth 100000 in
theorem almanackerref05_Delay.calls (k : Nat) (a0_0 : Int) (a0_1 : Int) (a1 : Bool) (a2 : Bool) (r : Int) (w : World) (h : almanackerref05_Delay.f k a0_0 a0_1 a1 a2 = some r) :
  Calls Tryz.prog 147 #[.agg #[.int .i64 a0_0, .int .i64 a0_1], .bool a1, .bool a2] w fun e w' => e = .returned (.int .i64 r) ∧ Below w.heap.size w w' := by
 have hu147 := Tryz.underlying147
 have HB := zz00 (Below.refl w.heap.size w)
 have H : ((almanackerref04_Weekday.f a0_0).bind fun t231=>(if a0_1 ≥ 19440 then (if (Int.tmod (wrap64 (t231 + 1)) 7) = 0 then (some (1 + 1)) else (if (Int.tmod (wrap64 (t231 + 1)) 7) = 3 then (some (1 + 1)) else (if (Int.tmod (wrap64 (t231 + 1)) 7) = 5 then (some (1 + 1)) else (some 1)))) else (if a1 = true then (almanackerref05_Delay.j0 k a2 t231 0 false a0_0 a0_1) else (if t231 = 2 then (almanackerref05_Delay.j0 k a2 t231 0 (decide (a0_1 ≥ 9924)) a0_0 a0_1) else (almanackerref05_Delay.j0 k a2 t231 0 false a0_0 a0_1))))) = some r:=h
 clear h
 replace H := zz14.mp H
 obtain ⟨t231, A40, H⟩ := H
 replace H : (if a0_1 ≥ 19440 then (if (Int.tmod (wrap64 (t231 + 1)) 7) = 0 then (some (1 + 1)) else (if (Int.tmod (wrap64 (t231 + 1)) 7) = 3 then (some (1 + 1)) else (if (Int.tmod (wrap64 (t231 + 1)) 7) = 5 then (some (1 + 1)) else (some 1)))) else (if a1 = true then (almanackerref05_Delay.j0 k a2 t231 0 false a0_0 a0_1) else (if t231 = 2 then (almanackerref05_Delay.j0 k a2 t231 0 (decide (a0_1 ≥ 9924)) a0_0 a0_1) else (almanackerref05_Delay.j0 k a2 t231 0 false a0_0 a0_1)))) = some r:=H
 have A4 := zz00 A40
 clear A40
 by_cases c5 : a0_1 ≥ 19440
 ·
  rw [if_pos c5] at H
  have c5b0 : decide (19440 ≤ a0_1) = true := decide_eq_true c5
  clear c5
  by_cases c6 : (Int.tmod (wrap64 (t231 + 1)) 7) = 0
  ·
   rw [if_pos c6] at H
   have c6b0 : ((Int.tmod (wrap64 (t231 + 1)) 7) == 0) = true := zz29.mpr c6
   have c6b1 : ((Int.tmod (wrap64 (t231 + 1)) 7) != 0) = false := zz26.mpr c6
   clear c6
   obtain rfl := Option.some.inj H
   go_enter Tryz.func147, Tryz.ntmps147
   go_wp2_with (first|((with_reducible refine zz24 (N:=3) rfl ?_);refine zz30 ?hg (N:=3) ?hd (cs:=#[.int .i64 a0_0,.int .i64 a0_1]) (t:=147) ?hr ?_;(case hd=>rfl);(case hg=>rfl);(case hr=>first|(go_simp;done)|(go_simp;rfl));intro gb230 hg w7 hbox hb;have n0_:=zz00 (zz21 (by repeat (first|(with_reducible first|exact HB.out|apply zz03|apply zz01|apply zz02)|exact HB.out)) hb);have n1_:=zz00 (hbox);have n2_:=zz00 ((by rw [hg];exact (zz22 (by repeat (first|(with_reducible first|exact HB.out|apply zz03|apply zz01|apply zz02)|exact HB.out))) : w.heap.size ≤ gb230));have n3_:=zz00 ((by rw [hg];exact (zz22 (by repeat (first|(with_reducible first|exact HB.out|apply zz03|apply zz01|apply zz02)|exact HB.out))) : w.heap.size ≤ gb230));clear HB;have HB:=n0_;have BK230:=n1_;have GW230:=n2_;have GE230:=n3_;clear n0_ n1_ n2_ n3_;clear hb hbox hg;have hcz8_0 : w7.cell? ⟨gb230,0,none⟩ = some (.int .i64 a0_0):=(zz18 BK230.out 0).trans rfl;have hcz8_1 : w7.cell? ⟨gb230,1,none⟩ = some (.int .i64 a0_1):=(zz18 BK230.out 1).trans rfl;have hfz8_0:=zz17 BK230.out 0;have hfz8_1:=zz17 BK230.out 1)|((with_reducible refine zz23 (f:=90) rfl ?_);refine zz25 (some 11) rfl rfl Tryz.func90 (by kernel_rfl) rfl #[.int .i64 a0_0] rfl (by (try simp only [List.map_toArray,List.map_cons,List.map_nil]);first|done|rfl|(simp only [List.length_drop,List.length_take];rfl)) ?_;(with_reducible refine (almanackerref04_Weekday.calls a0_0 t231 _ A4.out).mono ?_);rintro e w' ⟨rfl,⟨nd,rfl⟩⟩;refine ⟨_,rfl,?_⟩))
   go_ret
   exact ⟨by first|rfl|(simp [errW_none,errW_some] <;> rfl)|(simp [*,errW_none,errW_some] <;> rfl),by repeat (first|(with_reducible first|exact HB.out|apply zz03|apply zz01|apply zz02|refine zz10 ?_ GE230.out)|exact HB.out)⟩
  ·
   rw [if_neg c6] at H
   have c6b0 : ((Int.tmod (wrap64 (t231 + 1)) 7) == 0) = false := zz27.mpr c6
   have c6b1 : ((Int.tmod (wrap64 (t231 + 1)) 7) != 0) = true := zz28.mpr c6
   by_cases c9 : (Int.tmod (wrap64 (t231 + 1)) 7) = 3
   ·
    rw [if_pos c9] at H
    have c9b0 : ((Int.tmod (wrap64 (t231 + 1)) 7) == 3) = true := zz29.mpr c9
    have c9b1 : ((Int.tmod (wrap64 (t231 + 1)) 7) != 3) = false := zz26.mpr c9
    clear c9
    obtain rfl := Option.some.inj H
    go_enter Tryz.func147, Tryz.ntmps147
    go_wp2_with (first|((with_reducible refine zz24 (N:=3) rfl ?_);refine zz30 ?hg (N:=3) ?hd (cs:=#[.int .i64 a0_0,.int .i64 a0_1]) (t:=147) ?hr ?_;(case hd=>rfl);(case hg=>rfl);(case hr=>first|(go_simp;done)|(go_simp;rfl));intro gb230 hg w10 hbox hb;have n0_:=zz00 (zz21 (by repeat (first|(with_reducible first|exact HB.out|apply zz03|apply zz01|apply zz02)|exact HB.out)) hb);have n1_:=zz00 (hbox);have n2_:=zz00 ((by rw [hg];exact (zz22 (by repeat (first|(with_reducible first|exact HB.out|apply zz03|apply zz01|apply zz02)|exact HB.out))) : w.heap.size ≤ gb230));have n3_:=zz00 ((by rw [hg];exact (zz22 (by repeat (first|(with_reducible first|exact HB.out|apply zz03|apply zz01|apply zz02)|exact HB.out))) : w.heap.size ≤ gb230));clear HB;have HB:=n0_;have BK230:=n1_;have GW230:=n2_;have GE230:=n3_;clear n0_ n1_ n2_ n3_;clear hb hbox hg;have hcz11_0 : w10.cell? ⟨gb230,0,none⟩ = some (.int .i64 a0_0):=(zz18 BK230.out 0).trans rfl;have hcz11_1 : w10.cell? ⟨gb230,1,none⟩ = some (.int .i64 a0_1):=(zz18 BK230.out 1).trans rfl;have hfz11_0:=zz17 BK230.out 0;have hfz11_1:=zz17 BK230.out 1)|((with_reducible refine zz23 (f:=90) rfl ?_);refine zz25 (some 11) rfl rfl Tryz.func90 (by kernel_rfl) rfl #[.int .i64 a0_0] rfl (by (try simp only [List.map_toArray,List.map_cons,List.map_nil]);first|done|rfl|(simp only [List.length_drop,List.length_take];rfl)) ?_;(with_reducible refine (almanackerref04_Weekday.calls a0_0 t231 _ A4.out).mono ?_);rintro e w' ⟨rfl,⟨nd,rfl⟩⟩;refine ⟨_,rfl,?_⟩))
    go_ret
    exact ⟨by first|rfl|(simp [errW_none,errW_some] <;> rfl)|(simp [*,errW_none,errW_some] <;> rfl),by repeat (first|(with_reducible first|exact HB.out|apply zz03|apply zz01|apply zz02|refine zz10 ?_ GE230.out)|exact HB.out)⟩
   ·
    rw [if_neg c9] at H
    have c9b0 : ((Int.tmod (wrap64 (t231 + 1)) 7) == 3) = false := zz27.mpr c9
    have c9b1 : ((Int.tmod (wrap64 (t231 + 1)) 7) != 3) = true := zz28.mpr c9
    by_cases c12 : (Int.tmod (wrap64 (t231 + 1)) 7) = 5
    ·
     rw [if_pos c12] at H
     have c12b0 : ((Int.tmod (wrap64 (t231 + 1)) 7) == 5) = true := zz29.mpr c12
     have c12b1 : ((Int.tmod (wrap64 (t231 + 1)) 7) != 5) = false := zz26.mpr c12
     clear c12
     obtain rfl := Option.some.inj H
     go_enter Tryz.func147, Tryz.ntmps147
     go_wp2_with (first|((with_reducible refine zz24 (N:=3) rfl ?_);refine zz30 ?hg (N:=3) ?hd (cs:=#[.int .i64 a0_0,.int .i64 a0_1]) (t:=147) ?hr ?_;(case hd=>rfl);(case hg=>rfl);(case hr=>first|(go_simp;done)|(go_simp;rfl));intro gb230 hg w13 hbox hb;have n0_:=zz00 (zz21 (by repeat (first|(with_reducible first|exact HB.out|apply zz03|apply zz01|apply zz02)|exact HB.out)) hb);have n1_:=zz00 (hbox);have n2_:=zz00 ((by rw [hg];exact (zz22 (by repeat (first|(with_reducible first|exact HB.out|apply zz03|apply zz01|apply zz02)|exact HB.out))) : w.heap.size ≤ gb230));have n3_:=zz00 ((by rw [hg];exact (zz22 (by repeat (first|(with_reducible first|exact HB.out|apply zz03|apply zz01|apply zz02)|exact HB.out))) : w.heap.size ≤ gb230));clear HB;have HB:=n0_;have BK230:=n1_;have GW230:=n2_;have GE230:=n3_;clear n0_ n1_ n2_ n3_;clear hb hbox hg;have hcz14_0 : w13.cell? ⟨gb230,0,none⟩ = some (.int .i64 a0_0):=(zz18 BK230.out 0).trans rfl;have hcz14_1 : w13.cell? ⟨gb230,1,none⟩ = some (.int .i64 a0_1):=(zz18 BK230.out 1).trans rfl;have hfz14_0:=zz17 BK230.out 0;have hfz14_1:=zz17 BK230.out 1)|((with_reducible refine zz23 (f:=90) rfl ?_);refine zz25 (some 11) rfl rfl Tryz.func90 (by kernel_rfl) rfl #[.int .i64 a0_0] rfl (by (try simp only [List.map_toArray,List.map_cons,List.map_nil]);first|done|rfl|(simp only [List.length_drop,List.length_take];rfl)) ?_;(with_reducible refine (almanackerref04_Weekday.calls a0_0 t231 _ A4.out).mono ?_);rintro e w' ⟨rfl,⟨nd,rfl⟩⟩;refine ⟨_,rfl,?_⟩))
     go_ret
     exact ⟨by first|rfl|(simp [errW_none,errW_some] <;> rfl)|(simp [*,errW_none,errW_some] <;> rfl),by repeat (first|(with_reducible first|exact HB.out|apply zz03|apply zz01|apply zz02|refine zz10 ?_ GE230.out)|exact HB.out)⟩
    ·
     rw [if_neg c12] at H
     have c12b0 : ((Int.tmod (wrap64 (t231 + 1)) 7) == 5) = false := zz27.mpr c12
     have c12b1 : ((Int.tmod (wrap64 (t231 + 1)) 7) != 5) = true := zz28.mpr c12
     obtain rfl := Option.some.inj H
     go_enter Tryz.func147, Tryz.ntmps147
     go_wp2_with (first|((with_reducible refine zz24 (N:=3) rfl ?_);refine zz30 ?hg (N:=3) ?hd (cs:=#[.int .i64 a0_0,.int .i64 a0_1]) (t:=147) ?hr ?_;(case hd=>rfl);(case hg=>rfl);(case hr=>first|(go_simp;done)|(go_simp;rfl));intro gb230 hg w15 hbox hb;have n0_:=zz00 (zz21 (by repeat (first|(with_reducible first|exact HB.out|apply zz03|apply zz01|apply zz02)|exact HB.out)) hb);have n1_:=zz00 (hbox);have n2_:=zz00 ((by rw [hg];exact (zz22 (by repeat (first|(with_reducible first|exact HB.out|apply zz03|apply zz01|apply zz02)|exact HB.out))) : w.heap.size ≤ gb230));have n3_:=zz00 ((by rw [hg];exact (zz22 (by repeat (first|(with_reducible first|exact HB.out|apply zz03|apply zz01|apply zz02)|exact HB.out))) : w.heap.size ≤ gb230));clear HB;have HB:=n0_;have BK230:=n1_;have GW230:=n2_;have GE230:=n3_;clear n0_ n1_ n2_ n3_;clear hb hbox hg;have hcz16_0 : w15.cell? ⟨gb230,0,none⟩ = some (.int .i64 a0_0):=(zz18 BK230.out 0).trans rfl;have hcz16_1 : w15.cell? ⟨gb230,1,none⟩ = some (.int .i64 a0_1):=(zz18 BK230.out 1).trans rfl;have hfz16_0:=zz17 BK230.out 0;have hfz16_1:=zz17 BK230.out 1)|((with_reducible refine zz23 (f:=90) rfl ?_);refine zz25 (some 11) rfl rfl Tryz.func90 (by kernel_rfl) rfl #[.int .i64 a0_0] rfl (by (try simp only [List.map_toArray,List.map_cons,List.map_nil]);first|done|rfl|(simp only [List.length_drop,List.length_take];rfl)) ?_;(with_reducible refine (almanackerref04_Weekday.calls a0_0 t231 _ A4.out).mono ?_);rintro e w' ⟨rfl,⟨nd,rfl⟩⟩;refine ⟨_,rfl,?_⟩))
     go_ret
     exact ⟨by first|rfl|(simp [errW_none,errW_some] <;> rfl)|(simp [*,errW_none,errW_some] <;> rfl),by repeat (first|(with_reducible first|exact HB.out|apply zz03|apply zz01|apply zz02|refine zz10 ?_ GE230.out)|exact HB.out)⟩
 ·
  rw [if_neg c5] at H
  have c5b0 : decide (19440 ≤ a0_1) = false := decide_eq_false c5
  clear c5
  have HC17 := zz00 H
  clear H
  go_enter Tryz.func147, Tryz.ntmps147
  go_upto_region 5 with (first|((with_reducible refine zz24 (N:=3) rfl ?_);refine zz30 ?hg (N:=3) ?hd (cs:=#[.int .i64 a0_0,.int .i64 a0_1]) (t:=147) ?hr ?_;(case hd=>rfl);(case hg=>rfl);(case hr=>first|(go_simp;done)|(go_simp;rfl));intro gb230 hg w18 hbox hb;have n0_:=zz00 (zz21 (by repeat (first|(with_reducible first|exact HB.out|apply zz03|apply zz01|apply zz02)|exact HB.out)) hb);have n1_:=zz00 (hbox);have n2_:=zz00 ((by rw [hg];exact (zz22 (by repeat (first|(with_reducible first|exact HB.out|apply zz03|apply zz01|apply zz02)|exact HB.out))) : w.heap.size ≤ gb230));have n3_:=zz00 ((by rw [hg];exact (zz22 (by repeat (first|(with_reducible first|exact HB.out|apply zz03|apply zz01|apply zz02)|exact HB.out))) : w.heap.size ≤ gb230));clear HB;have HB:=n0_;have BK230:=n1_;have GW230:=n2_;have GE230:=n3_;clear n0_ n1_ n2_ n3_;clear hb hbox hg;have hcz19_0 : w18.cell? ⟨gb230,0,none⟩ = some (.int .i64 a0_0):=(zz18 BK230.out 0).trans rfl;have hcz19_1 : w18.cell? ⟨gb230,1,none⟩ = some (.int .i64 a0_1):=(zz18 BK230.out 1).trans rfl;have hfz19_0:=zz17 BK230.out 0;have hfz19_1:=zz17 BK230.out 1)|((with_reducible refine zz23 (f:=90) rfl ?_);refine zz25 (some 11) rfl rfl Tryz.func90 (by kernel_rfl) rfl #[.int .i64 a0_0] rfl (by (try simp only [List.map_toArray,List.map_cons,List.map_nil]);first|done|rfl|(simp only [List.length_drop,List.length_take];rfl)) ?_;(with_reducible refine (almanackerref04_Weekday.calls a0_0 t231 _ A4.out).mono ?_);rintro e w' ⟨rfl,⟨nd,rfl⟩⟩;refine ⟨_,rfl,?_⟩))
  (try simp only [Act.put, zz11, zz12, zz13])
  go_cut [25] (fun v25 wc=>∃ (kq : Nat) (x25_16 : Bool),v25 = .bool x25_16 ∧ Aside0 (almanackerref05_Delay.j0 kq a2 t231 0 x25_16 a0_0 a0_1 = some r) ∧ Aside0 (kq ≤ k) ∧ Aside0 (wc.heap[gb230]? = some (.cells #[.int .i64 a0_0,.int .i64 a0_1] 147 (0,0))) ∧ Aside0 (Below w.heap.size w wc))
  case first =>
   have H := HC17.out
   clear HC17
   by_cases c20 : a1 = true
   ·
    subst c20
    have H1 : (almanackerref05_Delay.j0 k a2 t231 0 false a0_0 a0_1) = some r := by rw [if_pos rfl] at H; exact H
    clear H
    have H := H1
    clear H1
    have H' := zz00 H
    clear H
    go_wp2
    go_meet
    case rel=>exact ⟨_,(false),(by first|rfl|(simp;done)|(simp [*];done)),H',⟨by first|omega|exact Nat.le_refl _⟩,⟨by (with_reducible repeat (first|refine zz07 ?_ _|refine zz09 ?_|refine zz08 ?_ _));exact BK230.out⟩,⟨by repeat (first|(with_reducible first|exact HB.out|apply zz03|apply zz01|apply zz02|refine zz10 ?_ GE230.out)|exact HB.out)⟩⟩
   ·
    replace c20 := zz32.mpr c20
    subst c20
    have H1 : (if t231 = 2 then (almanackerref05_Delay.j0 k a2 t231 0 (decide (a0_1 ≥ 9924)) a0_0 a0_1) else (almanackerref05_Delay.j0 k a2 t231 0 false a0_0 a0_1)) = some r:=by rw [if_neg (show ¬ (false = true) by decide)] at H;exact H
    clear H
    have H := H1
    clear H1
    by_cases c21 : t231 = 2
    ·
     rw [if_pos c21] at H
     have c21b0 : (t231 == 2) = true := zz29.mpr c21
     have c21b1 : (t231 != 2) = false := zz26.mpr c21
     clear c21
     (first | rw [c21b0] | (simp only [i64_w, i32_w]; rw [c21b0]) | skip)
     have H' := zz00 H
     clear H
     have hcz22_0 : w18.cell? ⟨gb230, 0, none⟩ = some (.int .i64 a0_0) := (zz18 BK230.out 0).trans rfl
     have hcz22_1 : w18.cell? ⟨gb230, 1, none⟩ = some (.int .i64 a0_1) := (zz18 BK230.out 1).trans rfl
     have hfz22_0 := zz17 BK230.out 0
     have hfz22_1 := zz17 BK230.out 1
     go_wp2
     go_meet
     case rel=>exact ⟨_,(decide (a0_1 ≥ 9924)),(by first|rfl|(simp;done)|(simp [*];done)),H',⟨by first|omega|exact Nat.le_refl _⟩,⟨by (with_reducible repeat (first|refine zz07 ?_ _|refine zz09 ?_|refine zz08 ?_ _));exact BK230.out⟩,⟨by repeat (first|(with_reducible first|exact HB.out|apply zz03|apply zz01|apply zz02|refine zz10 ?_ GE230.out)|exact HB.out)⟩⟩
    ·
     rw [if_neg c21] at H
     have c21b0 : (t231 == 2) = false := zz27.mpr c21
     have c21b1 : (t231 != 2) = true := zz28.mpr c21
     (first | rw [c21b0] | (simp only [i64_w, i32_w]; rw [c21b0]) | skip)
     have H' := zz00 H
     clear H
     go_wp2
     go_meet
     case rel=>exact ⟨_,(false),(by first|rfl|(simp;done)|(simp [*];done)),H',⟨by first|omega|exact Nat.le_refl _⟩,⟨by (with_reducible repeat (first|refine zz07 ?_ _|refine zz09 ?_|refine zz08 ?_ _));exact BK230.out⟩,⟨by repeat (first|(with_reducible first|exact HB.out|apply zz03|apply zz01|apply zz02|refine zz10 ?_ GE230.out)|exact HB.out)⟩⟩
  case rest =>
   clear HC17
   try clear c1
   try clear c2
   try clear p2
   try clear c5
   try clear c5b0
   try clear c6
   try clear c6b0
   try clear c6b1
   try clear p6
   try clear c9
   try clear c9b0
   try clear c9b1
   try clear c12
   try clear c12b0
   try clear c12b1
   try clear c14
   try clear c20
   try clear c21
   try clear c21b0
   try clear c21b1
   try clear hcz11_0
   try clear hcz11_1
   try clear hcz14_0
   try clear hcz14_1
   try clear hcz16_0
   try clear hcz16_1
   try clear hcz19_0
   try clear hcz19_1
   try clear hcz22_0
   try clear hcz22_1
   try clear hcz8_0
   try clear hcz8_1
   try clear hfz11_0
   try clear hfz11_1
   try clear hfz14_0
   try clear hfz14_1
   try clear hfz16_0
   try clear hfz16_1
   try clear hfz19_0
   try clear hfz19_1
   try clear hfz22_0
   try clear hfz22_1
   try clear hfz8_0
   try clear hfz8_1
   obtain ⟨kq, x25_16, rfl, HA, HJ16, BK230, HB⟩ := hcut
   cases kq with
   | zero => exact absurd HA.out (by simp [almanackerref05_Delay.j0])
   | succ kj16 =>
    have H := HA.out
    clear HA
    simp only [almanackerref05_Delay.j0] at H
    by_cases c23 : x25_16 = true
    ·
     subst c23
     have H1 : (if (Int.tmod (wrap64 (t231 + 1)) 7) = 0 then (some (1 + 1)) else (if (Int.tmod (wrap64 (t231 + 1)) 7) = 3 then (some (1 + 1)) else (if (Int.tmod (wrap64 (t231 + 1)) 7) = 5 then (some (1 + 1)) else (some 1)))) = some r:=by rw [if_pos rfl] at H;exact H
     clear H
     have H := H1
     clear H1
     by_cases c24 : (Int.tmod (wrap64 (t231 + 1)) 7) = 0
     ·
      rw [if_pos c24] at H
      have c24b0 : ((Int.tmod (wrap64 (t231 + 1)) 7) == 0) = true := zz29.mpr c24
      have c24b1 : ((Int.tmod (wrap64 (t231 + 1)) 7) != 0) = false := zz26.mpr c24
      clear c24
      obtain rfl := Option.some.inj H
      go_wp2
      go_ret
      exact ⟨by first|rfl|(simp [errW_none,errW_some] <;> rfl)|(simp [*,errW_none,errW_some] <;> rfl),by repeat (first|(with_reducible first|exact HB.out|apply zz03|apply zz01|apply zz02|refine zz10 ?_ GE230.out)|exact HB.out)⟩
     ·
      rw [if_neg c24] at H
      have c24b0 : ((Int.tmod (wrap64 (t231 + 1)) 7) == 0) = false := zz27.mpr c24
      have c24b1 : ((Int.tmod (wrap64 (t231 + 1)) 7) != 0) = true := zz28.mpr c24
      by_cases c25 : (Int.tmod (wrap64 (t231 + 1)) 7) = 3
      ·
       rw [if_pos c25] at H
       have c25b0 : ((Int.tmod (wrap64 (t231 + 1)) 7) == 3) = true := zz29.mpr c25
       have c25b1 : ((Int.tmod (wrap64 (t231 + 1)) 7) != 3) = false := zz26.mpr c25
       clear c25
       obtain rfl := Option.some.inj H
       go_wp2
       go_ret
       exact ⟨by first|rfl|(simp [errW_none,errW_some] <;> rfl)|(simp [*,errW_none,errW_some] <;> rfl),by repeat (first|(with_reducible first|exact HB.out|apply zz03|apply zz01|apply zz02|refine zz10 ?_ GE230.out)|exact HB.out)⟩
      ·
       rw [if_neg c25] at H
       have c25b0 : ((Int.tmod (wrap64 (t231 + 1)) 7) == 3) = false := zz27.mpr c25
       have c25b1 : ((Int.tmod (wrap64 (t231 + 1)) 7) != 3) = true := zz28.mpr c25
       by_cases c26 : (Int.tmod (wrap64 (t231 + 1)) 7) = 5
       ·
        rw [if_pos c26] at H
        have c26b0 : ((Int.tmod (wrap64 (t231 + 1)) 7) == 5) = true := zz29.mpr c26
        have c26b1 : ((Int.tmod (wrap64 (t231 + 1)) 7) != 5) = false := zz26.mpr c26
        clear c26
        obtain rfl := Option.some.inj H
        go_wp2
        go_ret
        exact ⟨by first|rfl|(simp [errW_none,errW_some] <;> rfl)|(simp [*,errW_none,errW_some] <;> rfl),by repeat (first|(with_reducible first|exact HB.out|apply zz03|apply zz01|apply zz02|refine zz10 ?_ GE230.out)|exact HB.out)⟩
       ·
        rw [if_neg c26] at H
        have c26b0 : ((Int.tmod (wrap64 (t231 + 1)) 7) == 5) = false := zz27.mpr c26
        have c26b1 : ((Int.tmod (wrap64 (t231 + 1)) 7) != 5) = true := zz28.mpr c26
        obtain rfl := Option.some.inj H
        go_wp2
        go_ret
        exact ⟨by first|rfl|(simp [errW_none,errW_some] <;> rfl)|(simp [*,errW_none,errW_some] <;> rfl),by repeat (first|(with_reducible first|exact HB.out|apply zz03|apply zz01|apply zz02|refine zz10 ?_ GE230.out)|exact HB.out)⟩
    ·
     replace c23 := zz32.mpr c23
     subst c23
     have H1 : (if a2 = true then (if t231 = 1 then (almanackerref05_Delay.j1 kj16 t231 0 (decide (a0_1 ≥ 16789))) else (almanackerref05_Delay.j1 kj16 t231 0 false)) else (almanackerref05_Delay.j1 kj16 t231 0 false)) = some r:=by rw [if_neg (show ¬ (false = true) by decide)] at H;exact H
     clear H
     have H := H1
     clear H1
     have HC27 := zz00 H
     clear H
     go_upto_region 7 with (fail)
     go_cut [35] (fun v35 wc=>∃ (kq : Nat) (x35_26 : Bool),v35 = .bool x35_26 ∧ Aside0 (almanackerref05_Delay.j1 kq t231 0 x35_26 = some r) ∧ Aside0 (kq ≤ kj16) ∧ Aside0 (wc.heap[gb230]? = some (.cells #[.int .i64 a0_0,.int .i64 a0_1] 147 (0,0))) ∧ Aside0 (Below w.heap.size w wc))
     case first =>
      have H := HC27.out
      clear HC27
      by_cases c28 : a2 = true
      ·
       subst c28
       have H1 : (if t231 = 1 then (almanackerref05_Delay.j1 kj16 t231 0 (decide (a0_1 ≥ 16789))) else (almanackerref05_Delay.j1 kj16 t231 0 false)) = some r := by rw [if_pos rfl] at H; exact H
       clear H
       have H := H1
       clear H1
       by_cases c29 : t231 = 1
       ·
        rw [if_pos c29] at H
        have c29b0 : (t231 == 1) = true := zz29.mpr c29
        have c29b1 : (t231 != 1) = false := zz26.mpr c29
        clear c29
        (first | rw [c29b0] | (simp only [i64_w, i32_w]; rw [c29b0]) | skip)
        have H' := zz00 H
        clear H
        have hcz30_0 : wc.cell? ⟨gb230, 0, none⟩ = some (.int .i64 a0_0) := (zz18 BK230.out 0).trans rfl
        have hcz30_1 : wc.cell? ⟨gb230, 1, none⟩ = some (.int .i64 a0_1) := (zz18 BK230.out 1).trans rfl
        have hfz30_0 := zz17 BK230.out 0
        have hfz30_1 := zz17 BK230.out 1
        go_wp2
        go_meet
        case rel=>exact ⟨_,(decide (a0_1 ≥ 16789)),(by first|rfl|(simp;done)|(simp [*];done)),H',⟨by have:=HJ16.out;first|omega|exact Nat.le_refl _⟩,⟨by (with_reducible repeat (first|refine zz07 ?_ _|refine zz09 ?_|refine zz08 ?_ _));exact BK230.out⟩,⟨by repeat (first|(with_reducible first|exact HB.out|apply zz03|apply zz01|apply zz02|refine zz10 ?_ GE230.out)|exact HB.out)⟩⟩
       ·
        rw [if_neg c29] at H
        have c29b0 : (t231 == 1) = false := zz27.mpr c29
        have c29b1 : (t231 != 1) = true := zz28.mpr c29
        (first | rw [c29b0] | (simp only [i64_w, i32_w]; rw [c29b0]) | skip)
        have H' := zz00 H
        clear H
        go_wp2
        go_meet
        case rel=>exact ⟨_,(false),(by first|rfl|(simp;done)|(simp [*];done)),H',⟨by have:=HJ16.out;first|omega|exact Nat.le_refl _⟩,⟨by (with_reducible repeat (first|refine zz07 ?_ _|refine zz09 ?_|refine zz08 ?_ _));exact BK230.out⟩,⟨by repeat (first|(with_reducible first|exact HB.out|apply zz03|apply zz01|apply zz02|refine zz10 ?_ GE230.out)|exact HB.out)⟩⟩
      ·
       replace c28 := zz32.mpr c28
       subst c28
       have H1 : (almanackerref05_Delay.j1 kj16 t231 0 false) = some r := by rw [if_neg (show ¬ (false = true) by decide)] at H; exact H
       clear H
       have H := H1
       clear H1
       have H' := zz00 H
       clear H
       go_wp2
       go_meet
       case rel=>exact ⟨_,(false),(by first|rfl|(simp;done)|(simp [*];done)),H',⟨by have:=HJ16.out;first|omega|exact Nat.le_refl _⟩,⟨by (with_reducible repeat (first|refine zz07 ?_ _|refine zz09 ?_|refine zz08 ?_ _));exact BK230.out⟩,⟨by repeat (first|(with_reducible first|exact HB.out|apply zz03|apply zz01|apply zz02|refine zz10 ?_ GE230.out)|exact HB.out)⟩⟩
     case rest =>
      clear HC27
      try clear c1
      try clear c2
      try clear p2
      try clear c5
      try clear c5b0
      try clear c6
      try clear c6b0
      try clear c6b1
      try clear p6
      try clear c9
      try clear c9b0
      try clear c9b1
      try clear c12
      try clear c12b0
      try clear c12b1
      try clear c14
      try clear c20
      try clear c21
      try clear c21b0
      try clear c21b1
      try clear c23
      try clear c24
      try clear c24b0
      try clear c24b1
      try clear c25
      try clear c25b0
      try clear c25b1
      try clear c26
      try clear c26b0
      try clear c26b1
      try clear c28
      try clear c29
      try clear c29b0
      try clear c29b1
      try clear hcz11_0
      try clear hcz11_1
      try clear hcz14_0
      try clear hcz14_1
      try clear hcz16_0
      try clear hcz16_1
      try clear hcz19_0
      try clear hcz19_1
      try clear hcz22_0
      try clear hcz22_1
      try clear hcz30_0
      try clear hcz30_1
      try clear hcz8_0
      try clear hcz8_1
      try clear hfz11_0
      try clear hfz11_1
      try clear hfz14_0
      try clear hfz14_1
      try clear hfz16_0
      try clear hfz16_1
      try clear hfz19_0
      try clear hfz19_1
      try clear hfz22_0
      try clear hfz22_1
      try clear hfz30_0
      try clear hfz30_1
      try clear hfz8_0
      try clear hfz8_1
      try clear p2
      try clear p6
      obtain ⟨kq, x35_26, rfl, HA, HJ26, BK230, HB⟩ := hcut
      cases kq with
      | zero => exact absurd HA.out (by simp [almanackerref05_Delay.j1])
      | succ kj26 =>
       have H := HA.out
       clear HA
       simp only [almanackerref05_Delay.j1] at H
       by_cases c31 : x35_26 = true
       ·
        subst c31
        have H1 : (if (Int.tmod (wrap64 (t231 + 1)) 7) = 0 then (some (1 + 1)) else (if (Int.tmod (wrap64 (t231 + 1)) 7) = 3 then (some (1 + 1)) else (if (Int.tmod (wrap64 (t231 + 1)) 7) = 5 then (some (1 + 1)) else (some 1)))) = some r:=by rw [if_pos rfl] at H;exact H
        clear H
        have H := H1
        clear H1
        by_cases c32 : (Int.tmod (wrap64 (t231 + 1)) 7) = 0
        ·
         rw [if_pos c32] at H
         have c32b0 : ((Int.tmod (wrap64 (t231 + 1)) 7) == 0) = true := zz29.mpr c32
         have c32b1 : ((Int.tmod (wrap64 (t231 + 1)) 7) != 0) = false := zz26.mpr c32
         clear c32
         obtain rfl := Option.some.inj H
         go_wp2
         go_ret
         exact ⟨by first|rfl|(simp [errW_none,errW_some] <;> rfl)|(simp [*,errW_none,errW_some] <;> rfl),by repeat (first|(with_reducible first|exact HB.out|apply zz03|apply zz01|apply zz02|refine zz10 ?_ GE230.out)|exact HB.out)⟩
        ·
         rw [if_neg c32] at H
         have c32b0 : ((Int.tmod (wrap64 (t231 + 1)) 7) == 0) = false := zz27.mpr c32
         have c32b1 : ((Int.tmod (wrap64 (t231 + 1)) 7) != 0) = true := zz28.mpr c32
         by_cases c33 : (Int.tmod (wrap64 (t231 + 1)) 7) = 3
         ·
          rw [if_pos c33] at H
          have c33b0 : ((Int.tmod (wrap64 (t231 + 1)) 7) == 3) = true := zz29.mpr c33
          have c33b1 : ((Int.tmod (wrap64 (t231 + 1)) 7) != 3) = false := zz26.mpr c33
          clear c33
          obtain rfl := Option.some.inj H
          go_wp2
          go_ret
          exact ⟨by first|rfl|(simp [errW_none,errW_some] <;> rfl)|(simp [*,errW_none,errW_some] <;> rfl),by repeat (first|(with_reducible first|exact HB.out|apply zz03|apply zz01|apply zz02|refine zz10 ?_ GE230.out)|exact HB.out)⟩
         ·
          rw [if_neg c33] at H
          have c33b0 : ((Int.tmod (wrap64 (t231 + 1)) 7) == 3) = false := zz27.mpr c33
          have c33b1 : ((Int.tmod (wrap64 (t231 + 1)) 7) != 3) = true := zz28.mpr c33
          by_cases c34 : (Int.tmod (wrap64 (t231 + 1)) 7) = 5
          ·
           rw [if_pos c34] at H
           have c34b0 : ((Int.tmod (wrap64 (t231 + 1)) 7) == 5) = true := zz29.mpr c34
           have c34b1 : ((Int.tmod (wrap64 (t231 + 1)) 7) != 5) = false := zz26.mpr c34
           clear c34
           obtain rfl := Option.some.inj H
           go_wp2
           go_ret
           exact ⟨by first|rfl|(simp [errW_none,errW_some] <;> rfl)|(simp [*,errW_none,errW_some] <;> rfl),by repeat (first|(with_reducible first|exact HB.out|apply zz03|apply zz01|apply zz02|refine zz10 ?_ GE230.out)|exact HB.out)⟩
          ·
           rw [if_neg c34] at H
           have c34b0 : ((Int.tmod (wrap64 (t231 + 1)) 7) == 5) = false := zz27.mpr c34
           have c34b1 : ((Int.tmod (wrap64 (t231 + 1)) 7) != 5) = true := zz28.mpr c34
           obtain rfl := Option.some.inj H
           go_wp2
           go_ret
           exact ⟨by first|rfl|(simp [errW_none,errW_some] <;> rfl)|(simp [*,errW_none,errW_some] <;> rfl),by repeat (first|(with_reducible first|exact HB.out|apply zz03|apply zz01|apply zz02|refine zz10 ?_ GE230.out)|exact HB.out)⟩
       ·
        replace c31 := zz32.mpr c31
        subst c31
        have H1 : (if (Int.tmod (wrap64 (t231 + 0)) 7) = 0 then (some (wrap64 (0 + 1))) else (if (Int.tmod (wrap64 (t231 + 0)) 7) = 3 then (some (wrap64 (0 + 1))) else (if (Int.tmod (wrap64 (t231 + 0)) 7) = 5 then (some (wrap64 (0 + 1))) else (some 0)))) = some r:=by rw [if_neg (show ¬ (false = true) by decide)] at H;exact H
        clear H
        have H := H1
        clear H1
        simp only [Int.add_zero, Int.zero_add, show wrap64 1 = 1 by unfold wrap64; omega] at H
        by_cases c35 : (Int.tmod (wrap64 t231) 7) = 0
        ·
         rw [if_pos c35] at H
         have c35b0 : ((Int.tmod (wrap64 t231) 7) == 0) = true := zz29.mpr c35
         have c35b1 : ((Int.tmod (wrap64 t231) 7) != 0) = false := zz26.mpr c35
         clear c35
         obtain rfl := Option.some.inj H
         go_wp2
         go_ret
         exact ⟨by first|rfl|(simp [errW_none,errW_some] <;> rfl)|(simp [*,errW_none,errW_some] <;> rfl),by repeat (first|(with_reducible first|exact HB.out|apply zz03|apply zz01|apply zz02|refine zz10 ?_ GE230.out)|exact HB.out)⟩
        ·
         rw [if_neg c35] at H
         have c35b0 : ((Int.tmod (wrap64 t231) 7) == 0) = false := zz27.mpr c35
         have c35b1 : ((Int.tmod (wrap64 t231) 7) != 0) = true := zz28.mpr c35
         by_cases c36 : (Int.tmod (wrap64 t231) 7) = 3
         ·
          rw [if_pos c36] at H
          have c36b0 : ((Int.tmod (wrap64 t231) 7) == 3) = true := zz29.mpr c36
          have c36b1 : ((Int.tmod (wrap64 t231) 7) != 3) = false := zz26.mpr c36
          clear c36
          obtain rfl := Option.some.inj H
          go_wp2
          go_ret
          exact ⟨by first|rfl|(simp [errW_none,errW_some] <;> rfl)|(simp [*,errW_none,errW_some] <;> rfl),by repeat (first|(with_reducible first|exact HB.out|apply zz03|apply zz01|apply zz02|refine zz10 ?_ GE230.out)|exact HB.out)⟩
         ·
          rw [if_neg c36] at H
          have c36b0 : ((Int.tmod (wrap64 t231) 7) == 3) = false := zz27.mpr c36
          have c36b1 : ((Int.tmod (wrap64 t231) 7) != 3) = true := zz28.mpr c36
          by_cases c37 : (Int.tmod (wrap64 t231) 7) = 5
          ·
           rw [if_pos c37] at H
           have c37b0 : ((Int.tmod (wrap64 t231) 7) == 5) = true := zz29.mpr c37
           have c37b1 : ((Int.tmod (wrap64 t231) 7) != 5) = false := zz26.mpr c37
           clear c37
           obtain rfl := Option.some.inj H
           go_wp2
           go_ret
           exact ⟨by first|rfl|(simp [errW_none,errW_some] <;> rfl)|(simp [*,errW_none,errW_some] <;> rfl),by repeat (first|(with_reducible first|exact HB.out|apply zz03|apply zz01|apply zz02|refine zz10 ?_ GE230.out)|exact HB.out)⟩
          ·
           rw [if_neg c37] at H
           have c37b0 : ((Int.tmod (wrap64 t231) 7) == 5) = false := zz27.mpr c37
           have c37b1 : ((Int.tmod (wrap64 t231) 7) != 5) = true := zz28.mpr c37
           obtain rfl := Option.some.inj H
           go_wp2
           go_ret
           exact ⟨by first|rfl|(simp [errW_none,errW_some] <;> rfl)|(simp [*,errW_none,errW_some] <;> rfl),by repeat (first|(with_reducible first|exact HB.out|apply zz03|apply zz01|apply zz02|refine zz10 ?_ GE230.out)|exact HB.out)⟩

end Go.Proofs.YtflpddhoiafhcaaGreatDoor.S
end
