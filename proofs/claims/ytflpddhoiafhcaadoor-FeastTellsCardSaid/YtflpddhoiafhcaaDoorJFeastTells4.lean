/- Texts of the proof of 'FeastTells', joined by a program (part 4): contracts of functions, plain laws. -/
import Derived.Test.YtflpddhoiafhcaaDoorJFeastTells0
import Derived.Test.YtflpddhoiafhcaaDoorJFeastTells2
import Derived.Test.YtflpddhoiafhcaaDoorJFeastTells3
section
-- Written by wip/hprint.py of this repo (holes typed by hand, all else by a program) over the seat YtflpddhoiafhcaaDoor.
namespace Go.Proofs.YtflpddhoiafhcaaDoor.T
open Go.Proofs.YtflpddhoiafhcaaDoor.H
open Go.RowKit Go.Proofs.YtflpddhoiafhcaaDoorW.PrintWords Go.Proofs.YtflpddhoiafhcaaDoorW.PrintLast Go.Proofs.YtflpddhoiafhcaaDoorW.PrintMore
attribute [local go_sem] max2_int min2_int max_two min_two max_three min_three max_four min_four   -- for this text's walks alone
set_option linter.unusedVariables false
set_option linter.unusedSimpArgs false

def heb_ToDay.f (k : Nat) (a0_0 : Int) (a0_1 : Int) (a0_2 : Bool) (a0_3 : Int) : Option (Int × Int) := (heb_look.f k a0_0 a0_1 a0_2 a0_3).bind fun bt183 => (if bt183.2.2.2.2 = 0 then ((newyear_First.f k a0_0).bind fun bt189 => ((month_Ahead.f bt183.1 bt183.2.1 bt183.2.2.1 bt183.2.2.2.1).bind fun t191 => (some (wrap64 ((wrap64 ((wrap64 (bt189.1 + t191)) + a0_3)) - 1), bt189.2)))) else (some (0, bt183.2.2.2.2)))
theorem heb_ToDay.mono : ∀ a0 a1 a2 a3 k, LeO (heb_ToDay.f k a0 a1 a2 a3) (heb_ToDay.f (k + 1) a0 a1 a2 a3) := by
 intro a0 a1 a2 a3 k
 unfold heb_ToDay.f
 repeat' first
   | (with_reducible exact heb_look.mono _ _ _ _ _)
   | (with_reducible exact newyear_First.mono _ _)
   | (with_reducible exact LeO.refl _)
   | (with_reducible exact LeO.none _)
   | (with_reducible refine LeO.ite ?_ ?_)
   | (with_reducible refine LeO.bind ?_ (fun _ => ?_))
   | exact heb_look.mono _ _ _ _ _
   | exact newyear_First.mono _ _
   | exact LeO.none _
   | refine LeO.ite ?_ ?_
   | refine LeO.bind ?_ (fun _ => ?_)
def heb_ToDay.T5 : Bool × List (List Nat × List Nat) := (true, [([], []), ([], []), ([1], [1]), ([], []), ([3], [3]), ([2, 4], [2, 4]), ([0, 5], [0, 5]), ([], []), ([7], [7]), ([6, 8], [6, 8]), ([9], [9]), ([], []), ([10, 5, 0, 1, 2, 3, 4, 5, 6, 7, 8, 9, 10], [10]), ([11, 12, 0, 1, 2, 3, 4, 5, 6, 7, 8, 9, 10, 11, 12], [11])])
def heb_ToDay.B5 : List Nat := [0, 0, 2, 0, 8, 30, 63, 0, 128, 511, 1023, 0, 2047, 8191]
theorem heb_ToDay.tab5 : rtab .any (opsOf Tryd.f52 5) = heb_ToDay.T5 := by kernel_rfl
theorem heb_ToDay.bits5 : waitsOk heb_ToDay.T5.2 heb_ToDay.B5 = true := by kernel_rfl
set_option maxHeartbeats 8000000 in
set_option maxRecDepth 100000 in
theorem heb_ToDay.calls (k : Nat) (a0_0 : Int) (a0_1 : Int) (a0_2 : Bool) (a0_3 : Int) (r1 : Int) (r2 : Int) (w : World) (HGT : GlobT w) (h : heb_ToDay.f k a0_0 a0_1 a0_2 a0_3 = some (r1, r2)) :
  Calls Tryd.prog 52 #[.agg #[.int .i64 a0_0, .int .i64 a0_1, .bool a0_2, .int .i64 a0_3]] w fun e w' => e = .returned (.tuple #[.int .i64 r1, .int .i64 r2]) ∧ Below w.heap.size w w' := by
 have hu77 := Tryd.underlying77
 have hu113 := Tryd.underlying113
 have hu111 := Tryd.underlying111
 have HB := zz00 (Below.refl w.heap.size w)
 have H : ((heb_look.f k a0_0 a0_1 a0_2 a0_3).bind fun bt183=>(if bt183.2.2.2.2 = 0 then ((newyear_First.f k a0_0).bind fun bt189=>((month_Ahead.f bt183.1 bt183.2.1 bt183.2.2.1 bt183.2.2.2.1).bind fun t191=>(some (wrap64 ((wrap64 ((wrap64 (bt189.1 + t191)) + a0_3)) - 1),bt189.2)))) else (some (0,bt183.2.2.2.2)))) = some (r1,r2):=h
 clear h
 replace H := zz14.mp H
 obtain ⟨⟨t183, t184, t185, t186, t187⟩, A20, H⟩ := H
 replace H : (if t187 = 0 then ((newyear_First.f k a0_0).bind fun bt189=>((month_Ahead.f t183 t184 t185 t186).bind fun t191=>(some (wrap64 ((wrap64 ((wrap64 (bt189.1 + t191)) + a0_3)) - 1),bt189.2)))) else (some (0,t187))) = some (r1,r2):=H
 have A2 := zz00 A20
 clear A20
 by_cases c3 : t187 = 0
 ·
  rw [if_pos c3] at H
  have c3b0 : (t187 == 0) = true := zz29.mpr c3
  have c3b1 : (t187 != 0) = false := zz26.mpr c3
  clear c3
  replace H := zz14.mp H
  obtain ⟨⟨t189, t190⟩, A40, H⟩ := H
  replace H : ((month_Ahead.f t183 t184 t185 t186).bind fun t191 => (some (wrap64 ((wrap64 ((wrap64 (t189 + t191)) + a0_3)) - 1), t190))) = some (r1, r2) := H
  have A4 := zz00 A40
  clear A40
  replace H := zz14.mp H
  obtain ⟨t191, A50, H⟩ := H
  replace H : (some (wrap64 ((wrap64 ((wrap64 (t189 + t191)) + a0_3)) - 1), t190)) = some (r1, r2) := H
  have A5 := zz00 A50
  clear A50
  simp only [zz15, zz16] at H
  obtain ⟨rfl, rfl⟩ := H
  go_enter Tryd.func52, Tryd.ntmps52
  try go_wp2_with (first|((with_reducible refine zz24 (N:=1) rfl ?_);refine zz30 ?hg (N:=1) ?hd (cs:=#[.int .i64 a0_0,.int .i64 a0_1,.bool a0_2,.int .i64 a0_3]) (t:=77) ?hr ?_;(case hd=>rfl);(case hg=>rfl);(case hr=>first|(go_simp;done)|(go_simp;rfl));intro gb182 hg w6 hbox hb;have n0_:=zz00 (zz21 (by repeat (first|(with_reducible first|exact HB.out|apply zz03|apply zz01|apply zz02)|exact HB.out)) hb);have n1_:=zz00 (hbox);have n2_:=zz00 ((by rw [hg];exact (zz22 (by repeat (first|(with_reducible first|exact HB.out|apply zz03|apply zz01|apply zz02)|exact HB.out))) : w.heap.size ≤ gb182));have n3_:=zz00 ((by rw [hg];exact (zz22 (by repeat (first|(with_reducible first|exact HB.out|apply zz03|apply zz01|apply zz02)|exact HB.out))) : w.heap.size ≤ gb182));clear HB;have HB:=n0_;have BK182:=n1_;have GW182:=n2_;have GE182:=n3_;clear n0_ n1_ n2_ n3_;clear hb hbox hg;have hcz7_0 : w6.cell? ⟨gb182,0,none⟩ = some (.int .i64 a0_0):=(zz18 BK182.out 0).trans rfl;have hcz7_1 : w6.cell? ⟨gb182,1,none⟩ = some (.int .i64 a0_1):=(zz18 BK182.out 1).trans rfl;have hcz7_2 : w6.cell? ⟨gb182,2,none⟩ = some (.bool a0_2):=(zz18 BK182.out 2).trans rfl;have hcz7_3 : w6.cell? ⟨gb182,3,none⟩ = some (.int .i64 a0_3):=(zz18 BK182.out 3).trans rfl;have hfz7_0:=zz17 BK182.out 0;have hfz7_1:=zz17 BK182.out 1;have hfz7_2:=zz17 BK182.out 2;have hfz7_3:=zz17 BK182.out 3)|((with_reducible refine zz23 (f:=84) rfl ?_);refine zz25 (some 9) rfl rfl Tryd.func84 (by kernel_rfl) rfl #[.agg #[.int .i64 a0_0,.int .i64 a0_1,.bool a0_2,.int .i64 a0_3]] rfl (by (try simp only [List.map_toArray,List.map_cons,List.map_nil]);first|done|rfl|(simp only [List.length_drop,List.length_take];rfl)) ?_;(with_reducible refine (heb_look.calls k a0_0 a0_1 a0_2 a0_3 t183 t184 t185 t186 t187 _ ?side1 A2.out).mono ?_);(case side1=>exact GlobT.below HGT (by repeat (first|(with_reducible first|exact HB.out|apply zz03|apply zz01|apply zz02|refine zz10 ?_ GE182.out)|exact HB.out)));rintro e w8 ⟨rfl,hb⟩;refine ⟨_,rfl,?_⟩;have n0_:=zz00 (zz34 (g:=gb182) (o:=.cells #[.int .i64 a0_0,.int .i64 a0_1,.bool a0_2,.int .i64 a0_3] 77 (0,0)) (by (with_reducible repeat (first|refine zz07 ?_ _|refine zz09 ?_|refine zz08 ?_ _));exact BK182.out) hb);have n1_:=zz00 (zz21 (by repeat (first|(with_reducible first|exact HB.out|apply zz03|apply zz01|apply zz02|refine zz10 ?_ GE182.out)|exact HB.out)) hb);clear BK182;clear HB;have BK182:=n0_;have HB:=n1_;clear n0_ n1_;(try clear hb);(try clear hb2);(try clear hk);(try clear hi))|((with_reducible refine zz24 (N:=4) rfl ?_);refine zz30 ?hg (N:=4) ?hd (cs:=#[.int .i64 0,.int .i64 0,.bool false,.int .i64 0]) (t:=113) ?hr ?_;(case hd=>rfl);(case hg=>rfl);(case hr=>first|(go_simp;done)|(go_simp;rfl));intro gb188 hg w9 hbox hb;have n0_:=zz00 (zz34 (g:=gb182) (o:=.cells #[.int .i64 a0_0,.int .i64 a0_1,.bool a0_2,.int .i64 a0_3] 77 (0,0)) (by (with_reducible repeat (first|refine zz07 ?_ _|refine zz09 ?_|refine zz08 ?_ _));exact BK182.out) hb);have n1_:=zz00 (zz21 (by repeat (first|(with_reducible first|exact HB.out|apply zz03|apply zz01|apply zz02|refine zz10 ?_ GE182.out)|exact HB.out)) hb);have n2_:=zz00 (hbox);have n3_:=zz00 ((by rw [hg];exact (zz22 (by repeat (first|(with_reducible first|exact HB.out|apply zz03|apply zz01|apply zz02|refine zz10 ?_ GE182.out)|exact HB.out))) : w.heap.size ≤ gb188));have n4_:=zz00 ((by rw [hg];exact (zz22 (by repeat (first|(with_reducible first|exact HB.out|apply zz03|apply zz01|apply zz02|refine zz10 ?_ GE182.out)|exact HB.out))) : w.heap.size ≤ gb188));have n5_:=zz00 ((by rw [hg];exact Nat.ne_of_lt (blk_lt (g:=gb182) (o:=.cells #[.int .i64 a0_0,.int .i64 a0_1,.bool a0_2,.int .i64 a0_3] 77 (0,0)) (by (with_reducible repeat (first|refine zz07 ?_ _|refine zz09 ?_|refine zz08 ?_ _));exact BK182.out)) : gb182 ≠ gb188));have n6_:=zz00 ((by rw [hg];exact Nat.ne_of_gt (blk_lt (g:=gb182) (o:=.cells #[.int .i64 a0_0,.int .i64 a0_1,.bool a0_2,.int .i64 a0_3] 77 (0,0)) (by (with_reducible repeat (first|refine zz07 ?_ _|refine zz09 ?_|refine zz08 ?_ _));exact BK182.out)) : gb188 ≠ gb182));clear BK182;clear HB;have BK182:=n0_;have HB:=n1_;have BK188:=n2_;have GW188:=n3_;have GE188:=n4_;have NB182_188:=n5_;have NB188_182:=n6_;clear n0_ n1_ n2_ n3_ n4_ n5_ n6_;clear hb hbox hg;have hnb10:=NB188_182.out;have hnc10:=NB182_188.out;have hcz11_0 : w9.cell? ⟨gb188,0,none⟩ = some (.int .i64 0):=(zz18 BK188.out 0).trans rfl;have hcz11_1 : w9.cell? ⟨gb188,1,none⟩ = some (.int .i64 0):=(zz18 BK188.out 1).trans rfl;have hcz11_2 : w9.cell? ⟨gb188,2,none⟩ = some (.bool false):=(zz18 BK188.out 2).trans rfl;have hcz11_3 : w9.cell? ⟨gb188,3,none⟩ = some (.int .i64 0):=(zz18 BK188.out 3).trans rfl;have hfz11_0:=zz17 BK188.out 0;have hfz11_1:=zz17 BK188.out 1;have hfz11_2:=zz17 BK188.out 2;have hfz11_3:=zz17 BK188.out 3;have hcz12_0 : w9.cell? ⟨gb182,0,none⟩ = some (.int .i64 a0_0):=(zz18 BK182.out 0).trans rfl;have hcz12_1 : w9.cell? ⟨gb182,1,none⟩ = some (.int .i64 a0_1):=(zz18 BK182.out 1).trans rfl;have hcz12_2 : w9.cell? ⟨gb182,2,none⟩ = some (.bool a0_2):=(zz18 BK182.out 2).trans rfl;have hcz12_3 : w9.cell? ⟨gb182,3,none⟩ = some (.int .i64 a0_3):=(zz18 BK182.out 3).trans rfl;have hfz12_0:=zz17 BK182.out 0;have hfz12_1:=zz17 BK182.out 1;have hfz12_2:=zz17 BK182.out 2;have hfz12_3:=zz17 BK182.out 3)|((with_reducible refine zz23 (f:=85) rfl ?_);refine zz25 (some 18) rfl rfl Tryd.func85 (by kernel_rfl) rfl #[.int .i64 a0_0] rfl (by (try simp only [List.map_toArray,List.map_cons,List.map_nil]);first|done|rfl|(simp only [List.length_drop,List.length_take];rfl)) ?_;(with_reducible refine (newyear_First.calls k a0_0 t189 t190 _ A4.out).mono ?_);rintro e w13 ⟨rfl,hb⟩;refine ⟨_,rfl,?_⟩;have n0_:=zz00 (zz34 (g:=gb182) (o:=.cells #[.int .i64 a0_0,.int .i64 a0_1,.bool a0_2,.int .i64 a0_3] 77 (0,0)) (by (with_reducible repeat (first|refine zz07 ?_ _|refine zz09 ?_|refine zz08 ?_ _));refine zz33 ?_ NB182_188.out _;(with_reducible repeat (first|refine zz07 ?_ _|refine zz09 ?_|refine zz08 ?_ _));refine zz33 ?_ NB182_188.out _;(with_reducible repeat (first|refine zz07 ?_ _|refine zz09 ?_|refine zz08 ?_ _));refine zz33 ?_ NB182_188.out _;(with_reducible repeat (first|refine zz07 ?_ _|refine zz09 ?_|refine zz08 ?_ _));refine zz33 ?_ NB182_188.out _;(with_reducible repeat (first|refine zz07 ?_ _|refine zz09 ?_|refine zz08 ?_ _));exact BK182.out) hb);have n1_:=zz00 (zz34 (g:=gb188) (o:=.cells #[.int .i64 t183,.int .i64 t184,.bool t185,.int .i64 t186] 113 (0,0)) (by (with_reducible repeat (first|refine zz07 ?_ _|refine zz09 ?_|refine zz08 ?_ _));refine zz35 (cs:=#[.int .i64 t183,.int .i64 t184,.bool t185,.int .i64 0]) ?_ 3 _ rfl;(with_reducible repeat (first|refine zz07 ?_ _|refine zz09 ?_|refine zz08 ?_ _));refine zz35 (cs:=#[.int .i64 t183,.int .i64 t184,.bool false,.int .i64 0]) ?_ 2 _ rfl;(with_reducible repeat (first|refine zz07 ?_ _|refine zz09 ?_|refine zz08 ?_ _));refine zz35 (cs:=#[.int .i64 t183,.int .i64 0,.bool false,.int .i64 0]) ?_ 1 _ rfl;(with_reducible repeat (first|refine zz07 ?_ _|refine zz09 ?_|refine zz08 ?_ _));refine zz35 (cs:=#[.int .i64 0,.int .i64 0,.bool false,.int .i64 0]) ?_ 0 _ rfl;(with_reducible repeat (first|refine zz07 ?_ _|refine zz09 ?_|refine zz08 ?_ _));exact BK188.out) hb);have n2_:=zz00 (zz21 (by repeat (first|(with_reducible first|exact HB.out|apply zz03|apply zz01|apply zz02|refine zz10 ?_ GE182.out|refine zz10 ?_ GE188.out)|exact HB.out)) hb);clear BK182;clear BK188;clear HB;have BK182:=n0_;have BK188:=n1_;have HB:=n2_;clear n0_ n1_ n2_;(try clear hb);(try clear hb2);(try clear hk);(try clear hi)))
  have n0_ := zz00 (zz09 BK182.out)
  have n1_ := zz00 (zz09 BK188.out)
  have n2_ := zz00 (zz02 HB.out)
  clear BK182
  clear BK188
  clear HB
  have BK182 := n0_
  have BK188 := n1_
  have HB := n2_
  clear n0_ n1_ n2_
  refine start_ (n:=14) (S:=fun w'=>w'.cell? ⟨gb188,0,none⟩ = some (.int .i64 t183) ∧ w'.cell? ⟨gb188,1,none⟩ = some (.int .i64 t184) ∧ w'.cell? ⟨gb188,2,none⟩ = some (.bool t185) ∧ w'.cell? ⟨gb188,3,none⟩ = some (.int .i64 t186) ∧ w'.cell? ⟨gb182,0,none⟩ = some (.int .i64 a0_0) ∧ w'.cell? ⟨gb182,1,none⟩ = some (.int .i64 a0_1) ∧ w'.cell? ⟨gb182,2,none⟩ = some (.bool a0_2) ∧ w'.cell? ⟨gb182,3,none⟩ = some (.int .i64 a0_3)) (ds:=[]) #[false,false,false,false,false,false,false,false,false,false,false,false,false,false] (by kernel_rfl) rfl rfl ⟨(zz18 BK188.out 0).trans rfl,(zz18 BK188.out 1).trans rfl,(zz18 BK188.out 2).trans rfl,(zz18 BK188.out 3).trans rfl,(zz18 BK182.out 0).trans rfl,(zz18 BK182.out 1).trans rfl,(zz18 BK182.out 2).trans rfl,(zz18 BK182.out 3).trans rfl⟩ (fun hHeld=>?_);refine with_tabW heb_ToDay.tab5 heb_ToDay.bits5 (fun HT_ HW_=>?_)
  generalize w13.drew = w14 at BK182 BK188 HB hHeld ⊢
  refine pure_ (i:=0) (N:=some 21) (v:=?_) (a':=?_) #[true,false,false,false,false,false,false,false,false,false,false,false,false,false] rfl rfl (any_of HT_.out (by kernel_rfl)) (fun _ _ _ h=>h) (Or.inl ⟨by rfl,?_⟩) ?_ ?_
  rotate_left
  ·
   intro w'
   go_simp
   with_reducible rfl
  rotate_left
  ·
   simp only [Act.put,zz11,zz12,zz13,i64_w,i32_w]
   rfl
  refine pure_ (i:=1) (N:=some 22) (v:=?_) (a':=?_) #[true,true,false,false,false,false,false,false,false,false,false,false,false,false] rfl rfl (any_of HT_.out (by kernel_rfl)) (fun _ _ _ h=>h) (Or.inl ⟨by rfl,?_⟩) ?_ ?_
  rotate_left
  ·
   intro w'
   go_simp
   with_reducible rfl
  rotate_left
  ·
   simp only [Act.put,zz11,zz12,zz13,i64_w,i32_w]
   rfl
  refine pure_ (i:=3) (N:=some 24) (v:=?_) (a':=?_) #[true,true,false,true,false,false,false,false,false,false,false,false,false,false] rfl rfl (any_of HT_.out (by kernel_rfl)) (fun _ _ _ h=>h) (Or.inl ⟨by rfl,?_⟩) ?_ ?_
  rotate_left
  ·
   intro w'
   go_simp
   with_reducible rfl
  rotate_left
  ·
   simp only [Act.put,zz11,zz12,zz13,i64_w,i32_w]
   rfl
  refine pure_ (i:=7) (N:=some 28) (v:=?_) (a':=?_) #[true,true,false,true,false,false,false,true,false,false,false,false,false,false] rfl rfl (any_of HT_.out (by kernel_rfl)) (fun _ _ _ h=>h) (Or.inl ⟨by rfl,?_⟩) ?_ ?_
  rotate_left
  ·
   intro w'
   go_simp
   with_reducible rfl
  rotate_left
  ·
   simp only [Act.put,zz11,zz12,zz13,i64_w,i32_w]
   rfl
  refine pure_ (i:=11) (N:=some 32) (v:=?_) (a':=?_) #[true,true,false,true,false,false,false,true,false,false,false,true,false,false] rfl rfl (any_of HT_.out (by kernel_rfl)) (fun _ _ _ h=>h) (Or.inl ⟨by rfl,?_⟩) ?_ ?_
  rotate_left
  ·
   intro w'
   go_simp
   with_reducible rfl
  rotate_left
  ·
   simp only [Act.put,zz11,zz12,zz13,i64_w,i32_w]
   rfl
  refine take_ (i:=2) (N:=some 23) (v:=?_) (a':=?_) #[true,true,true,true,false,false,false,true,false,false,false,true,false,false] rfl rfl (take_ofW HT_.out HW_.out (by kernel_rfl)) (fun _ _ _ h=>h) (Or.inl ⟨by rfl,?_⟩) hHeld ?_ ?_
  rotate_left
  ·
   rintro w' ⟨s0, s1, s2, s3, s4, s5, s6, s7⟩
   go_simp
   with_reducible rfl
  rotate_left
  ·
   simp only [Act.put,zz11,zz12,zz13,i64_w,i32_w]
   rfl
  refine take_ (i:=4) (N:=some 25) (v:=?_) (a':=?_) #[true,true,true,true,true,false,false,true,false,false,false,true,false,false] rfl rfl (take_ofW HT_.out HW_.out (by kernel_rfl)) (fun _ _ _ h=>h) (Or.inl ⟨by rfl,?_⟩) hHeld ?_ ?_
  rotate_left
  ·
   rintro w' ⟨s0, s1, s2, s3, s4, s5, s6, s7⟩
   go_simp
   with_reducible rfl
  rotate_left
  ·
   simp only [Act.put,zz11,zz12,zz13,i64_w,i32_w]
   rfl
  refine take_ (i:=8) (N:=some 29) (v:=?_) (a':=?_) #[true,true,true,true,true,false,false,true,true,false,false,true,false,false] rfl rfl (take_ofW HT_.out HW_.out (by kernel_rfl)) (fun _ _ _ h=>h) (Or.inl ⟨by rfl,?_⟩) hHeld ?_ ?_
  rotate_left
  ·
   rintro w' ⟨s0, s1, s2, s3, s4, s5, s6, s7⟩
   go_simp
   with_reducible rfl
  rotate_left
  ·
   simp only [Act.put,zz11,zz12,zz13,i64_w,i32_w]
   rfl
  refine one_ (i := 5) (N := some 26) #[true, true, true, true, true, true, false, true, true, false, false, true, false, false] rfl rfl (one_of HT_.out (by kernel_rfl)) (by decide) (fun K hK => ?_)
  refine goes_ Tryd.func86 (by kernel_rfl) rfl #[.agg #[.int .i64 t183,.int .i64 t184,.bool t185],.int .i64 t186] (by rfl) rfl rfl (by (try simp only [List.map_toArray,List.map_cons,List.map_nil]);first|done|rfl|(simp only [List.length_drop,List.length_take];rfl)) ?_
  with_reducible refine (month_Ahead.calls t183 t184 t185 t186 t191 _ ?side1 A5.out).mono ?_
  (case side1=>exact GlobT.below HGT (by repeat (first|(with_reducible first|exact HB.out|apply zz03|apply zz01|apply zz02|refine zz10 ?_ GE182.out|refine zz10 ?_ GE188.out)|exact HB.out)))
  rintro e w15 ⟨rfl, hb⟩
  refine ⟨_, rfl, ?_⟩
  have n0_:=zz00 (zz34 (g:=gb182) (o:=.cells #[.int .i64 a0_0,.int .i64 a0_1,.bool a0_2,.int .i64 a0_3] 77 (0,0)) (by (with_reducible repeat (first|refine zz07 ?_ _|refine zz09 ?_|refine zz08 ?_ _));exact BK182.out) hb)
  have n1_:=zz00 (zz34 (g:=gb188) (o:=.cells #[.int .i64 t183,.int .i64 t184,.bool t185,.int .i64 t186] 113 (0,0)) (by (with_reducible repeat (first|refine zz07 ?_ _|refine zz09 ?_|refine zz08 ?_ _));exact BK188.out) hb)
  have n2_:=zz00 (zz21 (by repeat (first|(with_reducible first|exact HB.out|apply zz03|apply zz01|apply zz02|refine zz10 ?_ GE182.out|refine zz10 ?_ GE188.out)|exact HB.out)) hb)
  clear BK182
  clear BK188
  clear HB
  have BK182 := n0_
  have BK188 := n1_
  have HB := n2_
  clear n0_ n1_ n2_
  (try clear hb)
  (try clear hb2)
  (try clear hk)
  (try clear hi)
  refine hK.out _ _ ⟨(zz18 BK188.out 0).trans rfl,(zz18 BK188.out 1).trans rfl,(zz18 BK188.out 2).trans rfl,(zz18 BK188.out 3).trans rfl,(zz18 BK182.out 0).trans rfl,(zz18 BK182.out 1).trans rfl,(zz18 BK182.out 2).trans rfl,(zz18 BK182.out 3).trans rfl⟩ (fun hHeld=>?_)
  clear hK K
  refine norm_ (a' := ?_) ?_ ?_
  rotate_left
  ·
   show Act.put _ (some 26) _ = _
   simp only [Act.put,zz11,zz12,zz13,i64_w,i32_w]
   rfl
  refine pure_ (i:=6) (N:=some 27) (v:=?_) (a':=?_) #[true,true,true,true,true,true,true,true,true,false,false,true,false,false] rfl rfl (any_of HT_.out (by kernel_rfl)) (fun _ _ _ h=>h) (Or.inl ⟨by rfl,?_⟩) ?_ ?_
  rotate_left
  ·
   intro w'
   go_simp
   with_reducible rfl
  rotate_left
  ·
   simp only [Act.put,zz11,zz12,zz13,i64_w,i32_w]
   rfl
  refine pure_ (i:=9) (N:=some 30) (v:=?_) (a':=?_) #[true,true,true,true,true,true,true,true,true,true,false,true,false,false] rfl rfl (any_of HT_.out (by kernel_rfl)) (fun _ _ _ h=>h) (Or.inl ⟨by rfl,?_⟩) ?_ ?_
  rotate_left
  ·
   intro w'
   go_simp
   with_reducible rfl
  rotate_left
  ·
   simp only [Act.put,zz11,zz12,zz13,i64_w,i32_w]
   rfl
  refine pure_ (i:=10) (N:=some 31) (v:=?_) (a':=?_) #[true,true,true,true,true,true,true,true,true,true,true,true,false,false] rfl rfl (any_of HT_.out (by kernel_rfl)) (fun _ _ _ h=>h) (Or.inl ⟨by rfl,?_⟩) ?_ ?_
  rotate_left
  ·
   intro w'
   go_simp
   with_reducible rfl
  rotate_left
  ·
   simp only [Act.put,zz11,zz12,zz13,i64_w,i32_w]
   rfl
  refine pure_ (i:=12) (N:=some 2) (v:=?_) (a':=?_) #[true,true,true,true,true,true,true,true,true,true,true,true,true,false] rfl rfl (any_of HT_.out (by kernel_rfl)) (fun _ _ _ h=>h) (Or.inl ⟨by rfl,?_⟩) ?_ ?_
  rotate_left
  ·
   intro w'
   go_simp
   with_reducible rfl
  rotate_left
  ·
   simp only [Act.put,zz11,zz12,zz13,i64_w,i32_w]
   rfl
  refine pure_ (i:=13) (N:=some 3) (v:=?_) (a':=?_) #[true,true,true,true,true,true,true,true,true,true,true,true,true,true] rfl rfl (any_of HT_.out (by kernel_rfl)) (fun _ _ _ h=>h) (Or.inl ⟨by rfl,?_⟩) ?_ ?_
  rotate_left
  ·
   intro w'
   go_simp
   with_reducible rfl
  rotate_left
  ·
   simp only [Act.put,zz11,zz12,zz13,i64_w,i32_w]
   rfl
  refine done_ (done_of HT_.out (by kernel_rfl)) ?_
  try go_wp2
  go_ret2
  exact ⟨by first|rfl|(simp [errW_none,errW_some] <;> rfl)|(simp [*,errW_none,errW_some] <;> rfl),by repeat (first|(with_reducible first|exact HB.out|apply zz03|apply zz01|apply zz02|refine zz10 ?_ GE182.out|refine zz10 ?_ GE188.out)|exact HB.out)⟩
 ·
  rw [if_neg c3] at H
  have c3b0 : (t187 == 0) = false := zz27.mpr c3
  have c3b1 : (t187 != 0) = true := zz28.mpr c3
  simp only [zz15, zz16] at H
  obtain ⟨rfl, rfl⟩ := H
  go_enter Tryd.func52, Tryd.ntmps52
  go_wp2_with (first|((with_reducible refine zz24 (N:=1) rfl ?_);refine zz30 ?hg (N:=1) ?hd (cs:=#[.int .i64 a0_0,.int .i64 a0_1,.bool a0_2,.int .i64 a0_3]) (t:=77) ?hr ?_;(case hd=>rfl);(case hg=>rfl);(case hr=>first|(go_simp;done)|(go_simp;rfl));intro gb182 hg w16 hbox hb;have n0_:=zz00 (zz21 (by repeat (first|(with_reducible first|exact HB.out|apply zz03|apply zz01|apply zz02)|exact HB.out)) hb);have n1_:=zz00 (hbox);have n2_:=zz00 ((by rw [hg];exact (zz22 (by repeat (first|(with_reducible first|exact HB.out|apply zz03|apply zz01|apply zz02)|exact HB.out))) : w.heap.size ≤ gb182));have n3_:=zz00 ((by rw [hg];exact (zz22 (by repeat (first|(with_reducible first|exact HB.out|apply zz03|apply zz01|apply zz02)|exact HB.out))) : w.heap.size ≤ gb182));clear HB;have HB:=n0_;have BK182:=n1_;have GW182:=n2_;have GE182:=n3_;clear n0_ n1_ n2_ n3_;clear hb hbox hg;have hcz17_0 : w16.cell? ⟨gb182,0,none⟩ = some (.int .i64 a0_0):=(zz18 BK182.out 0).trans rfl;have hcz17_1 : w16.cell? ⟨gb182,1,none⟩ = some (.int .i64 a0_1):=(zz18 BK182.out 1).trans rfl;have hcz17_2 : w16.cell? ⟨gb182,2,none⟩ = some (.bool a0_2):=(zz18 BK182.out 2).trans rfl;have hcz17_3 : w16.cell? ⟨gb182,3,none⟩ = some (.int .i64 a0_3):=(zz18 BK182.out 3).trans rfl;have hfz17_0:=zz17 BK182.out 0;have hfz17_1:=zz17 BK182.out 1;have hfz17_2:=zz17 BK182.out 2;have hfz17_3:=zz17 BK182.out 3)|((with_reducible refine zz23 (f:=84) rfl ?_);refine zz25 (some 9) rfl rfl Tryd.func84 (by kernel_rfl) rfl #[.agg #[.int .i64 a0_0,.int .i64 a0_1,.bool a0_2,.int .i64 a0_3]] rfl (by (try simp only [List.map_toArray,List.map_cons,List.map_nil]);first|done|rfl|(simp only [List.length_drop,List.length_take];rfl)) ?_;(with_reducible refine (heb_look.calls k a0_0 a0_1 a0_2 a0_3 t183 t184 t185 t186 t187 _ ?side1 A2.out).mono ?_);(case side1=>exact GlobT.below HGT (by repeat (first|(with_reducible first|exact HB.out|apply zz03|apply zz01|apply zz02|refine zz10 ?_ GE182.out)|exact HB.out)));rintro e w18 ⟨rfl,hb⟩;refine ⟨_,rfl,?_⟩;have n0_:=zz00 (zz34 (g:=gb182) (o:=.cells #[.int .i64 a0_0,.int .i64 a0_1,.bool a0_2,.int .i64 a0_3] 77 (0,0)) (by (with_reducible repeat (first|refine zz07 ?_ _|refine zz09 ?_|refine zz08 ?_ _));exact BK182.out) hb);have n1_:=zz00 (zz21 (by repeat (first|(with_reducible first|exact HB.out|apply zz03|apply zz01|apply zz02|refine zz10 ?_ GE182.out)|exact HB.out)) hb);clear BK182;clear HB;have BK182:=n0_;have HB:=n1_;clear n0_ n1_;(try clear hb);(try clear hb2);(try clear hk);(try clear hi))|((with_reducible refine zz24 (N:=4) rfl ?_);refine zz30 ?hg (N:=4) ?hd (cs:=#[.int .i64 0,.int .i64 0,.bool false,.int .i64 0]) (t:=113) ?hr ?_;(case hd=>rfl);(case hg=>rfl);(case hr=>first|(go_simp;done)|(go_simp;rfl));intro gb188 hg w19 hbox hb;have n0_:=zz00 (zz34 (g:=gb182) (o:=.cells #[.int .i64 a0_0,.int .i64 a0_1,.bool a0_2,.int .i64 a0_3] 77 (0,0)) (by (with_reducible repeat (first|refine zz07 ?_ _|refine zz09 ?_|refine zz08 ?_ _));exact BK182.out) hb);have n1_:=zz00 (zz21 (by repeat (first|(with_reducible first|exact HB.out|apply zz03|apply zz01|apply zz02|refine zz10 ?_ GE182.out)|exact HB.out)) hb);have n2_:=zz00 (hbox);have n3_:=zz00 ((by rw [hg];exact (zz22 (by repeat (first|(with_reducible first|exact HB.out|apply zz03|apply zz01|apply zz02|refine zz10 ?_ GE182.out)|exact HB.out))) : w.heap.size ≤ gb188));have n4_:=zz00 ((by rw [hg];exact (zz22 (by repeat (first|(with_reducible first|exact HB.out|apply zz03|apply zz01|apply zz02|refine zz10 ?_ GE182.out)|exact HB.out))) : w.heap.size ≤ gb188));have n5_:=zz00 ((by rw [hg];exact Nat.ne_of_lt (blk_lt (g:=gb182) (o:=.cells #[.int .i64 a0_0,.int .i64 a0_1,.bool a0_2,.int .i64 a0_3] 77 (0,0)) (by (with_reducible repeat (first|refine zz07 ?_ _|refine zz09 ?_|refine zz08 ?_ _));exact BK182.out)) : gb182 ≠ gb188));have n6_:=zz00 ((by rw [hg];exact Nat.ne_of_gt (blk_lt (g:=gb182) (o:=.cells #[.int .i64 a0_0,.int .i64 a0_1,.bool a0_2,.int .i64 a0_3] 77 (0,0)) (by (with_reducible repeat (first|refine zz07 ?_ _|refine zz09 ?_|refine zz08 ?_ _));exact BK182.out)) : gb188 ≠ gb182));clear BK182;clear HB;have BK182:=n0_;have HB:=n1_;have BK188:=n2_;have GW188:=n3_;have GE188:=n4_;have NB182_188:=n5_;have NB188_182:=n6_;clear n0_ n1_ n2_ n3_ n4_ n5_ n6_;clear hb hbox hg;have hnb20:=NB188_182.out;have hnc20:=NB182_188.out;have hcz21_0 : w19.cell? ⟨gb188,0,none⟩ = some (.int .i64 0):=(zz18 BK188.out 0).trans rfl;have hcz21_1 : w19.cell? ⟨gb188,1,none⟩ = some (.int .i64 0):=(zz18 BK188.out 1).trans rfl;have hcz21_2 : w19.cell? ⟨gb188,2,none⟩ = some (.bool false):=(zz18 BK188.out 2).trans rfl;have hcz21_3 : w19.cell? ⟨gb188,3,none⟩ = some (.int .i64 0):=(zz18 BK188.out 3).trans rfl;have hfz21_0:=zz17 BK188.out 0;have hfz21_1:=zz17 BK188.out 1;have hfz21_2:=zz17 BK188.out 2;have hfz21_3:=zz17 BK188.out 3))
  go_ret2
  exact ⟨by first|rfl|(simp [errW_none,errW_some] <;> rfl)|(simp [*,errW_none,errW_some] <;> rfl),by repeat (first|(with_reducible first|exact HB.out|apply zz03|apply zz01|apply zz02|refine zz10 ?_ GE182.out|refine zz10 ?_ GE188.out)|exact HB.out)⟩

def feast_rows_1.f (a0 : Int) : Option (Int × Bool) := some (a0, false)
theorem feast_rows_1.calls (a0 : Int) (r1 : Int) (r2 : Bool) (w : World) (h : feast_rows_1.f a0 = some (r1, r2)) :
    Calls Tryd.prog 88 #[.int .i64 a0] w fun e w' => e = .returned (.agg #[.int .i64 r1, .bool r2]) ∧ Below w.heap.size w w' := by
  obtain ⟨rfl, rfl⟩ : a0 = r1 ∧ false = r2 := by simpa [feast_rows_1.f] using h
  clear h
  go_enter Tryd.func88, Tryd.ntmps88
  go_wp2_with fail
  refine bodyPost_ret (results_single rfl (Vals.cell w.heap.size 23 #[.int .i64 a0, .bool false] (0, 0) _ rfl (blk_new _ _) Tryd.underlying23 rfl (by kernel_rfl) Vals.nil)) rfl ?_
  exact ⟨rfl, below_alloc (Below.refl _ _) _⟩

def feast_rows.f  : Option ((List (S84))) := (feast_rows_1.f 1).bind fun bt192 => ((feast_rows_1.f 1).bind fun bt194 => ((feast_rows_1.f 1).bind fun bt196 => ((feast_rows_1.f 1).bind fun bt198 => ((feast_rows_1.f 1).bind fun bt200 => ((feast_rows_1.f 1).bind fun bt202 => ((feast_rows_1.f 1).bind fun bt204 => ((feast_rows_1.f 3).bind fun bt206 => ((feast_rows_1.f 5).bind fun bt208 => ((feast_rows_1.f 6).bind fun bt210 => ((feast_rows_1.f 6).bind fun bt212 => ((feast_rows_1.f 7).bind fun bt214 => ((feast_rows_1.f 7).bind fun bt216 => ((feast_rows_1.f 7).bind fun bt218 => ((feast_rows_1.f 8).bind fun bt220 => ((feast_rows_1.f 8).bind fun bt222 => ((feast_rows_1.f 9).bind fun bt224 => ((feast_rows_1.f 11).bind fun bt226 => (some (([(⟨1, (⟨bt192.1, bt192.2⟩ : S23), 1, 2, 1, 2⟩ : S84), (⟨3, (⟨bt194.1, bt194.2⟩ : S23), 10, 10, 10, 10⟩ : S84), (⟨4, (⟨bt196.1, bt196.2⟩ : S23), 15, 16, 15, 15⟩ : S84), (⟨5, (⟨bt198.1, bt198.2⟩ : S23), 17, 20, 16, 20⟩ : S84), (⟨6, (⟨bt200.1, bt200.2⟩ : S23), 21, 21, 21, 21⟩ : S84), (⟨7, (⟨bt202.1, bt202.2⟩ : S23), 22, 22, 22, 22⟩ : S84), (⟨8, (⟨bt204.1, bt204.2⟩ : S23), 23, 23, 22, 22⟩ : S84), (⟨9, (⟨bt206.1, bt206.2⟩ : S23), 25, 32, 25, 32⟩ : S84), (⟨11, (⟨bt208.1, bt208.2⟩ : S23), 15, 15, 15, 15⟩ : S84), (⟨12, (⟨5, true⟩ : S23), 14, 14, 14, 14⟩ : S84), (⟨14, (⟨bt210.1, bt210.2⟩ : S23), 14, 14, 14, 14⟩ : S84), (⟨15, (⟨bt212.1, bt212.2⟩ : S23), 15, 15, 15, 15⟩ : S84), (⟨17, (⟨bt214.1, bt214.2⟩ : S23), 15, 16, 15, 15⟩ : S84), (⟨18, (⟨bt216.1, bt216.2⟩ : S23), 17, 20, 16, 20⟩ : S84), (⟨17, (⟨bt218.1, bt218.2⟩ : S23), 21, 22, 21, 21⟩ : S84), (⟨22, (⟨bt220.1, bt220.2⟩ : S23), 14, 14, 14, 14⟩ : S84), (⟨23, (⟨bt222.1, bt222.2⟩ : S23), 18, 18, 18, 18⟩ : S84), (⟨25, (⟨bt224.1, bt224.2⟩ : S23), 6, 7, 6, 6⟩ : S84), (⟨28, (⟨bt226.1, bt226.2⟩ : S23), 15, 15, 15, 15⟩ : S84)] : List (S84)))))))))))))))))))))
set_option maxHeartbeats 8000000 in
set_option maxRecDepth 100000 in
theorem feast_rows.calls  (r : List (S84)) (w : World) (h : feast_rows.f  = some r) :
  Calls Tryd.prog 57 #[] w fun e w' => ∃ v0_ : Value, e = .returned (v0_) ∧ Kd.R k84 84 w' w.heap.size (fun _ => True) v0_ r ∧ Below w.heap.size w w' := by
 have hu84 := Tryd.underlying84
 have hu23 := Tryd.underlying23
 have HB := zz00 (Below.refl w.heap.size w)
 have H : ((feast_rows_1.f 1).bind fun bt192=>((feast_rows_1.f 1).bind fun bt194=>((feast_rows_1.f 1).bind fun bt196=>((feast_rows_1.f 1).bind fun bt198=>((feast_rows_1.f 1).bind fun bt200=>((feast_rows_1.f 1).bind fun bt202=>((feast_rows_1.f 1).bind fun bt204=>((feast_rows_1.f 3).bind fun bt206=>((feast_rows_1.f 5).bind fun bt208=>((feast_rows_1.f 6).bind fun bt210=>((feast_rows_1.f 6).bind fun bt212=>((feast_rows_1.f 7).bind fun bt214=>((feast_rows_1.f 7).bind fun bt216=>((feast_rows_1.f 7).bind fun bt218=>((feast_rows_1.f 8).bind fun bt220=>((feast_rows_1.f 8).bind fun bt222=>((feast_rows_1.f 9).bind fun bt224=>((feast_rows_1.f 11).bind fun bt226=>(some (([(⟨1,(⟨bt192.1,bt192.2⟩ : S23),1,2,1,2⟩ : S84),(⟨3,(⟨bt194.1,bt194.2⟩ : S23),10,10,10,10⟩ : S84),(⟨4,(⟨bt196.1,bt196.2⟩ : S23),15,16,15,15⟩ : S84),(⟨5,(⟨bt198.1,bt198.2⟩ : S23),17,20,16,20⟩ : S84),(⟨6,(⟨bt200.1,bt200.2⟩ : S23),21,21,21,21⟩ : S84),(⟨7,(⟨bt202.1,bt202.2⟩ : S23),22,22,22,22⟩ : S84),(⟨8,(⟨bt204.1,bt204.2⟩ : S23),23,23,22,22⟩ : S84),(⟨9,(⟨bt206.1,bt206.2⟩ : S23),25,32,25,32⟩ : S84),(⟨11,(⟨bt208.1,bt208.2⟩ : S23),15,15,15,15⟩ : S84),(⟨12,(⟨5,true⟩ : S23),14,14,14,14⟩ : S84),(⟨14,(⟨bt210.1,bt210.2⟩ : S23),14,14,14,14⟩ : S84),(⟨15,(⟨bt212.1,bt212.2⟩ : S23),15,15,15,15⟩ : S84),(⟨17,(⟨bt214.1,bt214.2⟩ : S23),15,16,15,15⟩ : S84),(⟨18,(⟨bt216.1,bt216.2⟩ : S23),17,20,16,20⟩ : S84),(⟨17,(⟨bt218.1,bt218.2⟩ : S23),21,22,21,21⟩ : S84),(⟨22,(⟨bt220.1,bt220.2⟩ : S23),14,14,14,14⟩ : S84),(⟨23,(⟨bt222.1,bt222.2⟩ : S23),18,18,18,18⟩ : S84),(⟨25,(⟨bt224.1,bt224.2⟩ : S23),6,7,6,6⟩ : S84),(⟨28,(⟨bt226.1,bt226.2⟩ : S23),15,15,15,15⟩ : S84)] : List (S84)))))))))))))))))))))) = some r:=h
 clear h
 replace H := zz14.mp H
 obtain ⟨⟨t192, t193⟩, A10, H⟩ := H
 replace H : ((feast_rows_1.f 1).bind fun bt194=>((feast_rows_1.f 1).bind fun bt196=>((feast_rows_1.f 1).bind fun bt198=>((feast_rows_1.f 1).bind fun bt200=>((feast_rows_1.f 1).bind fun bt202=>((feast_rows_1.f 1).bind fun bt204=>((feast_rows_1.f 3).bind fun bt206=>((feast_rows_1.f 5).bind fun bt208=>((feast_rows_1.f 6).bind fun bt210=>((feast_rows_1.f 6).bind fun bt212=>((feast_rows_1.f 7).bind fun bt214=>((feast_rows_1.f 7).bind fun bt216=>((feast_rows_1.f 7).bind fun bt218=>((feast_rows_1.f 8).bind fun bt220=>((feast_rows_1.f 8).bind fun bt222=>((feast_rows_1.f 9).bind fun bt224=>((feast_rows_1.f 11).bind fun bt226=>(some (([(⟨1,(⟨t192,t193⟩ : S23),1,2,1,2⟩ : S84),(⟨3,(⟨bt194.1,bt194.2⟩ : S23),10,10,10,10⟩ : S84),(⟨4,(⟨bt196.1,bt196.2⟩ : S23),15,16,15,15⟩ : S84),(⟨5,(⟨bt198.1,bt198.2⟩ : S23),17,20,16,20⟩ : S84),(⟨6,(⟨bt200.1,bt200.2⟩ : S23),21,21,21,21⟩ : S84),(⟨7,(⟨bt202.1,bt202.2⟩ : S23),22,22,22,22⟩ : S84),(⟨8,(⟨bt204.1,bt204.2⟩ : S23),23,23,22,22⟩ : S84),(⟨9,(⟨bt206.1,bt206.2⟩ : S23),25,32,25,32⟩ : S84),(⟨11,(⟨bt208.1,bt208.2⟩ : S23),15,15,15,15⟩ : S84),(⟨12,(⟨5,true⟩ : S23),14,14,14,14⟩ : S84),(⟨14,(⟨bt210.1,bt210.2⟩ : S23),14,14,14,14⟩ : S84),(⟨15,(⟨bt212.1,bt212.2⟩ : S23),15,15,15,15⟩ : S84),(⟨17,(⟨bt214.1,bt214.2⟩ : S23),15,16,15,15⟩ : S84),(⟨18,(⟨bt216.1,bt216.2⟩ : S23),17,20,16,20⟩ : S84),(⟨17,(⟨bt218.1,bt218.2⟩ : S23),21,22,21,21⟩ : S84),(⟨22,(⟨bt220.1,bt220.2⟩ : S23),14,14,14,14⟩ : S84),(⟨23,(⟨bt222.1,bt222.2⟩ : S23),18,18,18,18⟩ : S84),(⟨25,(⟨bt224.1,bt224.2⟩ : S23),6,7,6,6⟩ : S84),(⟨28,(⟨bt226.1,bt226.2⟩ : S23),15,15,15,15⟩ : S84)] : List (S84))))))))))))))))))))) = some r:=H
 have A1 := zz00 A10
 clear A10
 replace H := zz14.mp H
 obtain ⟨⟨t194, t195⟩, A20, H⟩ := H
 replace H : ((feast_rows_1.f 1).bind fun bt196=>((feast_rows_1.f 1).bind fun bt198=>((feast_rows_1.f 1).bind fun bt200=>((feast_rows_1.f 1).bind fun bt202=>((feast_rows_1.f 1).bind fun bt204=>((feast_rows_1.f 3).bind fun bt206=>((feast_rows_1.f 5).bind fun bt208=>((feast_rows_1.f 6).bind fun bt210=>((feast_rows_1.f 6).bind fun bt212=>((feast_rows_1.f 7).bind fun bt214=>((feast_rows_1.f 7).bind fun bt216=>((feast_rows_1.f 7).bind fun bt218=>((feast_rows_1.f 8).bind fun bt220=>((feast_rows_1.f 8).bind fun bt222=>((feast_rows_1.f 9).bind fun bt224=>((feast_rows_1.f 11).bind fun bt226=>(some (([(⟨1,(⟨t192,t193⟩ : S23),1,2,1,2⟩ : S84),(⟨3,(⟨t194,t195⟩ : S23),10,10,10,10⟩ : S84),(⟨4,(⟨bt196.1,bt196.2⟩ : S23),15,16,15,15⟩ : S84),(⟨5,(⟨bt198.1,bt198.2⟩ : S23),17,20,16,20⟩ : S84),(⟨6,(⟨bt200.1,bt200.2⟩ : S23),21,21,21,21⟩ : S84),(⟨7,(⟨bt202.1,bt202.2⟩ : S23),22,22,22,22⟩ : S84),(⟨8,(⟨bt204.1,bt204.2⟩ : S23),23,23,22,22⟩ : S84),(⟨9,(⟨bt206.1,bt206.2⟩ : S23),25,32,25,32⟩ : S84),(⟨11,(⟨bt208.1,bt208.2⟩ : S23),15,15,15,15⟩ : S84),(⟨12,(⟨5,true⟩ : S23),14,14,14,14⟩ : S84),(⟨14,(⟨bt210.1,bt210.2⟩ : S23),14,14,14,14⟩ : S84),(⟨15,(⟨bt212.1,bt212.2⟩ : S23),15,15,15,15⟩ : S84),(⟨17,(⟨bt214.1,bt214.2⟩ : S23),15,16,15,15⟩ : S84),(⟨18,(⟨bt216.1,bt216.2⟩ : S23),17,20,16,20⟩ : S84),(⟨17,(⟨bt218.1,bt218.2⟩ : S23),21,22,21,21⟩ : S84),(⟨22,(⟨bt220.1,bt220.2⟩ : S23),14,14,14,14⟩ : S84),(⟨23,(⟨bt222.1,bt222.2⟩ : S23),18,18,18,18⟩ : S84),(⟨25,(⟨bt224.1,bt224.2⟩ : S23),6,7,6,6⟩ : S84),(⟨28,(⟨bt226.1,bt226.2⟩ : S23),15,15,15,15⟩ : S84)] : List (S84)))))))))))))))))))) = some r:=H
 have A2 := zz00 A20
 clear A20
 replace H := zz14.mp H
 obtain ⟨⟨t196, t197⟩, A30, H⟩ := H
 replace H : ((feast_rows_1.f 1).bind fun bt198=>((feast_rows_1.f 1).bind fun bt200=>((feast_rows_1.f 1).bind fun bt202=>((feast_rows_1.f 1).bind fun bt204=>((feast_rows_1.f 3).bind fun bt206=>((feast_rows_1.f 5).bind fun bt208=>((feast_rows_1.f 6).bind fun bt210=>((feast_rows_1.f 6).bind fun bt212=>((feast_rows_1.f 7).bind fun bt214=>((feast_rows_1.f 7).bind fun bt216=>((feast_rows_1.f 7).bind fun bt218=>((feast_rows_1.f 8).bind fun bt220=>((feast_rows_1.f 8).bind fun bt222=>((feast_rows_1.f 9).bind fun bt224=>((feast_rows_1.f 11).bind fun bt226=>(some (([(⟨1,(⟨t192,t193⟩ : S23),1,2,1,2⟩ : S84),(⟨3,(⟨t194,t195⟩ : S23),10,10,10,10⟩ : S84),(⟨4,(⟨t196,t197⟩ : S23),15,16,15,15⟩ : S84),(⟨5,(⟨bt198.1,bt198.2⟩ : S23),17,20,16,20⟩ : S84),(⟨6,(⟨bt200.1,bt200.2⟩ : S23),21,21,21,21⟩ : S84),(⟨7,(⟨bt202.1,bt202.2⟩ : S23),22,22,22,22⟩ : S84),(⟨8,(⟨bt204.1,bt204.2⟩ : S23),23,23,22,22⟩ : S84),(⟨9,(⟨bt206.1,bt206.2⟩ : S23),25,32,25,32⟩ : S84),(⟨11,(⟨bt208.1,bt208.2⟩ : S23),15,15,15,15⟩ : S84),(⟨12,(⟨5,true⟩ : S23),14,14,14,14⟩ : S84),(⟨14,(⟨bt210.1,bt210.2⟩ : S23),14,14,14,14⟩ : S84),(⟨15,(⟨bt212.1,bt212.2⟩ : S23),15,15,15,15⟩ : S84),(⟨17,(⟨bt214.1,bt214.2⟩ : S23),15,16,15,15⟩ : S84),(⟨18,(⟨bt216.1,bt216.2⟩ : S23),17,20,16,20⟩ : S84),(⟨17,(⟨bt218.1,bt218.2⟩ : S23),21,22,21,21⟩ : S84),(⟨22,(⟨bt220.1,bt220.2⟩ : S23),14,14,14,14⟩ : S84),(⟨23,(⟨bt222.1,bt222.2⟩ : S23),18,18,18,18⟩ : S84),(⟨25,(⟨bt224.1,bt224.2⟩ : S23),6,7,6,6⟩ : S84),(⟨28,(⟨bt226.1,bt226.2⟩ : S23),15,15,15,15⟩ : S84)] : List (S84))))))))))))))))))) = some r:=H
 have A3 := zz00 A30
 clear A30
 replace H := zz14.mp H
 obtain ⟨⟨t198, t199⟩, A40, H⟩ := H
 replace H : ((feast_rows_1.f 1).bind fun bt200=>((feast_rows_1.f 1).bind fun bt202=>((feast_rows_1.f 1).bind fun bt204=>((feast_rows_1.f 3).bind fun bt206=>((feast_rows_1.f 5).bind fun bt208=>((feast_rows_1.f 6).bind fun bt210=>((feast_rows_1.f 6).bind fun bt212=>((feast_rows_1.f 7).bind fun bt214=>((feast_rows_1.f 7).bind fun bt216=>((feast_rows_1.f 7).bind fun bt218=>((feast_rows_1.f 8).bind fun bt220=>((feast_rows_1.f 8).bind fun bt222=>((feast_rows_1.f 9).bind fun bt224=>((feast_rows_1.f 11).bind fun bt226=>(some (([(⟨1,(⟨t192,t193⟩ : S23),1,2,1,2⟩ : S84),(⟨3,(⟨t194,t195⟩ : S23),10,10,10,10⟩ : S84),(⟨4,(⟨t196,t197⟩ : S23),15,16,15,15⟩ : S84),(⟨5,(⟨t198,t199⟩ : S23),17,20,16,20⟩ : S84),(⟨6,(⟨bt200.1,bt200.2⟩ : S23),21,21,21,21⟩ : S84),(⟨7,(⟨bt202.1,bt202.2⟩ : S23),22,22,22,22⟩ : S84),(⟨8,(⟨bt204.1,bt204.2⟩ : S23),23,23,22,22⟩ : S84),(⟨9,(⟨bt206.1,bt206.2⟩ : S23),25,32,25,32⟩ : S84),(⟨11,(⟨bt208.1,bt208.2⟩ : S23),15,15,15,15⟩ : S84),(⟨12,(⟨5,true⟩ : S23),14,14,14,14⟩ : S84),(⟨14,(⟨bt210.1,bt210.2⟩ : S23),14,14,14,14⟩ : S84),(⟨15,(⟨bt212.1,bt212.2⟩ : S23),15,15,15,15⟩ : S84),(⟨17,(⟨bt214.1,bt214.2⟩ : S23),15,16,15,15⟩ : S84),(⟨18,(⟨bt216.1,bt216.2⟩ : S23),17,20,16,20⟩ : S84),(⟨17,(⟨bt218.1,bt218.2⟩ : S23),21,22,21,21⟩ : S84),(⟨22,(⟨bt220.1,bt220.2⟩ : S23),14,14,14,14⟩ : S84),(⟨23,(⟨bt222.1,bt222.2⟩ : S23),18,18,18,18⟩ : S84),(⟨25,(⟨bt224.1,bt224.2⟩ : S23),6,7,6,6⟩ : S84),(⟨28,(⟨bt226.1,bt226.2⟩ : S23),15,15,15,15⟩ : S84)] : List (S84)))))))))))))))))) = some r:=H
 have A4 := zz00 A40
 clear A40
 replace H := zz14.mp H
 obtain ⟨⟨t200, t201⟩, A50, H⟩ := H
 replace H : ((feast_rows_1.f 1).bind fun bt202=>((feast_rows_1.f 1).bind fun bt204=>((feast_rows_1.f 3).bind fun bt206=>((feast_rows_1.f 5).bind fun bt208=>((feast_rows_1.f 6).bind fun bt210=>((feast_rows_1.f 6).bind fun bt212=>((feast_rows_1.f 7).bind fun bt214=>((feast_rows_1.f 7).bind fun bt216=>((feast_rows_1.f 7).bind fun bt218=>((feast_rows_1.f 8).bind fun bt220=>((feast_rows_1.f 8).bind fun bt222=>((feast_rows_1.f 9).bind fun bt224=>((feast_rows_1.f 11).bind fun bt226=>(some (([(⟨1,(⟨t192,t193⟩ : S23),1,2,1,2⟩ : S84),(⟨3,(⟨t194,t195⟩ : S23),10,10,10,10⟩ : S84),(⟨4,(⟨t196,t197⟩ : S23),15,16,15,15⟩ : S84),(⟨5,(⟨t198,t199⟩ : S23),17,20,16,20⟩ : S84),(⟨6,(⟨t200,t201⟩ : S23),21,21,21,21⟩ : S84),(⟨7,(⟨bt202.1,bt202.2⟩ : S23),22,22,22,22⟩ : S84),(⟨8,(⟨bt204.1,bt204.2⟩ : S23),23,23,22,22⟩ : S84),(⟨9,(⟨bt206.1,bt206.2⟩ : S23),25,32,25,32⟩ : S84),(⟨11,(⟨bt208.1,bt208.2⟩ : S23),15,15,15,15⟩ : S84),(⟨12,(⟨5,true⟩ : S23),14,14,14,14⟩ : S84),(⟨14,(⟨bt210.1,bt210.2⟩ : S23),14,14,14,14⟩ : S84),(⟨15,(⟨bt212.1,bt212.2⟩ : S23),15,15,15,15⟩ : S84),(⟨17,(⟨bt214.1,bt214.2⟩ : S23),15,16,15,15⟩ : S84),(⟨18,(⟨bt216.1,bt216.2⟩ : S23),17,20,16,20⟩ : S84),(⟨17,(⟨bt218.1,bt218.2⟩ : S23),21,22,21,21⟩ : S84),(⟨22,(⟨bt220.1,bt220.2⟩ : S23),14,14,14,14⟩ : S84),(⟨23,(⟨bt222.1,bt222.2⟩ : S23),18,18,18,18⟩ : S84),(⟨25,(⟨bt224.1,bt224.2⟩ : S23),6,7,6,6⟩ : S84),(⟨28,(⟨bt226.1,bt226.2⟩ : S23),15,15,15,15⟩ : S84)] : List (S84))))))))))))))))) = some r:=H
 have A5 := zz00 A50
 clear A50
 replace H := zz14.mp H
 obtain ⟨⟨t202, t203⟩, A60, H⟩ := H
 replace H : ((feast_rows_1.f 1).bind fun bt204=>((feast_rows_1.f 3).bind fun bt206=>((feast_rows_1.f 5).bind fun bt208=>((feast_rows_1.f 6).bind fun bt210=>((feast_rows_1.f 6).bind fun bt212=>((feast_rows_1.f 7).bind fun bt214=>((feast_rows_1.f 7).bind fun bt216=>((feast_rows_1.f 7).bind fun bt218=>((feast_rows_1.f 8).bind fun bt220=>((feast_rows_1.f 8).bind fun bt222=>((feast_rows_1.f 9).bind fun bt224=>((feast_rows_1.f 11).bind fun bt226=>(some (([(⟨1,(⟨t192,t193⟩ : S23),1,2,1,2⟩ : S84),(⟨3,(⟨t194,t195⟩ : S23),10,10,10,10⟩ : S84),(⟨4,(⟨t196,t197⟩ : S23),15,16,15,15⟩ : S84),(⟨5,(⟨t198,t199⟩ : S23),17,20,16,20⟩ : S84),(⟨6,(⟨t200,t201⟩ : S23),21,21,21,21⟩ : S84),(⟨7,(⟨t202,t203⟩ : S23),22,22,22,22⟩ : S84),(⟨8,(⟨bt204.1,bt204.2⟩ : S23),23,23,22,22⟩ : S84),(⟨9,(⟨bt206.1,bt206.2⟩ : S23),25,32,25,32⟩ : S84),(⟨11,(⟨bt208.1,bt208.2⟩ : S23),15,15,15,15⟩ : S84),(⟨12,(⟨5,true⟩ : S23),14,14,14,14⟩ : S84),(⟨14,(⟨bt210.1,bt210.2⟩ : S23),14,14,14,14⟩ : S84),(⟨15,(⟨bt212.1,bt212.2⟩ : S23),15,15,15,15⟩ : S84),(⟨17,(⟨bt214.1,bt214.2⟩ : S23),15,16,15,15⟩ : S84),(⟨18,(⟨bt216.1,bt216.2⟩ : S23),17,20,16,20⟩ : S84),(⟨17,(⟨bt218.1,bt218.2⟩ : S23),21,22,21,21⟩ : S84),(⟨22,(⟨bt220.1,bt220.2⟩ : S23),14,14,14,14⟩ : S84),(⟨23,(⟨bt222.1,bt222.2⟩ : S23),18,18,18,18⟩ : S84),(⟨25,(⟨bt224.1,bt224.2⟩ : S23),6,7,6,6⟩ : S84),(⟨28,(⟨bt226.1,bt226.2⟩ : S23),15,15,15,15⟩ : S84)] : List (S84)))))))))))))))) = some r:=H
 have A6 := zz00 A60
 clear A60
 replace H := zz14.mp H
 obtain ⟨⟨t204, t205⟩, A70, H⟩ := H
 replace H : ((feast_rows_1.f 3).bind fun bt206=>((feast_rows_1.f 5).bind fun bt208=>((feast_rows_1.f 6).bind fun bt210=>((feast_rows_1.f 6).bind fun bt212=>((feast_rows_1.f 7).bind fun bt214=>((feast_rows_1.f 7).bind fun bt216=>((feast_rows_1.f 7).bind fun bt218=>((feast_rows_1.f 8).bind fun bt220=>((feast_rows_1.f 8).bind fun bt222=>((feast_rows_1.f 9).bind fun bt224=>((feast_rows_1.f 11).bind fun bt226=>(some (([(⟨1,(⟨t192,t193⟩ : S23),1,2,1,2⟩ : S84),(⟨3,(⟨t194,t195⟩ : S23),10,10,10,10⟩ : S84),(⟨4,(⟨t196,t197⟩ : S23),15,16,15,15⟩ : S84),(⟨5,(⟨t198,t199⟩ : S23),17,20,16,20⟩ : S84),(⟨6,(⟨t200,t201⟩ : S23),21,21,21,21⟩ : S84),(⟨7,(⟨t202,t203⟩ : S23),22,22,22,22⟩ : S84),(⟨8,(⟨t204,t205⟩ : S23),23,23,22,22⟩ : S84),(⟨9,(⟨bt206.1,bt206.2⟩ : S23),25,32,25,32⟩ : S84),(⟨11,(⟨bt208.1,bt208.2⟩ : S23),15,15,15,15⟩ : S84),(⟨12,(⟨5,true⟩ : S23),14,14,14,14⟩ : S84),(⟨14,(⟨bt210.1,bt210.2⟩ : S23),14,14,14,14⟩ : S84),(⟨15,(⟨bt212.1,bt212.2⟩ : S23),15,15,15,15⟩ : S84),(⟨17,(⟨bt214.1,bt214.2⟩ : S23),15,16,15,15⟩ : S84),(⟨18,(⟨bt216.1,bt216.2⟩ : S23),17,20,16,20⟩ : S84),(⟨17,(⟨bt218.1,bt218.2⟩ : S23),21,22,21,21⟩ : S84),(⟨22,(⟨bt220.1,bt220.2⟩ : S23),14,14,14,14⟩ : S84),(⟨23,(⟨bt222.1,bt222.2⟩ : S23),18,18,18,18⟩ : S84),(⟨25,(⟨bt224.1,bt224.2⟩ : S23),6,7,6,6⟩ : S84),(⟨28,(⟨bt226.1,bt226.2⟩ : S23),15,15,15,15⟩ : S84)] : List (S84))))))))))))))) = some r:=H
 have A7 := zz00 A70
 clear A70
 replace H := zz14.mp H
 obtain ⟨⟨t206, t207⟩, A80, H⟩ := H
 replace H : ((feast_rows_1.f 5).bind fun bt208=>((feast_rows_1.f 6).bind fun bt210=>((feast_rows_1.f 6).bind fun bt212=>((feast_rows_1.f 7).bind fun bt214=>((feast_rows_1.f 7).bind fun bt216=>((feast_rows_1.f 7).bind fun bt218=>((feast_rows_1.f 8).bind fun bt220=>((feast_rows_1.f 8).bind fun bt222=>((feast_rows_1.f 9).bind fun bt224=>((feast_rows_1.f 11).bind fun bt226=>(some (([(⟨1,(⟨t192,t193⟩ : S23),1,2,1,2⟩ : S84),(⟨3,(⟨t194,t195⟩ : S23),10,10,10,10⟩ : S84),(⟨4,(⟨t196,t197⟩ : S23),15,16,15,15⟩ : S84),(⟨5,(⟨t198,t199⟩ : S23),17,20,16,20⟩ : S84),(⟨6,(⟨t200,t201⟩ : S23),21,21,21,21⟩ : S84),(⟨7,(⟨t202,t203⟩ : S23),22,22,22,22⟩ : S84),(⟨8,(⟨t204,t205⟩ : S23),23,23,22,22⟩ : S84),(⟨9,(⟨t206,t207⟩ : S23),25,32,25,32⟩ : S84),(⟨11,(⟨bt208.1,bt208.2⟩ : S23),15,15,15,15⟩ : S84),(⟨12,(⟨5,true⟩ : S23),14,14,14,14⟩ : S84),(⟨14,(⟨bt210.1,bt210.2⟩ : S23),14,14,14,14⟩ : S84),(⟨15,(⟨bt212.1,bt212.2⟩ : S23),15,15,15,15⟩ : S84),(⟨17,(⟨bt214.1,bt214.2⟩ : S23),15,16,15,15⟩ : S84),(⟨18,(⟨bt216.1,bt216.2⟩ : S23),17,20,16,20⟩ : S84),(⟨17,(⟨bt218.1,bt218.2⟩ : S23),21,22,21,21⟩ : S84),(⟨22,(⟨bt220.1,bt220.2⟩ : S23),14,14,14,14⟩ : S84),(⟨23,(⟨bt222.1,bt222.2⟩ : S23),18,18,18,18⟩ : S84),(⟨25,(⟨bt224.1,bt224.2⟩ : S23),6,7,6,6⟩ : S84),(⟨28,(⟨bt226.1,bt226.2⟩ : S23),15,15,15,15⟩ : S84)] : List (S84)))))))))))))) = some r:=H
 have A8 := zz00 A80
 clear A80
 replace H := zz14.mp H
 obtain ⟨⟨t208, t209⟩, A90, H⟩ := H
 replace H : ((feast_rows_1.f 6).bind fun bt210=>((feast_rows_1.f 6).bind fun bt212=>((feast_rows_1.f 7).bind fun bt214=>((feast_rows_1.f 7).bind fun bt216=>((feast_rows_1.f 7).bind fun bt218=>((feast_rows_1.f 8).bind fun bt220=>((feast_rows_1.f 8).bind fun bt222=>((feast_rows_1.f 9).bind fun bt224=>((feast_rows_1.f 11).bind fun bt226=>(some (([(⟨1,(⟨t192,t193⟩ : S23),1,2,1,2⟩ : S84),(⟨3,(⟨t194,t195⟩ : S23),10,10,10,10⟩ : S84),(⟨4,(⟨t196,t197⟩ : S23),15,16,15,15⟩ : S84),(⟨5,(⟨t198,t199⟩ : S23),17,20,16,20⟩ : S84),(⟨6,(⟨t200,t201⟩ : S23),21,21,21,21⟩ : S84),(⟨7,(⟨t202,t203⟩ : S23),22,22,22,22⟩ : S84),(⟨8,(⟨t204,t205⟩ : S23),23,23,22,22⟩ : S84),(⟨9,(⟨t206,t207⟩ : S23),25,32,25,32⟩ : S84),(⟨11,(⟨t208,t209⟩ : S23),15,15,15,15⟩ : S84),(⟨12,(⟨5,true⟩ : S23),14,14,14,14⟩ : S84),(⟨14,(⟨bt210.1,bt210.2⟩ : S23),14,14,14,14⟩ : S84),(⟨15,(⟨bt212.1,bt212.2⟩ : S23),15,15,15,15⟩ : S84),(⟨17,(⟨bt214.1,bt214.2⟩ : S23),15,16,15,15⟩ : S84),(⟨18,(⟨bt216.1,bt216.2⟩ : S23),17,20,16,20⟩ : S84),(⟨17,(⟨bt218.1,bt218.2⟩ : S23),21,22,21,21⟩ : S84),(⟨22,(⟨bt220.1,bt220.2⟩ : S23),14,14,14,14⟩ : S84),(⟨23,(⟨bt222.1,bt222.2⟩ : S23),18,18,18,18⟩ : S84),(⟨25,(⟨bt224.1,bt224.2⟩ : S23),6,7,6,6⟩ : S84),(⟨28,(⟨bt226.1,bt226.2⟩ : S23),15,15,15,15⟩ : S84)] : List (S84))))))))))))) = some r:=H
 have A9 := zz00 A90
 clear A90
 replace H := zz14.mp H
 obtain ⟨⟨t210, t211⟩, A100, H⟩ := H
 replace H : ((feast_rows_1.f 6).bind fun bt212=>((feast_rows_1.f 7).bind fun bt214=>((feast_rows_1.f 7).bind fun bt216=>((feast_rows_1.f 7).bind fun bt218=>((feast_rows_1.f 8).bind fun bt220=>((feast_rows_1.f 8).bind fun bt222=>((feast_rows_1.f 9).bind fun bt224=>((feast_rows_1.f 11).bind fun bt226=>(some (([(⟨1,(⟨t192,t193⟩ : S23),1,2,1,2⟩ : S84),(⟨3,(⟨t194,t195⟩ : S23),10,10,10,10⟩ : S84),(⟨4,(⟨t196,t197⟩ : S23),15,16,15,15⟩ : S84),(⟨5,(⟨t198,t199⟩ : S23),17,20,16,20⟩ : S84),(⟨6,(⟨t200,t201⟩ : S23),21,21,21,21⟩ : S84),(⟨7,(⟨t202,t203⟩ : S23),22,22,22,22⟩ : S84),(⟨8,(⟨t204,t205⟩ : S23),23,23,22,22⟩ : S84),(⟨9,(⟨t206,t207⟩ : S23),25,32,25,32⟩ : S84),(⟨11,(⟨t208,t209⟩ : S23),15,15,15,15⟩ : S84),(⟨12,(⟨5,true⟩ : S23),14,14,14,14⟩ : S84),(⟨14,(⟨t210,t211⟩ : S23),14,14,14,14⟩ : S84),(⟨15,(⟨bt212.1,bt212.2⟩ : S23),15,15,15,15⟩ : S84),(⟨17,(⟨bt214.1,bt214.2⟩ : S23),15,16,15,15⟩ : S84),(⟨18,(⟨bt216.1,bt216.2⟩ : S23),17,20,16,20⟩ : S84),(⟨17,(⟨bt218.1,bt218.2⟩ : S23),21,22,21,21⟩ : S84),(⟨22,(⟨bt220.1,bt220.2⟩ : S23),14,14,14,14⟩ : S84),(⟨23,(⟨bt222.1,bt222.2⟩ : S23),18,18,18,18⟩ : S84),(⟨25,(⟨bt224.1,bt224.2⟩ : S23),6,7,6,6⟩ : S84),(⟨28,(⟨bt226.1,bt226.2⟩ : S23),15,15,15,15⟩ : S84)] : List (S84)))))))))))) = some r:=H
 have A10 := zz00 A100
 clear A100
 replace H := zz14.mp H
 obtain ⟨⟨t212, t213⟩, A110, H⟩ := H
 replace H : ((feast_rows_1.f 7).bind fun bt214=>((feast_rows_1.f 7).bind fun bt216=>((feast_rows_1.f 7).bind fun bt218=>((feast_rows_1.f 8).bind fun bt220=>((feast_rows_1.f 8).bind fun bt222=>((feast_rows_1.f 9).bind fun bt224=>((feast_rows_1.f 11).bind fun bt226=>(some (([(⟨1,(⟨t192,t193⟩ : S23),1,2,1,2⟩ : S84),(⟨3,(⟨t194,t195⟩ : S23),10,10,10,10⟩ : S84),(⟨4,(⟨t196,t197⟩ : S23),15,16,15,15⟩ : S84),(⟨5,(⟨t198,t199⟩ : S23),17,20,16,20⟩ : S84),(⟨6,(⟨t200,t201⟩ : S23),21,21,21,21⟩ : S84),(⟨7,(⟨t202,t203⟩ : S23),22,22,22,22⟩ : S84),(⟨8,(⟨t204,t205⟩ : S23),23,23,22,22⟩ : S84),(⟨9,(⟨t206,t207⟩ : S23),25,32,25,32⟩ : S84),(⟨11,(⟨t208,t209⟩ : S23),15,15,15,15⟩ : S84),(⟨12,(⟨5,true⟩ : S23),14,14,14,14⟩ : S84),(⟨14,(⟨t210,t211⟩ : S23),14,14,14,14⟩ : S84),(⟨15,(⟨t212,t213⟩ : S23),15,15,15,15⟩ : S84),(⟨17,(⟨bt214.1,bt214.2⟩ : S23),15,16,15,15⟩ : S84),(⟨18,(⟨bt216.1,bt216.2⟩ : S23),17,20,16,20⟩ : S84),(⟨17,(⟨bt218.1,bt218.2⟩ : S23),21,22,21,21⟩ : S84),(⟨22,(⟨bt220.1,bt220.2⟩ : S23),14,14,14,14⟩ : S84),(⟨23,(⟨bt222.1,bt222.2⟩ : S23),18,18,18,18⟩ : S84),(⟨25,(⟨bt224.1,bt224.2⟩ : S23),6,7,6,6⟩ : S84),(⟨28,(⟨bt226.1,bt226.2⟩ : S23),15,15,15,15⟩ : S84)] : List (S84))))))))))) = some r:=H
 have A11 := zz00 A110
 clear A110
 replace H := zz14.mp H
 obtain ⟨⟨t214, t215⟩, A120, H⟩ := H
 replace H : ((feast_rows_1.f 7).bind fun bt216=>((feast_rows_1.f 7).bind fun bt218=>((feast_rows_1.f 8).bind fun bt220=>((feast_rows_1.f 8).bind fun bt222=>((feast_rows_1.f 9).bind fun bt224=>((feast_rows_1.f 11).bind fun bt226=>(some (([(⟨1,(⟨t192,t193⟩ : S23),1,2,1,2⟩ : S84),(⟨3,(⟨t194,t195⟩ : S23),10,10,10,10⟩ : S84),(⟨4,(⟨t196,t197⟩ : S23),15,16,15,15⟩ : S84),(⟨5,(⟨t198,t199⟩ : S23),17,20,16,20⟩ : S84),(⟨6,(⟨t200,t201⟩ : S23),21,21,21,21⟩ : S84),(⟨7,(⟨t202,t203⟩ : S23),22,22,22,22⟩ : S84),(⟨8,(⟨t204,t205⟩ : S23),23,23,22,22⟩ : S84),(⟨9,(⟨t206,t207⟩ : S23),25,32,25,32⟩ : S84),(⟨11,(⟨t208,t209⟩ : S23),15,15,15,15⟩ : S84),(⟨12,(⟨5,true⟩ : S23),14,14,14,14⟩ : S84),(⟨14,(⟨t210,t211⟩ : S23),14,14,14,14⟩ : S84),(⟨15,(⟨t212,t213⟩ : S23),15,15,15,15⟩ : S84),(⟨17,(⟨t214,t215⟩ : S23),15,16,15,15⟩ : S84),(⟨18,(⟨bt216.1,bt216.2⟩ : S23),17,20,16,20⟩ : S84),(⟨17,(⟨bt218.1,bt218.2⟩ : S23),21,22,21,21⟩ : S84),(⟨22,(⟨bt220.1,bt220.2⟩ : S23),14,14,14,14⟩ : S84),(⟨23,(⟨bt222.1,bt222.2⟩ : S23),18,18,18,18⟩ : S84),(⟨25,(⟨bt224.1,bt224.2⟩ : S23),6,7,6,6⟩ : S84),(⟨28,(⟨bt226.1,bt226.2⟩ : S23),15,15,15,15⟩ : S84)] : List (S84)))))))))) = some r:=H
 have A12 := zz00 A120
 clear A120
 replace H := zz14.mp H
 obtain ⟨⟨t216, t217⟩, A130, H⟩ := H
 replace H : ((feast_rows_1.f 7).bind fun bt218=>((feast_rows_1.f 8).bind fun bt220=>((feast_rows_1.f 8).bind fun bt222=>((feast_rows_1.f 9).bind fun bt224=>((feast_rows_1.f 11).bind fun bt226=>(some (([(⟨1,(⟨t192,t193⟩ : S23),1,2,1,2⟩ : S84),(⟨3,(⟨t194,t195⟩ : S23),10,10,10,10⟩ : S84),(⟨4,(⟨t196,t197⟩ : S23),15,16,15,15⟩ : S84),(⟨5,(⟨t198,t199⟩ : S23),17,20,16,20⟩ : S84),(⟨6,(⟨t200,t201⟩ : S23),21,21,21,21⟩ : S84),(⟨7,(⟨t202,t203⟩ : S23),22,22,22,22⟩ : S84),(⟨8,(⟨t204,t205⟩ : S23),23,23,22,22⟩ : S84),(⟨9,(⟨t206,t207⟩ : S23),25,32,25,32⟩ : S84),(⟨11,(⟨t208,t209⟩ : S23),15,15,15,15⟩ : S84),(⟨12,(⟨5,true⟩ : S23),14,14,14,14⟩ : S84),(⟨14,(⟨t210,t211⟩ : S23),14,14,14,14⟩ : S84),(⟨15,(⟨t212,t213⟩ : S23),15,15,15,15⟩ : S84),(⟨17,(⟨t214,t215⟩ : S23),15,16,15,15⟩ : S84),(⟨18,(⟨t216,t217⟩ : S23),17,20,16,20⟩ : S84),(⟨17,(⟨bt218.1,bt218.2⟩ : S23),21,22,21,21⟩ : S84),(⟨22,(⟨bt220.1,bt220.2⟩ : S23),14,14,14,14⟩ : S84),(⟨23,(⟨bt222.1,bt222.2⟩ : S23),18,18,18,18⟩ : S84),(⟨25,(⟨bt224.1,bt224.2⟩ : S23),6,7,6,6⟩ : S84),(⟨28,(⟨bt226.1,bt226.2⟩ : S23),15,15,15,15⟩ : S84)] : List (S84))))))))) = some r:=H
 have A13 := zz00 A130
 clear A130
 replace H := zz14.mp H
 obtain ⟨⟨t218, t219⟩, A140, H⟩ := H
 replace H : ((feast_rows_1.f 8).bind fun bt220=>((feast_rows_1.f 8).bind fun bt222=>((feast_rows_1.f 9).bind fun bt224=>((feast_rows_1.f 11).bind fun bt226=>(some (([(⟨1,(⟨t192,t193⟩ : S23),1,2,1,2⟩ : S84),(⟨3,(⟨t194,t195⟩ : S23),10,10,10,10⟩ : S84),(⟨4,(⟨t196,t197⟩ : S23),15,16,15,15⟩ : S84),(⟨5,(⟨t198,t199⟩ : S23),17,20,16,20⟩ : S84),(⟨6,(⟨t200,t201⟩ : S23),21,21,21,21⟩ : S84),(⟨7,(⟨t202,t203⟩ : S23),22,22,22,22⟩ : S84),(⟨8,(⟨t204,t205⟩ : S23),23,23,22,22⟩ : S84),(⟨9,(⟨t206,t207⟩ : S23),25,32,25,32⟩ : S84),(⟨11,(⟨t208,t209⟩ : S23),15,15,15,15⟩ : S84),(⟨12,(⟨5,true⟩ : S23),14,14,14,14⟩ : S84),(⟨14,(⟨t210,t211⟩ : S23),14,14,14,14⟩ : S84),(⟨15,(⟨t212,t213⟩ : S23),15,15,15,15⟩ : S84),(⟨17,(⟨t214,t215⟩ : S23),15,16,15,15⟩ : S84),(⟨18,(⟨t216,t217⟩ : S23),17,20,16,20⟩ : S84),(⟨17,(⟨t218,t219⟩ : S23),21,22,21,21⟩ : S84),(⟨22,(⟨bt220.1,bt220.2⟩ : S23),14,14,14,14⟩ : S84),(⟨23,(⟨bt222.1,bt222.2⟩ : S23),18,18,18,18⟩ : S84),(⟨25,(⟨bt224.1,bt224.2⟩ : S23),6,7,6,6⟩ : S84),(⟨28,(⟨bt226.1,bt226.2⟩ : S23),15,15,15,15⟩ : S84)] : List (S84)))))))) = some r:=H
 have A14 := zz00 A140
 clear A140
 replace H := zz14.mp H
 obtain ⟨⟨t220, t221⟩, A150, H⟩ := H
 replace H : ((feast_rows_1.f 8).bind fun bt222=>((feast_rows_1.f 9).bind fun bt224=>((feast_rows_1.f 11).bind fun bt226=>(some (([(⟨1,(⟨t192,t193⟩ : S23),1,2,1,2⟩ : S84),(⟨3,(⟨t194,t195⟩ : S23),10,10,10,10⟩ : S84),(⟨4,(⟨t196,t197⟩ : S23),15,16,15,15⟩ : S84),(⟨5,(⟨t198,t199⟩ : S23),17,20,16,20⟩ : S84),(⟨6,(⟨t200,t201⟩ : S23),21,21,21,21⟩ : S84),(⟨7,(⟨t202,t203⟩ : S23),22,22,22,22⟩ : S84),(⟨8,(⟨t204,t205⟩ : S23),23,23,22,22⟩ : S84),(⟨9,(⟨t206,t207⟩ : S23),25,32,25,32⟩ : S84),(⟨11,(⟨t208,t209⟩ : S23),15,15,15,15⟩ : S84),(⟨12,(⟨5,true⟩ : S23),14,14,14,14⟩ : S84),(⟨14,(⟨t210,t211⟩ : S23),14,14,14,14⟩ : S84),(⟨15,(⟨t212,t213⟩ : S23),15,15,15,15⟩ : S84),(⟨17,(⟨t214,t215⟩ : S23),15,16,15,15⟩ : S84),(⟨18,(⟨t216,t217⟩ : S23),17,20,16,20⟩ : S84),(⟨17,(⟨t218,t219⟩ : S23),21,22,21,21⟩ : S84),(⟨22,(⟨t220,t221⟩ : S23),14,14,14,14⟩ : S84),(⟨23,(⟨bt222.1,bt222.2⟩ : S23),18,18,18,18⟩ : S84),(⟨25,(⟨bt224.1,bt224.2⟩ : S23),6,7,6,6⟩ : S84),(⟨28,(⟨bt226.1,bt226.2⟩ : S23),15,15,15,15⟩ : S84)] : List (S84))))))) = some r:=H
 have A15 := zz00 A150
 clear A150
 replace H := zz14.mp H
 obtain ⟨⟨t222, t223⟩, A160, H⟩ := H
 replace H : ((feast_rows_1.f 9).bind fun bt224=>((feast_rows_1.f 11).bind fun bt226=>(some (([(⟨1,(⟨t192,t193⟩ : S23),1,2,1,2⟩ : S84),(⟨3,(⟨t194,t195⟩ : S23),10,10,10,10⟩ : S84),(⟨4,(⟨t196,t197⟩ : S23),15,16,15,15⟩ : S84),(⟨5,(⟨t198,t199⟩ : S23),17,20,16,20⟩ : S84),(⟨6,(⟨t200,t201⟩ : S23),21,21,21,21⟩ : S84),(⟨7,(⟨t202,t203⟩ : S23),22,22,22,22⟩ : S84),(⟨8,(⟨t204,t205⟩ : S23),23,23,22,22⟩ : S84),(⟨9,(⟨t206,t207⟩ : S23),25,32,25,32⟩ : S84),(⟨11,(⟨t208,t209⟩ : S23),15,15,15,15⟩ : S84),(⟨12,(⟨5,true⟩ : S23),14,14,14,14⟩ : S84),(⟨14,(⟨t210,t211⟩ : S23),14,14,14,14⟩ : S84),(⟨15,(⟨t212,t213⟩ : S23),15,15,15,15⟩ : S84),(⟨17,(⟨t214,t215⟩ : S23),15,16,15,15⟩ : S84),(⟨18,(⟨t216,t217⟩ : S23),17,20,16,20⟩ : S84),(⟨17,(⟨t218,t219⟩ : S23),21,22,21,21⟩ : S84),(⟨22,(⟨t220,t221⟩ : S23),14,14,14,14⟩ : S84),(⟨23,(⟨t222,t223⟩ : S23),18,18,18,18⟩ : S84),(⟨25,(⟨bt224.1,bt224.2⟩ : S23),6,7,6,6⟩ : S84),(⟨28,(⟨bt226.1,bt226.2⟩ : S23),15,15,15,15⟩ : S84)] : List (S84)))))) = some r:=H
 have A16 := zz00 A160
 clear A160
 replace H := zz14.mp H
 obtain ⟨⟨t224, t225⟩, A170, H⟩ := H
 replace H : ((feast_rows_1.f 11).bind fun bt226=>(some (([(⟨1,(⟨t192,t193⟩ : S23),1,2,1,2⟩ : S84),(⟨3,(⟨t194,t195⟩ : S23),10,10,10,10⟩ : S84),(⟨4,(⟨t196,t197⟩ : S23),15,16,15,15⟩ : S84),(⟨5,(⟨t198,t199⟩ : S23),17,20,16,20⟩ : S84),(⟨6,(⟨t200,t201⟩ : S23),21,21,21,21⟩ : S84),(⟨7,(⟨t202,t203⟩ : S23),22,22,22,22⟩ : S84),(⟨8,(⟨t204,t205⟩ : S23),23,23,22,22⟩ : S84),(⟨9,(⟨t206,t207⟩ : S23),25,32,25,32⟩ : S84),(⟨11,(⟨t208,t209⟩ : S23),15,15,15,15⟩ : S84),(⟨12,(⟨5,true⟩ : S23),14,14,14,14⟩ : S84),(⟨14,(⟨t210,t211⟩ : S23),14,14,14,14⟩ : S84),(⟨15,(⟨t212,t213⟩ : S23),15,15,15,15⟩ : S84),(⟨17,(⟨t214,t215⟩ : S23),15,16,15,15⟩ : S84),(⟨18,(⟨t216,t217⟩ : S23),17,20,16,20⟩ : S84),(⟨17,(⟨t218,t219⟩ : S23),21,22,21,21⟩ : S84),(⟨22,(⟨t220,t221⟩ : S23),14,14,14,14⟩ : S84),(⟨23,(⟨t222,t223⟩ : S23),18,18,18,18⟩ : S84),(⟨25,(⟨t224,t225⟩ : S23),6,7,6,6⟩ : S84),(⟨28,(⟨bt226.1,bt226.2⟩ : S23),15,15,15,15⟩ : S84)] : List (S84))))) = some r:=H
 have A17 := zz00 A170
 clear A170
 replace H := zz14.mp H
 obtain ⟨⟨t226, t227⟩, A180, H⟩ := H
 replace H : (some (([(⟨1,(⟨t192,t193⟩ : S23),1,2,1,2⟩ : S84),(⟨3,(⟨t194,t195⟩ : S23),10,10,10,10⟩ : S84),(⟨4,(⟨t196,t197⟩ : S23),15,16,15,15⟩ : S84),(⟨5,(⟨t198,t199⟩ : S23),17,20,16,20⟩ : S84),(⟨6,(⟨t200,t201⟩ : S23),21,21,21,21⟩ : S84),(⟨7,(⟨t202,t203⟩ : S23),22,22,22,22⟩ : S84),(⟨8,(⟨t204,t205⟩ : S23),23,23,22,22⟩ : S84),(⟨9,(⟨t206,t207⟩ : S23),25,32,25,32⟩ : S84),(⟨11,(⟨t208,t209⟩ : S23),15,15,15,15⟩ : S84),(⟨12,(⟨5,true⟩ : S23),14,14,14,14⟩ : S84),(⟨14,(⟨t210,t211⟩ : S23),14,14,14,14⟩ : S84),(⟨15,(⟨t212,t213⟩ : S23),15,15,15,15⟩ : S84),(⟨17,(⟨t214,t215⟩ : S23),15,16,15,15⟩ : S84),(⟨18,(⟨t216,t217⟩ : S23),17,20,16,20⟩ : S84),(⟨17,(⟨t218,t219⟩ : S23),21,22,21,21⟩ : S84),(⟨22,(⟨t220,t221⟩ : S23),14,14,14,14⟩ : S84),(⟨23,(⟨t222,t223⟩ : S23),18,18,18,18⟩ : S84),(⟨25,(⟨t224,t225⟩ : S23),6,7,6,6⟩ : S84),(⟨28,(⟨t226,t227⟩ : S23),15,15,15,15⟩ : S84)] : List (S84)))) = some r:=H
 have A18 := zz00 A180
 clear A180
 obtain ⟨y228,hy228⟩ : ∃ y_ : List (S84),y_ = (([(⟨1,(⟨t192,t193⟩ : S23),1,2,1,2⟩ : S84),(⟨3,(⟨t194,t195⟩ : S23),10,10,10,10⟩ : S84),(⟨4,(⟨t196,t197⟩ : S23),15,16,15,15⟩ : S84),(⟨5,(⟨t198,t199⟩ : S23),17,20,16,20⟩ : S84),(⟨6,(⟨t200,t201⟩ : S23),21,21,21,21⟩ : S84),(⟨7,(⟨t202,t203⟩ : S23),22,22,22,22⟩ : S84),(⟨8,(⟨t204,t205⟩ : S23),23,23,22,22⟩ : S84),(⟨9,(⟨t206,t207⟩ : S23),25,32,25,32⟩ : S84),(⟨11,(⟨t208,t209⟩ : S23),15,15,15,15⟩ : S84),(⟨12,(⟨5,true⟩ : S23),14,14,14,14⟩ : S84),(⟨14,(⟨t210,t211⟩ : S23),14,14,14,14⟩ : S84),(⟨15,(⟨t212,t213⟩ : S23),15,15,15,15⟩ : S84),(⟨17,(⟨t214,t215⟩ : S23),15,16,15,15⟩ : S84),(⟨18,(⟨t216,t217⟩ : S23),17,20,16,20⟩ : S84),(⟨17,(⟨t218,t219⟩ : S23),21,22,21,21⟩ : S84),(⟨22,(⟨t220,t221⟩ : S23),14,14,14,14⟩ : S84),(⟨23,(⟨t222,t223⟩ : S23),18,18,18,18⟩ : S84),(⟨25,(⟨t224,t225⟩ : S23),6,7,6,6⟩ : S84),(⟨28,(⟨t226,t227⟩ : S23),15,15,15,15⟩ : S84)] : List (S84))):=⟨_,rfl⟩
 replace H : (some y228) = some r:=by first|(rw [hy228];with_reducible exact H)|(have H2_:=(Option.bind_some _ _).symm.trans H;rw [hy228];with_reducible exact H2_)|(have H2_:=(Option.bind_some _ _).symm.trans H;with_reducible exact H2_)|with_reducible exact H|(rw [hy228];exact H)|exact H
 have Ny228 := zz00 hy228
 clear hy228
 obtain rfl := Option.some.inj H
 go_enter Tryd.func57, Tryd.ntmps57
 go_wp2_with (first|((with_reducible refine gate_calleeT (t:=2) rfl ?_);refine goesT_ (some 3) rfl rfl Tryd.func88 (by kernel_rfl) rfl #[.int .i64 1] rfl (by first|rfl|go_simp) (by (try simp only [List.map_toArray,List.map_cons,List.map_nil]);first|done|rfl|(simp only [List.length_drop,List.length_take];rfl)) ?_;(with_reducible refine (feast_rows_1.calls 1 t192 t193 _ A1.out).mono ?_);rintro e w19 ⟨rfl,hb⟩;refine ⟨_,rfl,?_⟩;have n0_:=zz00 (zz21 (by repeat (first|(with_reducible first|exact HB.out|apply zz03|apply zz01|apply zz02)|exact HB.out)) hb);clear HB;have HB:=n0_;clear n0_;(try clear hb);(try clear hb2);(try clear hk);(try clear hi))|((with_reducible refine gate_calleeT (t:=5) rfl ?_);refine goesT_ (some 6) rfl rfl Tryd.func88 (by kernel_rfl) rfl #[.int .i64 1] rfl (by first|rfl|go_simp) (by (try simp only [List.map_toArray,List.map_cons,List.map_nil]);first|done|rfl|(simp only [List.length_drop,List.length_take];rfl)) ?_;(with_reducible refine (feast_rows_1.calls 1 t194 t195 _ A2.out).mono ?_);rintro e w20 ⟨rfl,hb⟩;refine ⟨_,rfl,?_⟩;have n0_:=zz00 (zz21 (by repeat (first|(with_reducible first|exact HB.out|apply zz03|apply zz01|apply zz02)|exact HB.out)) hb);clear HB;have HB:=n0_;clear n0_;(try clear hb);(try clear hb2);(try clear hk);(try clear hi))|((with_reducible refine gate_calleeT (t:=8) rfl ?_);refine goesT_ (some 9) rfl rfl Tryd.func88 (by kernel_rfl) rfl #[.int .i64 1] rfl (by first|rfl|go_simp) (by (try simp only [List.map_toArray,List.map_cons,List.map_nil]);first|done|rfl|(simp only [List.length_drop,List.length_take];rfl)) ?_;(with_reducible refine (feast_rows_1.calls 1 t196 t197 _ A3.out).mono ?_);rintro e w21 ⟨rfl,hb⟩;refine ⟨_,rfl,?_⟩;have n0_:=zz00 (zz21 (by repeat (first|(with_reducible first|exact HB.out|apply zz03|apply zz01|apply zz02)|exact HB.out)) hb);clear HB;have HB:=n0_;clear n0_;(try clear hb);(try clear hb2);(try clear hk);(try clear hi))|((with_reducible refine gate_calleeT (t:=11) rfl ?_);refine goesT_ (some 12) rfl rfl Tryd.func88 (by kernel_rfl) rfl #[.int .i64 1] rfl (by first|rfl|go_simp) (by (try simp only [List.map_toArray,List.map_cons,List.map_nil]);first|done|rfl|(simp only [List.length_drop,List.length_take];rfl)) ?_;(with_reducible refine (feast_rows_1.calls 1 t198 t199 _ A4.out).mono ?_);rintro e w22 ⟨rfl,hb⟩;refine ⟨_,rfl,?_⟩;have n0_:=zz00 (zz21 (by repeat (first|(with_reducible first|exact HB.out|apply zz03|apply zz01|apply zz02)|exact HB.out)) hb);clear HB;have HB:=n0_;clear n0_;(try clear hb);(try clear hb2);(try clear hk);(try clear hi))|((with_reducible refine gate_calleeT (t:=14) rfl ?_);refine goesT_ (some 15) rfl rfl Tryd.func88 (by kernel_rfl) rfl #[.int .i64 1] rfl (by first|rfl|go_simp) (by (try simp only [List.map_toArray,List.map_cons,List.map_nil]);first|done|rfl|(simp only [List.length_drop,List.length_take];rfl)) ?_;(with_reducible refine (feast_rows_1.calls 1 t200 t201 _ A5.out).mono ?_);rintro e w23 ⟨rfl,hb⟩;refine ⟨_,rfl,?_⟩;have n0_:=zz00 (zz21 (by repeat (first|(with_reducible first|exact HB.out|apply zz03|apply zz01|apply zz02)|exact HB.out)) hb);clear HB;have HB:=n0_;clear n0_;(try clear hb);(try clear hb2);(try clear hk);(try clear hi))|((with_reducible refine gate_calleeT (t:=17) rfl ?_);refine goesT_ (some 18) rfl rfl Tryd.func88 (by kernel_rfl) rfl #[.int .i64 1] rfl (by first|rfl|go_simp) (by (try simp only [List.map_toArray,List.map_cons,List.map_nil]);first|done|rfl|(simp only [List.length_drop,List.length_take];rfl)) ?_;(with_reducible refine (feast_rows_1.calls 1 t202 t203 _ A6.out).mono ?_);rintro e w24 ⟨rfl,hb⟩;refine ⟨_,rfl,?_⟩;have n0_:=zz00 (zz21 (by repeat (first|(with_reducible first|exact HB.out|apply zz03|apply zz01|apply zz02)|exact HB.out)) hb);clear HB;have HB:=n0_;clear n0_;(try clear hb);(try clear hb2);(try clear hk);(try clear hi))|((with_reducible refine gate_calleeT (t:=20) rfl ?_);refine goesT_ (some 21) rfl rfl Tryd.func88 (by kernel_rfl) rfl #[.int .i64 1] rfl (by first|rfl|go_simp) (by (try simp only [List.map_toArray,List.map_cons,List.map_nil]);first|done|rfl|(simp only [List.length_drop,List.length_take];rfl)) ?_;(with_reducible refine (feast_rows_1.calls 1 t204 t205 _ A7.out).mono ?_);rintro e w25 ⟨rfl,hb⟩;refine ⟨_,rfl,?_⟩;have n0_:=zz00 (zz21 (by repeat (first|(with_reducible first|exact HB.out|apply zz03|apply zz01|apply zz02)|exact HB.out)) hb);clear HB;have HB:=n0_;clear n0_;(try clear hb);(try clear hb2);(try clear hk);(try clear hi))|((with_reducible refine gate_calleeT (t:=23) rfl ?_);refine goesT_ (some 24) rfl rfl Tryd.func88 (by kernel_rfl) rfl #[.int .i64 3] rfl (by first|rfl|go_simp) (by (try simp only [List.map_toArray,List.map_cons,List.map_nil]);first|done|rfl|(simp only [List.length_drop,List.length_take];rfl)) ?_;(with_reducible refine (feast_rows_1.calls 3 t206 t207 _ A8.out).mono ?_);rintro e w26 ⟨rfl,hb⟩;refine ⟨_,rfl,?_⟩;have n0_:=zz00 (zz21 (by repeat (first|(with_reducible first|exact HB.out|apply zz03|apply zz01|apply zz02)|exact HB.out)) hb);clear HB;have HB:=n0_;clear n0_;(try clear hb);(try clear hb2);(try clear hk);(try clear hi))|((with_reducible refine gate_calleeT (t:=26) rfl ?_);refine goesT_ (some 27) rfl rfl Tryd.func88 (by kernel_rfl) rfl #[.int .i64 5] rfl (by first|rfl|go_simp) (by (try simp only [List.map_toArray,List.map_cons,List.map_nil]);first|done|rfl|(simp only [List.length_drop,List.length_take];rfl)) ?_;(with_reducible refine (feast_rows_1.calls 5 t208 t209 _ A9.out).mono ?_);rintro e w27 ⟨rfl,hb⟩;refine ⟨_,rfl,?_⟩;have n0_:=zz00 (zz21 (by repeat (first|(with_reducible first|exact HB.out|apply zz03|apply zz01|apply zz02)|exact HB.out)) hb);clear HB;have HB:=n0_;clear n0_;(try clear hb);(try clear hb2);(try clear hk);(try clear hi))|((with_reducible refine gate_calleeT (t:=31) rfl ?_);refine goesT_ (some 32) rfl rfl Tryd.func88 (by kernel_rfl) rfl #[.int .i64 6] rfl (by first|rfl|go_simp) (by (try simp only [List.map_toArray,List.map_cons,List.map_nil]);first|done|rfl|(simp only [List.length_drop,List.length_take];rfl)) ?_;(with_reducible refine (feast_rows_1.calls 6 t210 t211 _ A10.out).mono ?_);rintro e w28 ⟨rfl,hb⟩;refine ⟨_,rfl,?_⟩;have n0_:=zz00 (zz21 (by repeat (first|(with_reducible first|exact HB.out|apply zz03|apply zz01|apply zz02)|exact HB.out)) hb);clear HB;have HB:=n0_;clear n0_;(try clear hb);(try clear hb2);(try clear hk);(try clear hi))|((with_reducible refine gate_calleeT (t:=34) rfl ?_);refine goesT_ (some 35) rfl rfl Tryd.func88 (by kernel_rfl) rfl #[.int .i64 6] rfl (by first|rfl|go_simp) (by (try simp only [List.map_toArray,List.map_cons,List.map_nil]);first|done|rfl|(simp only [List.length_drop,List.length_take];rfl)) ?_;(with_reducible refine (feast_rows_1.calls 6 t212 t213 _ A11.out).mono ?_);rintro e w29 ⟨rfl,hb⟩;refine ⟨_,rfl,?_⟩;have n0_:=zz00 (zz21 (by repeat (first|(with_reducible first|exact HB.out|apply zz03|apply zz01|apply zz02)|exact HB.out)) hb);clear HB;have HB:=n0_;clear n0_;(try clear hb);(try clear hb2);(try clear hk);(try clear hi))|((with_reducible refine gate_calleeT (t:=37) rfl ?_);refine goesT_ (some 38) rfl rfl Tryd.func88 (by kernel_rfl) rfl #[.int .i64 7] rfl (by first|rfl|go_simp) (by (try simp only [List.map_toArray,List.map_cons,List.map_nil]);first|done|rfl|(simp only [List.length_drop,List.length_take];rfl)) ?_;(with_reducible refine (feast_rows_1.calls 7 t214 t215 _ A12.out).mono ?_);rintro e w30 ⟨rfl,hb⟩;refine ⟨_,rfl,?_⟩;have n0_:=zz00 (zz21 (by repeat (first|(with_reducible first|exact HB.out|apply zz03|apply zz01|apply zz02)|exact HB.out)) hb);clear HB;have HB:=n0_;clear n0_;(try clear hb);(try clear hb2);(try clear hk);(try clear hi))|((with_reducible refine gate_calleeT (t:=40) rfl ?_);refine goesT_ (some 41) rfl rfl Tryd.func88 (by kernel_rfl) rfl #[.int .i64 7] rfl (by first|rfl|go_simp) (by (try simp only [List.map_toArray,List.map_cons,List.map_nil]);first|done|rfl|(simp only [List.length_drop,List.length_take];rfl)) ?_;(with_reducible refine (feast_rows_1.calls 7 t216 t217 _ A13.out).mono ?_);rintro e w31 ⟨rfl,hb⟩;refine ⟨_,rfl,?_⟩;have n0_:=zz00 (zz21 (by repeat (first|(with_reducible first|exact HB.out|apply zz03|apply zz01|apply zz02)|exact HB.out)) hb);clear HB;have HB:=n0_;clear n0_;(try clear hb);(try clear hb2);(try clear hk);(try clear hi))|((with_reducible refine gate_calleeT (t:=43) rfl ?_);refine goesT_ (some 44) rfl rfl Tryd.func88 (by kernel_rfl) rfl #[.int .i64 7] rfl (by first|rfl|go_simp) (by (try simp only [List.map_toArray,List.map_cons,List.map_nil]);first|done|rfl|(simp only [List.length_drop,List.length_take];rfl)) ?_;(with_reducible refine (feast_rows_1.calls 7 t218 t219 _ A14.out).mono ?_);rintro e w32 ⟨rfl,hb⟩;refine ⟨_,rfl,?_⟩;have n0_:=zz00 (zz21 (by repeat (first|(with_reducible first|exact HB.out|apply zz03|apply zz01|apply zz02)|exact HB.out)) hb);clear HB;have HB:=n0_;clear n0_;(try clear hb);(try clear hb2);(try clear hk);(try clear hi))|((with_reducible refine gate_calleeT (t:=46) rfl ?_);refine goesT_ (some 47) rfl rfl Tryd.func88 (by kernel_rfl) rfl #[.int .i64 8] rfl (by first|rfl|go_simp) (by (try simp only [List.map_toArray,List.map_cons,List.map_nil]);first|done|rfl|(simp only [List.length_drop,List.length_take];rfl)) ?_;(with_reducible refine (feast_rows_1.calls 8 t220 t221 _ A15.out).mono ?_);rintro e w33 ⟨rfl,hb⟩;refine ⟨_,rfl,?_⟩;have n0_:=zz00 (zz21 (by repeat (first|(with_reducible first|exact HB.out|apply zz03|apply zz01|apply zz02)|exact HB.out)) hb);clear HB;have HB:=n0_;clear n0_;(try clear hb);(try clear hb2);(try clear hk);(try clear hi))|((with_reducible refine gate_calleeT (t:=49) rfl ?_);refine goesT_ (some 50) rfl rfl Tryd.func88 (by kernel_rfl) rfl #[.int .i64 8] rfl (by first|rfl|go_simp) (by (try simp only [List.map_toArray,List.map_cons,List.map_nil]);first|done|rfl|(simp only [List.length_drop,List.length_take];rfl)) ?_;(with_reducible refine (feast_rows_1.calls 8 t222 t223 _ A16.out).mono ?_);rintro e w34 ⟨rfl,hb⟩;refine ⟨_,rfl,?_⟩;have n0_:=zz00 (zz21 (by repeat (first|(with_reducible first|exact HB.out|apply zz03|apply zz01|apply zz02)|exact HB.out)) hb);clear HB;have HB:=n0_;clear n0_;(try clear hb);(try clear hb2);(try clear hk);(try clear hi))|((with_reducible refine gate_calleeT (t:=52) rfl ?_);refine goesT_ (some 53) rfl rfl Tryd.func88 (by kernel_rfl) rfl #[.int .i64 9] rfl (by first|rfl|go_simp) (by (try simp only [List.map_toArray,List.map_cons,List.map_nil]);first|done|rfl|(simp only [List.length_drop,List.length_take];rfl)) ?_;(with_reducible refine (feast_rows_1.calls 9 t224 t225 _ A17.out).mono ?_);rintro e w35 ⟨rfl,hb⟩;refine ⟨_,rfl,?_⟩;have n0_:=zz00 (zz21 (by repeat (first|(with_reducible first|exact HB.out|apply zz03|apply zz01|apply zz02)|exact HB.out)) hb);clear HB;have HB:=n0_;clear n0_;(try clear hb);(try clear hb2);(try clear hk);(try clear hi))|((with_reducible refine gate_calleeT (t:=55) rfl ?_);refine goesT_ (some 56) rfl rfl Tryd.func88 (by kernel_rfl) rfl #[.int .i64 11] rfl (by first|rfl|go_simp) (by (try simp only [List.map_toArray,List.map_cons,List.map_nil]);first|done|rfl|(simp only [List.length_drop,List.length_take];rfl)) ?_;(with_reducible refine (feast_rows_1.calls 11 t226 t227 _ A18.out).mono ?_);rintro e w36 ⟨rfl,hb⟩;refine ⟨_,rfl,?_⟩;have n0_:=zz00 (zz21 (by repeat (first|(with_reducible first|exact HB.out|apply zz03|apply zz01|apply zz02)|exact HB.out)) hb);clear HB;have HB:=n0_;clear n0_;(try clear hb);(try clear hb2);(try clear hk);(try clear hi))|((with_reducible refine zz24 (N:=58) rfl ?_);refine Kd.R_lit k84 _ 84 ?hg (N:=58) ?hd (xs:=([(⟨1,(⟨t192,t193⟩ : S23),1,2,1,2⟩ : S84),(⟨3,(⟨t194,t195⟩ : S23),10,10,10,10⟩ : S84),(⟨4,(⟨t196,t197⟩ : S23),15,16,15,15⟩ : S84),(⟨5,(⟨t198,t199⟩ : S23),17,20,16,20⟩ : S84),(⟨6,(⟨t200,t201⟩ : S23),21,21,21,21⟩ : S84),(⟨7,(⟨t202,t203⟩ : S23),22,22,22,22⟩ : S84),(⟨8,(⟨t204,t205⟩ : S23),23,23,22,22⟩ : S84),(⟨9,(⟨t206,t207⟩ : S23),25,32,25,32⟩ : S84),(⟨11,(⟨t208,t209⟩ : S23),15,15,15,15⟩ : S84),(⟨12,(⟨5,true⟩ : S23),14,14,14,14⟩ : S84),(⟨14,(⟨t210,t211⟩ : S23),14,14,14,14⟩ : S84),(⟨15,(⟨t212,t213⟩ : S23),15,15,15,15⟩ : S84),(⟨17,(⟨t214,t215⟩ : S23),15,16,15,15⟩ : S84),(⟨18,(⟨t216,t217⟩ : S23),17,20,16,20⟩ : S84),(⟨17,(⟨t218,t219⟩ : S23),21,22,21,21⟩ : S84),(⟨22,(⟨t220,t221⟩ : S23),14,14,14,14⟩ : S84),(⟨23,(⟨t222,t223⟩ : S23),18,18,18,18⟩ : S84),(⟨25,(⟨t224,t225⟩ : S23),6,7,6,6⟩ : S84),(⟨28,(⟨t226,t227⟩ : S23),15,15,15,15⟩ : S84)] : List (S84))) (inner:=[.int .i64 1,.int .i64 t192,.bool t193,.int .i64 1,.int .i64 2,.int .i64 1,.int .i64 2,.int .i64 3,.int .i64 t194,.bool t195,.int .i64 10,.int .i64 10,.int .i64 10,.int .i64 10,.int .i64 4,.int .i64 t196,.bool t197,.int .i64 15,.int .i64 16,.int .i64 15,.int .i64 15,.int .i64 5,.int .i64 t198,.bool t199,.int .i64 17,.int .i64 20,.int .i64 16,.int .i64 20,.int .i64 6,.int .i64 t200,.bool t201,.int .i64 21,.int .i64 21,.int .i64 21,.int .i64 21,.int .i64 7,.int .i64 t202,.bool t203,.int .i64 22,.int .i64 22,.int .i64 22,.int .i64 22,.int .i64 8,.int .i64 t204,.bool t205,.int .i64 23,.int .i64 23,.int .i64 22,.int .i64 22,.int .i64 9,.int .i64 t206,.bool t207,.int .i64 25,.int .i64 32,.int .i64 25,.int .i64 32,.int .i64 11,.int .i64 t208,.bool t209,.int .i64 15,.int .i64 15,.int .i64 15,.int .i64 15,.int .i64 12,.int .i64 5,.bool true,.int .i64 14,.int .i64 14,.int .i64 14,.int .i64 14,.int .i64 14,.int .i64 t210,.bool t211,.int .i64 14,.int .i64 14,.int .i64 14,.int .i64 14,.int .i64 15,.int .i64 t212,.bool t213,.int .i64 15,.int .i64 15,.int .i64 15,.int .i64 15,.int .i64 17,.int .i64 t214,.bool t215,.int .i64 15,.int .i64 16,.int .i64 15,.int .i64 15,.int .i64 18,.int .i64 t216,.bool t217,.int .i64 17,.int .i64 20,.int .i64 16,.int .i64 20,.int .i64 17,.int .i64 t218,.bool t219,.int .i64 21,.int .i64 22,.int .i64 21,.int .i64 21,.int .i64 22,.int .i64 t220,.bool t221,.int .i64 14,.int .i64 14,.int .i64 14,.int .i64 14,.int .i64 23,.int .i64 t222,.bool t223,.int .i64 18,.int .i64 18,.int .i64 18,.int .i64 18,.int .i64 25,.int .i64 t224,.bool t225,.int .i64 6,.int .i64 7,.int .i64 6,.int .i64 6,.int .i64 28,.int .i64 t226,.bool t227,.int .i64 15,.int .i64 15,.int .i64 15,.int .i64 15]) (ok:=fun _=>True) (okp:=fun _=>True) ?hr ?hp (fun _ hk=>hk) trivial (Below.refl _ _) (Nat.le_refl _) (by simp) ?_;(case hd=>rfl);(case hg=>rfl);(case hr=>first|(go_simp;done)|(go_simp;rfl));(case hp=>exact (Reps.c7 (show Kd.M k84 _ _ _ (⟨1,(⟨t192,t193⟩ : S23),1,2,1,2⟩ : S84) [.int .i64 1,.int .i64 t192,.bool t193,.int .i64 1,.int .i64 2,.int .i64 1,.int .i64 2] from (k84_mkM _ _ _ (⟨1,(⟨t192,t193⟩ : S23),1,2,1,2⟩ : S84) )) (Reps.c7 (show Kd.M k84 _ _ _ (⟨3,(⟨t194,t195⟩ : S23),10,10,10,10⟩ : S84) [.int .i64 3,.int .i64 t194,.bool t195,.int .i64 10,.int .i64 10,.int .i64 10,.int .i64 10] from (k84_mkM _ _ _ (⟨3,(⟨t194,t195⟩ : S23),10,10,10,10⟩ : S84) )) (Reps.c7 (show Kd.M k84 _ _ _ (⟨4,(⟨t196,t197⟩ : S23),15,16,15,15⟩ : S84) [.int .i64 4,.int .i64 t196,.bool t197,.int .i64 15,.int .i64 16,.int .i64 15,.int .i64 15] from (k84_mkM _ _ _ (⟨4,(⟨t196,t197⟩ : S23),15,16,15,15⟩ : S84) )) (Reps.c7 (show Kd.M k84 _ _ _ (⟨5,(⟨t198,t199⟩ : S23),17,20,16,20⟩ : S84) [.int .i64 5,.int .i64 t198,.bool t199,.int .i64 17,.int .i64 20,.int .i64 16,.int .i64 20] from (k84_mkM _ _ _ (⟨5,(⟨t198,t199⟩ : S23),17,20,16,20⟩ : S84) )) (Reps.c7 (show Kd.M k84 _ _ _ (⟨6,(⟨t200,t201⟩ : S23),21,21,21,21⟩ : S84) [.int .i64 6,.int .i64 t200,.bool t201,.int .i64 21,.int .i64 21,.int .i64 21,.int .i64 21] from (k84_mkM _ _ _ (⟨6,(⟨t200,t201⟩ : S23),21,21,21,21⟩ : S84) )) (Reps.c7 (show Kd.M k84 _ _ _ (⟨7,(⟨t202,t203⟩ : S23),22,22,22,22⟩ : S84) [.int .i64 7,.int .i64 t202,.bool t203,.int .i64 22,.int .i64 22,.int .i64 22,.int .i64 22] from (k84_mkM _ _ _ (⟨7,(⟨t202,t203⟩ : S23),22,22,22,22⟩ : S84) )) (Reps.c7 (show Kd.M k84 _ _ _ (⟨8,(⟨t204,t205⟩ : S23),23,23,22,22⟩ : S84) [.int .i64 8,.int .i64 t204,.bool t205,.int .i64 23,.int .i64 23,.int .i64 22,.int .i64 22] from (k84_mkM _ _ _ (⟨8,(⟨t204,t205⟩ : S23),23,23,22,22⟩ : S84) )) (Reps.c7 (show Kd.M k84 _ _ _ (⟨9,(⟨t206,t207⟩ : S23),25,32,25,32⟩ : S84) [.int .i64 9,.int .i64 t206,.bool t207,.int .i64 25,.int .i64 32,.int .i64 25,.int .i64 32] from (k84_mkM _ _ _ (⟨9,(⟨t206,t207⟩ : S23),25,32,25,32⟩ : S84) )) (Reps.c7 (show Kd.M k84 _ _ _ (⟨11,(⟨t208,t209⟩ : S23),15,15,15,15⟩ : S84) [.int .i64 11,.int .i64 t208,.bool t209,.int .i64 15,.int .i64 15,.int .i64 15,.int .i64 15] from (k84_mkM _ _ _ (⟨11,(⟨t208,t209⟩ : S23),15,15,15,15⟩ : S84) )) (Reps.c7 (show Kd.M k84 _ _ _ (⟨12,(⟨5,true⟩ : S23),14,14,14,14⟩ : S84) [.int .i64 12,.int .i64 5,.bool true,.int .i64 14,.int .i64 14,.int .i64 14,.int .i64 14] from (k84_mkM _ _ _ (⟨12,(⟨5,true⟩ : S23),14,14,14,14⟩ : S84) )) (Reps.c7 (show Kd.M k84 _ _ _ (⟨14,(⟨t210,t211⟩ : S23),14,14,14,14⟩ : S84) [.int .i64 14,.int .i64 t210,.bool t211,.int .i64 14,.int .i64 14,.int .i64 14,.int .i64 14] from (k84_mkM _ _ _ (⟨14,(⟨t210,t211⟩ : S23),14,14,14,14⟩ : S84) )) (Reps.c7 (show Kd.M k84 _ _ _ (⟨15,(⟨t212,t213⟩ : S23),15,15,15,15⟩ : S84) [.int .i64 15,.int .i64 t212,.bool t213,.int .i64 15,.int .i64 15,.int .i64 15,.int .i64 15] from (k84_mkM _ _ _ (⟨15,(⟨t212,t213⟩ : S23),15,15,15,15⟩ : S84) )) (Reps.c7 (show Kd.M k84 _ _ _ (⟨17,(⟨t214,t215⟩ : S23),15,16,15,15⟩ : S84) [.int .i64 17,.int .i64 t214,.bool t215,.int .i64 15,.int .i64 16,.int .i64 15,.int .i64 15] from (k84_mkM _ _ _ (⟨17,(⟨t214,t215⟩ : S23),15,16,15,15⟩ : S84) )) (Reps.c7 (show Kd.M k84 _ _ _ (⟨18,(⟨t216,t217⟩ : S23),17,20,16,20⟩ : S84) [.int .i64 18,.int .i64 t216,.bool t217,.int .i64 17,.int .i64 20,.int .i64 16,.int .i64 20] from (k84_mkM _ _ _ (⟨18,(⟨t216,t217⟩ : S23),17,20,16,20⟩ : S84) )) (Reps.c7 (show Kd.M k84 _ _ _ (⟨17,(⟨t218,t219⟩ : S23),21,22,21,21⟩ : S84) [.int .i64 17,.int .i64 t218,.bool t219,.int .i64 21,.int .i64 22,.int .i64 21,.int .i64 21] from (k84_mkM _ _ _ (⟨17,(⟨t218,t219⟩ : S23),21,22,21,21⟩ : S84) )) (Reps.c7 (show Kd.M k84 _ _ _ (⟨22,(⟨t220,t221⟩ : S23),14,14,14,14⟩ : S84) [.int .i64 22,.int .i64 t220,.bool t221,.int .i64 14,.int .i64 14,.int .i64 14,.int .i64 14] from (k84_mkM _ _ _ (⟨22,(⟨t220,t221⟩ : S23),14,14,14,14⟩ : S84) )) (Reps.c7 (show Kd.M k84 _ _ _ (⟨23,(⟨t222,t223⟩ : S23),18,18,18,18⟩ : S84) [.int .i64 23,.int .i64 t222,.bool t223,.int .i64 18,.int .i64 18,.int .i64 18,.int .i64 18] from (k84_mkM _ _ _ (⟨23,(⟨t222,t223⟩ : S23),18,18,18,18⟩ : S84) )) (Reps.c7 (show Kd.M k84 _ _ _ (⟨25,(⟨t224,t225⟩ : S23),6,7,6,6⟩ : S84) [.int .i64 25,.int .i64 t224,.bool t225,.int .i64 6,.int .i64 7,.int .i64 6,.int .i64 6] from (k84_mkM _ _ _ (⟨25,(⟨t224,t225⟩ : S23),6,7,6,6⟩ : S84) )) (Reps.c7 (show Kd.M k84 _ _ _ (⟨28,(⟨t226,t227⟩ : S23),15,15,15,15⟩ : S84) [.int .i64 28,.int .i64 t226,.bool t227,.int .i64 15,.int .i64 15,.int .i64 15,.int .i64 15] from (k84_mkM _ _ _ (⟨28,(⟨t226,t227⟩ : S23),15,15,15,15⟩ : S84) )) (Reps.none _ _)))))))))))))))))))));intro v229 w37 ho38 hb hg_ hnew_;clear hg_ hnew_;(first|rw [← Ny228.out] at ho38|(simp only [Int.reduceToNat] at ho38;rw [← Ny228.out] at ho38));have n0_:=zz00 (Kd.R_lower ho38 (zz22 (by repeat (first|(with_reducible first|exact HB.out|apply zz03|apply zz01|apply zz02)|exact HB.out))));have n1_:=zz00 (zz21 (by repeat (first|(with_reducible first|exact HB.out|apply zz03|apply zz01|apply zz02)|exact HB.out)) hb);clear HB;have HO230:=n0_;have HB:=n1_;clear n0_ n1_;clear hb ho38))
 go_ret
 exact ⟨_,by first|rfl|(simp [errW_none,errW_some] <;> rfl)|(simp [*,errW_none,errW_some] <;> rfl),by (with_reducible repeat (first|apply zz05|apply zz04|apply zz06));exact HO230.out,by repeat (first|(with_reducible first|exact HB.out|apply zz03|apply zz01|apply zz02)|exact HB.out)⟩

end Go.Proofs.YtflpddhoiafhcaaDoor.T
end

section
-- Written by wip/hprint.py of this repo (holes typed by hand, all else by a program) over the seat YtflpddhoiafhcaaDoor.
namespace Go.Proofs.YtflpddhoiafhcaaDoor.T
open Go.Proofs.YtflpddhoiafhcaaDoor.H
open Go.RowKit Go.Proofs.YtflpddhoiafhcaaDoorW.PrintWords Go.Proofs.YtflpddhoiafhcaaDoorW.PrintLast Go.Proofs.YtflpddhoiafhcaaDoorW.PrintMore
attribute [local go_sem] max2_int min2_int max_two min_two max_three min_three max_four min_four   -- for this text's walks alone
set_option linter.unusedVariables false
set_option linter.unusedSimpArgs false

mutual
def feast_Of.j0 : Nat → Int → Int → Bool → Option ((List (S48)) × Int)
  | 0, _, _, _ => none
  | k + 1, x0, x1, x14 => if x14 = true then (some (([] : List (S48)), 1)) else (if x0 < 1 then (some (([] : List (S48)), 2)) else (if x0 > 9999 then (some (([] : List (S48)), 2)) else ((feast_rows.f).bind fun t231 => (feast_Of.l0 k x0 x1 ([] : List (S48)) t231 (t231.length : Int) 0))))
def feast_Of.l0 : Nat → Int → Int → List (S48) → List (S84) → Int → Int → Option ((List (S48)) × Int)
  | 0, _, _, _, _, _, _ => none
  | k + 1, x0, x1, x6, x28, x29, x30 => if x30 < x29 then (if 0 ≤ x30 then (if x30 < (x28.length : Int) then (if x1 = 1 then (feast_Of.j2 k x0 x1 x6 ((rd_T84 x28 x30).f4) ((rd_T84 x28 x30).f5) x28 x29 x30 ((rd_T84 x28 x30).f0) ((rd_T84 x28 x30).f1.f0) ((rd_T84 x28 x30).f1.f1) ((rd_T84 x28 x30).f2) ((rd_T84 x28 x30).f3) ((rd_T84 x28 x30).f4) ((rd_T84 x28 x30).f5)) else (feast_Of.j2 k x0 x1 x6 ((rd_T84 x28 x30).f2) ((rd_T84 x28 x30).f3) x28 x29 x30 ((rd_T84 x28 x30).f0) ((rd_T84 x28 x30).f1.f0) ((rd_T84 x28 x30).f1.f1) ((rd_T84 x28 x30).f2) ((rd_T84 x28 x30).f3) ((rd_T84 x28 x30).f4) ((rd_T84 x28 x30).f5))) else (none)) else (none)) else ((feast_Sort.f x6).bind fun t234 => (some (t234, 0)))
def feast_Of.j2 : Nat → Int → Int → List (S48) → Int → Int → List (S84) → Int → Int → Int → Int → Bool → Int → Int → Int → Int → Option ((List (S48)) × Int)
  | 0, _, _, _, _, _, _, _, _, _, _, _, _, _, _, _ => none
  | k + 1, x0, x1, x6, x9, x10, x28, x29, x30, x239000, x239001, x239002, x239003, x239004, x239005, x239006 => (heb_ToDay.f k x0 x239001 x239002 1).bind fun bt239 => (feast_Of.l1 k x0 x1 x6 x10 bt239.1 bt239.2 x9 x28 x29 x30 x239000 x239001 x239002 x239003 x239004 x239005 x239006)
def feast_Of.l1 : Nat → Int → Int → List (S48) → Int → Int → Int → Int → List (S84) → Int → Int → Int → Int → Bool → Int → Int → Int → Int → Option ((List (S48)) × Int)
  | 0, _, _, _, _, _, _, _, _, _, _, _, _, _, _, _, _, _ => none
  | k + 1, x0, x1, x6, x10, x11, x12, x13, x28, x29, x30, x239000, x239001, x239002, x239003, x239004, x239005, x239006 => if x12 = 0 then (if x13 ≤ x10 then (if x6.length < 8796093022208 then (feast_Of.l1 k x0 x1 (x6 ++ [(⟨x239000, wrap64 ((wrap64 (x11 + x13)) - 1)⟩ : S48)]) x10 x11 x12 (wrap64 (x13 + 1)) x28 x29 x30 x239000 x239001 x239002 x239003 x239004 x239005 x239006) else (none)) else (feast_Of.l0 k x0 x1 x6 x28 x29 (wrap64 (x30 + 1)))) else (feast_Of.l0 k x0 x1 x6 x28 x29 (wrap64 (x30 + 1)))
end
def feast_Of.f (k : Nat) (a0 : Int) (a1 : Int) : Option ((List (S48)) × Int) := if a1 = 0 then (feast_Of.j0 k a0 a1 false) else (feast_Of.j0 k a0 a1 (a1 != 1))
theorem feast_Of.mono_l : ∀ k, (∀ y0 y1 y2, LeO (feast_Of.j0 k y0 y1 y2) (feast_Of.j0 (k + 1) y0 y1 y2)) ∧ (∀ y0 y1 y2 y3 y4 y5, LeO (feast_Of.l0 k y0 y1 y2 y3 y4 y5) (feast_Of.l0 (k + 1) y0 y1 y2 y3 y4 y5)) ∧ (∀ y0 y1 y2 y3 y4 y5 y6 y7 y8 y9 y10 y11 y12 y13 y14, LeO (feast_Of.j2 k y0 y1 y2 y3 y4 y5 y6 y7 y8 y9 y10 y11 y12 y13 y14) (feast_Of.j2 (k + 1) y0 y1 y2 y3 y4 y5 y6 y7 y8 y9 y10 y11 y12 y13 y14)) ∧ (∀ y0 y1 y2 y3 y4 y5 y6 y7 y8 y9 y10 y11 y12 y13 y14 y15 y16, LeO (feast_Of.l1 k y0 y1 y2 y3 y4 y5 y6 y7 y8 y9 y10 y11 y12 y13 y14 y15 y16) (feast_Of.l1 (k + 1) y0 y1 y2 y3 y4 y5 y6 y7 y8 y9 y10 y11 y12 y13 y14 y15 y16))
 | 0 => ⟨fun _ _ _ r h => by simp [feast_Of.j0] at h, fun _ _ _ _ _ _ r h => by simp [feast_Of.l0] at h, fun _ _ _ _ _ _ _ _ _ _ _ _ _ _ _ r h => by simp [feast_Of.j2] at h, fun _ _ _ _ _ _ _ _ _ _ _ _ _ _ _ _ _ r h => by simp [feast_Of.l1] at h⟩
 | k + 1 => by
  obtain ⟨ih0, ih1, ih2, ih3⟩ := feast_Of.mono_l k
  refine ⟨?_, ?_, ?_, ?_⟩
  ·
   intro y0 y1 y2
   unfold feast_Of.j0
   repeat' first
   | (with_reducible exact ih0 _ _ _)
   | (with_reducible exact ih1 _ _ _ _ _ _)
   | (with_reducible exact ih2 _ _ _ _ _ _ _ _ _ _ _ _ _ _ _)
   | (with_reducible exact ih3 _ _ _ _ _ _ _ _ _ _ _ _ _ _ _ _ _)
   | (with_reducible exact heb_ToDay.mono _ _ _ _ _)
   | (with_reducible exact LeO.refl _)
   | (with_reducible exact LeO.none _)
   | (with_reducible refine LeO.ite ?_ ?_)
   | (with_reducible refine LeO.bind ?_ (fun _ => ?_))
   | exact ih0 _ _ _
   | exact ih1 _ _ _ _ _ _
   | exact ih2 _ _ _ _ _ _ _ _ _ _ _ _ _ _ _
   | exact ih3 _ _ _ _ _ _ _ _ _ _ _ _ _ _ _ _ _
   | exact heb_ToDay.mono _ _ _ _ _
   | exact LeO.none _
   | refine LeO.ite ?_ ?_
   | refine LeO.bind ?_ (fun _ => ?_)
  ·
   intro y0 y1 y2 y3 y4 y5
   unfold feast_Of.l0
   repeat' first
   | (with_reducible exact ih0 _ _ _)
   | (with_reducible exact ih1 _ _ _ _ _ _)
   | (with_reducible exact ih2 _ _ _ _ _ _ _ _ _ _ _ _ _ _ _)
   | (with_reducible exact ih3 _ _ _ _ _ _ _ _ _ _ _ _ _ _ _ _ _)
   | (with_reducible exact heb_ToDay.mono _ _ _ _ _)
   | (with_reducible exact LeO.refl _)
   | (with_reducible exact LeO.none _)
   | (with_reducible refine LeO.ite ?_ ?_)
   | (with_reducible refine LeO.bind ?_ (fun _ => ?_))
   | exact ih0 _ _ _
   | exact ih1 _ _ _ _ _ _
   | exact ih2 _ _ _ _ _ _ _ _ _ _ _ _ _ _ _
   | exact ih3 _ _ _ _ _ _ _ _ _ _ _ _ _ _ _ _ _
   | exact heb_ToDay.mono _ _ _ _ _
   | exact LeO.none _
   | refine LeO.ite ?_ ?_
   | refine LeO.bind ?_ (fun _ => ?_)
  ·
   intro y0 y1 y2 y3 y4 y5 y6 y7 y8 y9 y10 y11 y12 y13 y14
   unfold feast_Of.j2
   repeat' first
   | (with_reducible exact ih0 _ _ _)
   | (with_reducible exact ih1 _ _ _ _ _ _)
   | (with_reducible exact ih2 _ _ _ _ _ _ _ _ _ _ _ _ _ _ _)
   | (with_reducible exact ih3 _ _ _ _ _ _ _ _ _ _ _ _ _ _ _ _ _)
   | (with_reducible exact heb_ToDay.mono _ _ _ _ _)
   | (with_reducible exact LeO.refl _)
   | (with_reducible exact LeO.none _)
   | (with_reducible refine LeO.ite ?_ ?_)
   | (with_reducible refine LeO.bind ?_ (fun _ => ?_))
   | exact ih0 _ _ _
   | exact ih1 _ _ _ _ _ _
   | exact ih2 _ _ _ _ _ _ _ _ _ _ _ _ _ _ _
   | exact ih3 _ _ _ _ _ _ _ _ _ _ _ _ _ _ _ _ _
   | exact heb_ToDay.mono _ _ _ _ _
   | exact LeO.none _
   | refine LeO.ite ?_ ?_
   | refine LeO.bind ?_ (fun _ => ?_)
  ·
   intro y0 y1 y2 y3 y4 y5 y6 y7 y8 y9 y10 y11 y12 y13 y14 y15 y16
   unfold feast_Of.l1
   repeat' first
   | (with_reducible exact ih0 _ _ _)
   | (with_reducible exact ih1 _ _ _ _ _ _)
   | (with_reducible exact ih2 _ _ _ _ _ _ _ _ _ _ _ _ _ _ _)
   | (with_reducible exact ih3 _ _ _ _ _ _ _ _ _ _ _ _ _ _ _ _ _)
   | (with_reducible exact heb_ToDay.mono _ _ _ _ _)
   | (with_reducible exact LeO.refl _)
   | (with_reducible exact LeO.none _)
   | (with_reducible refine LeO.ite ?_ ?_)
   | (with_reducible refine LeO.bind ?_ (fun _ => ?_))
   | exact ih0 _ _ _
   | exact ih1 _ _ _ _ _ _
   | exact ih2 _ _ _ _ _ _ _ _ _ _ _ _ _ _ _
   | exact ih3 _ _ _ _ _ _ _ _ _ _ _ _ _ _ _ _ _
   | exact heb_ToDay.mono _ _ _ _ _
   | exact LeO.none _
   | refine LeO.ite ?_ ?_
   | refine LeO.bind ?_ (fun _ => ?_)
theorem feast_Of.mono : ∀ a0 a1 k, LeO (feast_Of.f k a0 a1) (feast_Of.f (k + 1) a0 a1) := by
 intro a0 a1 k
 obtain ⟨ih0, ih1, ih2, ih3⟩ := feast_Of.mono_l k
 unfold feast_Of.f
 repeat' first
   | (with_reducible exact ih0 _ _ _)
   | (with_reducible exact ih1 _ _ _ _ _ _)
   | (with_reducible exact ih2 _ _ _ _ _ _ _ _ _ _ _ _ _ _ _)
   | (with_reducible exact ih3 _ _ _ _ _ _ _ _ _ _ _ _ _ _ _ _ _)
   | (with_reducible exact heb_ToDay.mono _ _ _ _ _)
   | (with_reducible exact LeO.refl _)
   | (with_reducible exact LeO.none _)
   | (with_reducible refine LeO.ite ?_ ?_)
   | (with_reducible refine LeO.bind ?_ (fun _ => ?_))
   | exact ih0 _ _ _
   | exact ih1 _ _ _ _ _ _
   | exact ih2 _ _ _ _ _ _ _ _ _ _ _ _ _ _ _
   | exact ih3 _ _ _ _ _ _ _ _ _ _ _ _ _ _ _ _ _
   | exact heb_ToDay.mono _ _ _ _ _
   | exact LeO.none _
   | refine LeO.ite ?_ ?_
   | refine LeO.bind ?_ (fun _ => ?_)
set_option maxHeartbeats 8000000 in
set_option maxRecDepth 100000 in
theorem feast_Of.calls (k : Nat) (a0 : Int) (a1 : Int) (r1 : List (S48)) (r2 : Int) (w : World) (HGT : GlobT w) (h : feast_Of.f k a0 a1 = some (r1, r2)) :
  Calls Tryd.prog 33 #[.int .i64 a0,.int .i64 a1] w fun e w'=>∃ v0_ : Value,e = .returned (.tuple #[v0_,.int .i64 r2]) ∧ Kd.R k48 48 w' w.heap.size (fun _=>True) v0_ r1 ∧ Below w.heap.size w w':=by
 have hu84 := Tryd.underlying84
 have hu23 := Tryd.underlying23
 have hu77 := Tryd.underlying77
 have hu48 := Tryd.underlying48
 have HB := zz00 (Below.refl w.heap.size w)
 have H : (if a1 = 0 then (feast_Of.j0 k a0 a1 false) else (feast_Of.j0 k a0 a1 (a1 != 1))) = some (r1, r2) := h
 clear h
 have HC3 := zz00 H
 clear H
 go_enter Tryd.func33, Tryd.ntmps33
 go_upto_region 1 with (fail)
 repeat (go_quiet (fail); go_upto_region 1 with (fail))
 go_cut [14] (fun v14 wc => ∃ (kq : Nat) (x14_2 : Bool), v14 = .bool x14_2 ∧ Aside0 (feast_Of.j0 kq a0 a1 x14_2 = some (r1, r2)) ∧ Aside0 (kq ≤ k) ∧ Aside0 (Below w.heap.size w wc))
 case first =>
  have H := HC3.out
  clear HC3
  by_cases c4 : a1 = 0
  ·
   rw [if_pos c4] at H
   have c4b0 : (a1 == 0) = true := zz29.mpr c4
   have c4b1 : (a1 != 0) = false := zz26.mpr c4
   clear c4
   (first | rw [c4b0] | (simp only [i64_w, i32_w]; rw [c4b0]) | skip)
   have H' := zz00 H
   clear H
   go_wp2
   repeat (go_quiet (fail); try go_wp2)
   go_meet
   case rel=>exact ⟨_,(false),(by first|rfl|(simp;done)|(simp [*];done)),H',⟨by first|omega|exact Nat.le_refl _⟩,⟨by repeat (first|(with_reducible first|exact HB.out|apply zz03|apply zz01|apply zz02)|exact HB.out)⟩⟩
  ·
   rw [if_neg c4] at H
   have c4b0 : (a1 == 0) = false := zz27.mpr c4
   have c4b1 : (a1 != 0) = true := zz28.mpr c4
   (first | rw [c4b0] | (simp only [i64_w, i32_w]; rw [c4b0]) | skip)
   have H' := zz00 H
   clear H
   go_wp2
   repeat (go_quiet (fail); try go_wp2)
   go_meet
   case rel=>exact ⟨_,((a1 != 1)),(by first|rfl|(simp;done)|(simp [*];done)),H',⟨by first|omega|exact Nat.le_refl _⟩,⟨by repeat (first|(with_reducible first|exact HB.out|apply zz03|apply zz01|apply zz02)|exact HB.out)⟩⟩
 case rest =>
  clear HC3
  try clear p2
  try clear c3
  try clear c4
  try clear c4b0
  try clear c4b1
  obtain ⟨kq, x14_2, rfl, HA, HJ2, HB⟩ := hcut
  cases kq with
  | zero => exact absurd HA.out (by simp [feast_Of.j0])
  | succ kj2 =>
   have H := HA.out
   clear HA
   simp only [feast_Of.j0] at H
   by_cases c5 : x14_2 = true
   ·
    subst c5
    have H1 : (some (([] : List (S48)), 1)) = some (r1, r2) := by rw [if_pos rfl] at H; exact H
    clear H
    have H := H1
    clear H1
    simp only [zz15, zz16] at H
    obtain ⟨rfl, rfl⟩ := H
    go_wp2
    repeat (go_quiet (fail); try go_wp2)
    go_ret2
    exact ⟨_,by first|rfl|(simp [errW_none,errW_some] <;> rfl)|(simp [*,errW_none,errW_some] <;> rfl),by first|exact Kd.R_nil _ _ _ _ _|exact Kd.N_nil _ _ _ _ _|exact Kd.V_nil _ _ _ _ _|exact Kd.Q_nil _ _ _ _ _|exact Kd.S_nil _ _ _ _ _,by repeat (first|(with_reducible first|exact HB.out|apply zz03|apply zz01|apply zz02)|exact HB.out)⟩
   ·
    replace c5 := zz32.mpr c5
    subst c5
    have H1 : (if a0 < 1 then (some (([] : List (S48)),2)) else (if a0 > 9999 then (some (([] : List (S48)),2)) else ((feast_rows.f).bind fun t231=>(feast_Of.l0 kj2 a0 a1 ([] : List (S48)) t231 (t231.length : Int) 0)))) = some (r1,r2):=by rw [if_neg (show ¬ (false = true) by decide)] at H;exact H
    clear H
    have H := H1
    clear H1
    by_cases c6 : a0 < 1
    ·
     rw [if_pos c6] at H
     have c6b0 : decide (a0 < 1) = true := decide_eq_true c6
     clear c6
     simp only [zz15, zz16] at H
     obtain ⟨rfl, rfl⟩ := H
     go_wp2
     repeat (go_quiet (fail); try go_wp2)
     go_ret2
     exact ⟨_,by first|rfl|(simp [errW_none,errW_some] <;> rfl)|(simp [*,errW_none,errW_some] <;> rfl),by first|exact Kd.R_nil _ _ _ _ _|exact Kd.N_nil _ _ _ _ _|exact Kd.V_nil _ _ _ _ _|exact Kd.Q_nil _ _ _ _ _|exact Kd.S_nil _ _ _ _ _,by repeat (first|(with_reducible first|exact HB.out|apply zz03|apply zz01|apply zz02)|exact HB.out)⟩
    ·
     rw [if_neg c6] at H
     have c6b0 : decide (a0 < 1) = false := decide_eq_false c6
     clear c6
     by_cases c7 : a0 > 9999
     ·
      rw [if_pos c7] at H
      have c7b0 : decide (9999 < a0) = true := decide_eq_true c7
      clear c7
      simp only [zz15, zz16] at H
      obtain ⟨rfl, rfl⟩ := H
      go_wp2
      repeat (go_quiet (fail); try go_wp2)
      go_ret2
      exact ⟨_,by first|rfl|(simp [errW_none,errW_some] <;> rfl)|(simp [*,errW_none,errW_some] <;> rfl),by first|exact Kd.R_nil _ _ _ _ _|exact Kd.N_nil _ _ _ _ _|exact Kd.V_nil _ _ _ _ _|exact Kd.Q_nil _ _ _ _ _|exact Kd.S_nil _ _ _ _ _,by repeat (first|(with_reducible first|exact HB.out|apply zz03|apply zz01|apply zz02)|exact HB.out)⟩
     ·
      rw [if_neg c7] at H
      have c7b0 : decide (9999 < a0) = false := decide_eq_false c7
      clear c7
      replace H := zz14.mp H
      obtain ⟨t231, A80, H⟩ := H
      replace H : (feast_Of.l0 kj2 a0 a1 ([] : List (S48)) t231 (t231.length : Int) 0) = some (r1, r2) := H
      have A8 := zz00 A80
      clear A80
      have H' := zz00 H
      clear H
      go_wp2_with (first|(go_at_call 57;(with_reducible refine (feast_rows.calls  t231 _ A8.out).mono ?_);rintro e w9 ⟨v232,rfl,ho0,hb⟩;have n0_:=zz00 (Kd.R_lower ho0 (zz22 (by repeat (first|(with_reducible first|exact HB.out|apply zz03|apply zz01|apply zz02)|exact HB.out))));have n1_:=zz00 (zz21 (by repeat (first|(with_reducible first|exact HB.out|apply zz03|apply zz01|apply zz02)|exact HB.out)) hb);clear HB;have HO233:=n0_;have HB:=n1_;clear n0_ n1_;(try clear hb);(try clear hb2);(try clear hk);(try clear hi);(try clear ho0);obtain ⟨Ao10,co10,eo10⟩:=Kd.R_slice HO233.out;subst eo10))
      repeat (go_quiet (first|(go_at_call 57;(with_reducible refine (feast_rows.calls  t231 _ A8.out).mono ?_);rintro e w9 ⟨v232,rfl,ho0,hb⟩;have n0_:=zz00 (Kd.R_lower ho0 (zz22 (by repeat (first|(with_reducible first|exact HB.out|apply zz03|apply zz01|apply zz02)|exact HB.out))));have n1_:=zz00 (zz21 (by repeat (first|(with_reducible first|exact HB.out|apply zz03|apply zz01|apply zz02)|exact HB.out)) hb);clear HB;have HO233:=n0_;have HB:=n1_;clear n0_ n1_;(try clear hb);(try clear hb2);(try clear hk);(try clear hi);(try clear ho0);obtain ⟨Ao10,co10,eo10⟩:=Kd.R_slice HO233.out;subst eo10));try go_wp2_with (first|(go_at_call 57;(with_reducible refine (feast_rows.calls  t231 _ A8.out).mono ?_);rintro e w9 ⟨v232,rfl,ho0,hb⟩;have n0_:=zz00 (Kd.R_lower ho0 (zz22 (by repeat (first|(with_reducible first|exact HB.out|apply zz03|apply zz01|apply zz02)|exact HB.out))));have n1_:=zz00 (zz21 (by repeat (first|(with_reducible first|exact HB.out|apply zz03|apply zz01|apply zz02)|exact HB.out)) hb);clear HB;have HO233:=n0_;have HB:=n1_;clear n0_ n1_;(try clear hb);(try clear hb2);(try clear hk);(try clear hi);(try clear ho0);obtain ⟨Ao10,co10,eo10⟩:=Kd.R_slice HO233.out;subst eo10)))
      go_loopg [6,30] kj2 (fun kq v6 v30 w'=>∃ (x6_2 : List (S48)) (x30_2 : Int),v30 = .int .i64 x30_2 ∧ Aside0 (feast_Of.l0 kq a0 a1 x6_2 t231 (t231.length : Int) x30_2 = some (r1,r2)) ∧ Aside0 (kq ≤ kj2) ∧ Aside0 (Kd.R k48 48 w' w.heap.size (fun _=>True) v6 x6_2) ∧ Aside0 (Kd.R k84 84 w' w.heap.size (fun _=>True) (.slice Ao10 t231.length co10) t231) ∧ Aside0 (Below w.heap.size w w'))
      case atStart=>exact ⟨(([] : List (S48))),(0),(by first|rfl|(simp;done)|(simp [*];done)),H',⟨Nat.le_refl _⟩,⟨by first|exact Kd.R_nil _ _ _ _ _|exact Kd.N_nil _ _ _ _ _|exact Kd.V_nil _ _ _ _ _|exact Kd.Q_nil _ _ _ _ _|exact Kd.S_nil _ _ _ _ _⟩,⟨by (with_reducible repeat (first|apply zz05|apply zz04|apply zz06));exact HO233.out⟩,⟨by repeat (first|(with_reducible first|exact HB.out|apply zz03|apply zz01|apply zz02)|exact HB.out)⟩⟩
      case round =>
       clear H'
       try clear p2
       try clear c3
       try clear c4
       try clear c4b0
       try clear c4b1
       try clear c5
       try clear c6
       try clear c6b0
       try clear c7
       try clear c7b0
       try clear p2
       obtain ⟨x6_2, x30_2, rfl, HA, HK2, HO_6, HO_28, HB⟩ := hrel
       cases gk with
       | zero => exact absurd HA.out (by simp [feast_Of.l0])
       | succ k2 =>
        have H := HA.out
        clear HA
        simp only [feast_Of.l0] at H
        by_cases c11 : x30_2 < (t231.length : Int)
        ·
         rw [if_pos c11] at H
         have c11b0 : decide (x30_2 < (t231.length : Int)) = true := decide_eq_true c11
         clear c11
         by_cases c12 : 0 ≤ x30_2
         ·
          rw [if_pos c12] at H
          have c12b0 : decide (0 ≤ x30_2) = true := decide_eq_true c12
          clear c12
          by_cases c13 : x30_2 < (t231.length : Int)
          ·
           rw [if_pos c13] at H
           have c13b0 : decide (x30_2 < (t231.length : Int)) = true := decide_eq_true c13
           clear c13
           have HC14 := zz00 H
           clear H
           have p237 : 0 ≤ (x30_2 : Int) := zz31 (by first | (with_reducible assumption) | assumption)
           have q237 : x30_2 < (t231.length : Int) := zz31 (by first | (with_reducible assumption) | assumption)
           obtain ⟨ad237, e237, hx237_0, hx237_1, hx237_2, hx237_3, hx237_4, hx237_5, hx237_6⟩ := at_T84 (Kd.R_reads' HO_28.out).2.2 x30_2 p237 q237
           cases e237
           replace p237 := eq_true p237
           replace q237 := eq_true q237
           go_upto_if 39 with (first|((with_reducible refine zz24 (N:=8) rfl ?_);refine zz30 ?hg (N:=8) ?hd (cs:=#[.int .i64 0,.int .i64 0,.bool false,.int .i64 0,.int .i64 0,.int .i64 0,.int .i64 0]) (t:=84) ?hr ?_;(case hd=>rfl);(case hg=>rfl);(case hr=>first|(go_simp;done)|(go_simp;rfl));intro gb238 hg w15 hbox hb;have n0_:=zz00 (zz19 (by (with_reducible repeat (first|apply zz05|apply zz04|apply zz06));exact HO_6.out) hb);have n1_:=zz00 (zz19 (Kd.R_elderB (by (with_reducible repeat (first|apply zz05|apply zz04|apply zz06));exact HO_28.out) gb238 (Nat.le_of_eq hg.symm)) hb);have n2_:=zz00 (zz21 (by repeat (first|(with_reducible first|exact HB.out|apply zz03|apply zz01|apply zz02)|exact HB.out)) hb);have n3_:=zz00 (hbox);have n4_:=zz00 ((by rw [hg];exact (zz22 (by repeat (first|(with_reducible first|exact HB.out|apply zz03|apply zz01|apply zz02)|exact HB.out))) : w.heap.size ≤ gb238));have n5_:=zz00 ((by rw [hg];exact (zz22 (by repeat (first|(with_reducible first|exact HB.out|apply zz03|apply zz01|apply zz02)|exact HB.out))) : w.heap.size ≤ gb238));clear HO_6;clear HO_28;clear HB;have HO_6:=n0_;have HO_28:=n1_;have HB:=n2_;have BK238:=n3_;have GW238:=n4_;have GE238:=n5_;clear n0_ n1_ n2_ n3_ n4_ n5_;clear hb hbox hg;have hcz16_0 : w15.cell? ⟨gb238,0,none⟩ = some (.int .i64 0):=(zz18 BK238.out 0).trans rfl;have hcz16_1 : w15.cell? ⟨gb238,1,none⟩ = some (.int .i64 0):=(zz18 BK238.out 1).trans rfl;have hcz16_2 : w15.cell? ⟨gb238,2,none⟩ = some (.bool false):=(zz18 BK238.out 2).trans rfl;have hcz16_3 : w15.cell? ⟨gb238,3,none⟩ = some (.int .i64 0):=(zz18 BK238.out 3).trans rfl;have hcz16_4 : w15.cell? ⟨gb238,4,none⟩ = some (.int .i64 0):=(zz18 BK238.out 4).trans rfl;have hcz16_5 : w15.cell? ⟨gb238,5,none⟩ = some (.int .i64 0):=(zz18 BK238.out 5).trans rfl;have hcz16_6 : w15.cell? ⟨gb238,6,none⟩ = some (.int .i64 0):=(zz18 BK238.out 6).trans rfl;have hfz16_0:=zz17 BK238.out 0;have hfz16_1:=zz17 BK238.out 1;have hfz16_2:=zz17 BK238.out 2;have hfz16_3:=zz17 BK238.out 3;have hfz16_4:=zz17 BK238.out 4;have hfz16_5:=zz17 BK238.out 5;have hfz16_6:=zz17 BK238.out 6))
           repeat (go_quiet (first|((with_reducible refine zz24 (N:=8) rfl ?_);refine zz30 ?hg (N:=8) ?hd (cs:=#[.int .i64 0,.int .i64 0,.bool false,.int .i64 0,.int .i64 0,.int .i64 0,.int .i64 0]) (t:=84) ?hr ?_;(case hd=>rfl);(case hg=>rfl);(case hr=>first|(go_simp;done)|(go_simp;rfl));intro gb238 hg w15 hbox hb;have n0_:=zz00 (zz19 (by (with_reducible repeat (first|apply zz05|apply zz04|apply zz06));exact HO_6.out) hb);have n1_:=zz00 (zz19 (Kd.R_elderB (by (with_reducible repeat (first|apply zz05|apply zz04|apply zz06));exact HO_28.out) gb238 (Nat.le_of_eq hg.symm)) hb);have n2_:=zz00 (zz21 (by repeat (first|(with_reducible first|exact HB.out|apply zz03|apply zz01|apply zz02)|exact HB.out)) hb);have n3_:=zz00 (hbox);have n4_:=zz00 ((by rw [hg];exact (zz22 (by repeat (first|(with_reducible first|exact HB.out|apply zz03|apply zz01|apply zz02)|exact HB.out))) : w.heap.size ≤ gb238));have n5_:=zz00 ((by rw [hg];exact (zz22 (by repeat (first|(with_reducible first|exact HB.out|apply zz03|apply zz01|apply zz02)|exact HB.out))) : w.heap.size ≤ gb238));clear HO_6;clear HO_28;clear HB;have HO_6:=n0_;have HO_28:=n1_;have HB:=n2_;have BK238:=n3_;have GW238:=n4_;have GE238:=n5_;clear n0_ n1_ n2_ n3_ n4_ n5_;clear hb hbox hg;have hcz16_0 : w15.cell? ⟨gb238,0,none⟩ = some (.int .i64 0):=(zz18 BK238.out 0).trans rfl;have hcz16_1 : w15.cell? ⟨gb238,1,none⟩ = some (.int .i64 0):=(zz18 BK238.out 1).trans rfl;have hcz16_2 : w15.cell? ⟨gb238,2,none⟩ = some (.bool false):=(zz18 BK238.out 2).trans rfl;have hcz16_3 : w15.cell? ⟨gb238,3,none⟩ = some (.int .i64 0):=(zz18 BK238.out 3).trans rfl;have hcz16_4 : w15.cell? ⟨gb238,4,none⟩ = some (.int .i64 0):=(zz18 BK238.out 4).trans rfl;have hcz16_5 : w15.cell? ⟨gb238,5,none⟩ = some (.int .i64 0):=(zz18 BK238.out 5).trans rfl;have hcz16_6 : w15.cell? ⟨gb238,6,none⟩ = some (.int .i64 0):=(zz18 BK238.out 6).trans rfl;have hfz16_0:=zz17 BK238.out 0;have hfz16_1:=zz17 BK238.out 1;have hfz16_2:=zz17 BK238.out 2;have hfz16_3:=zz17 BK238.out 3;have hfz16_4:=zz17 BK238.out 4;have hfz16_5:=zz17 BK238.out 5;have hfz16_6:=zz17 BK238.out 6));go_upto_if 39 with (first|((with_reducible refine zz24 (N:=8) rfl ?_);refine zz30 ?hg (N:=8) ?hd (cs:=#[.int .i64 0,.int .i64 0,.bool false,.int .i64 0,.int .i64 0,.int .i64 0,.int .i64 0]) (t:=84) ?hr ?_;(case hd=>rfl);(case hg=>rfl);(case hr=>first|(go_simp;done)|(go_simp;rfl));intro gb238 hg w15 hbox hb;have n0_:=zz00 (zz19 (by (with_reducible repeat (first|apply zz05|apply zz04|apply zz06));exact HO_6.out) hb);have n1_:=zz00 (zz19 (Kd.R_elderB (by (with_reducible repeat (first|apply zz05|apply zz04|apply zz06));exact HO_28.out) gb238 (Nat.le_of_eq hg.symm)) hb);have n2_:=zz00 (zz21 (by repeat (first|(with_reducible first|exact HB.out|apply zz03|apply zz01|apply zz02)|exact HB.out)) hb);have n3_:=zz00 (hbox);have n4_:=zz00 ((by rw [hg];exact (zz22 (by repeat (first|(with_reducible first|exact HB.out|apply zz03|apply zz01|apply zz02)|exact HB.out))) : w.heap.size ≤ gb238));have n5_:=zz00 ((by rw [hg];exact (zz22 (by repeat (first|(with_reducible first|exact HB.out|apply zz03|apply zz01|apply zz02)|exact HB.out))) : w.heap.size ≤ gb238));clear HO_6;clear HO_28;clear HB;have HO_6:=n0_;have HO_28:=n1_;have HB:=n2_;have BK238:=n3_;have GW238:=n4_;have GE238:=n5_;clear n0_ n1_ n2_ n3_ n4_ n5_;clear hb hbox hg;have hcz16_0 : w15.cell? ⟨gb238,0,none⟩ = some (.int .i64 0):=(zz18 BK238.out 0).trans rfl;have hcz16_1 : w15.cell? ⟨gb238,1,none⟩ = some (.int .i64 0):=(zz18 BK238.out 1).trans rfl;have hcz16_2 : w15.cell? ⟨gb238,2,none⟩ = some (.bool false):=(zz18 BK238.out 2).trans rfl;have hcz16_3 : w15.cell? ⟨gb238,3,none⟩ = some (.int .i64 0):=(zz18 BK238.out 3).trans rfl;have hcz16_4 : w15.cell? ⟨gb238,4,none⟩ = some (.int .i64 0):=(zz18 BK238.out 4).trans rfl;have hcz16_5 : w15.cell? ⟨gb238,5,none⟩ = some (.int .i64 0):=(zz18 BK238.out 5).trans rfl;have hcz16_6 : w15.cell? ⟨gb238,6,none⟩ = some (.int .i64 0):=(zz18 BK238.out 6).trans rfl;have hfz16_0:=zz17 BK238.out 0;have hfz16_1:=zz17 BK238.out 1;have hfz16_2:=zz17 BK238.out 2;have hfz16_3:=zz17 BK238.out 3;have hfz16_4:=zz17 BK238.out 4;have hfz16_5:=zz17 BK238.out 5;have hfz16_6:=zz17 BK238.out 6)))
           (try simp only [Act.put, zz11, zz12, zz13])
           go_cut [9,10] (fun v9 v10 wc=>∃ (kq : Nat) (x9_13 : Int) (x10_13 : Int),v9 = .int .i64 x9_13 ∧ v10 = .int .i64 x10_13 ∧ Aside0 (feast_Of.j2 kq a0 a1 x6_2 x9_13 x10_13 t231 (t231.length : Int) x30_2 ((rd_T84 t231 x30_2).f0) ((rd_T84 t231 x30_2).f1.f0) ((rd_T84 t231 x30_2).f1.f1) ((rd_T84 t231 x30_2).f2) ((rd_T84 t231 x30_2).f3) ((rd_T84 t231 x30_2).f4) ((rd_T84 t231 x30_2).f5) = some (r1,r2)) ∧ Aside0 (kq ≤ k2) ∧ Aside0 (Kd.R k48 48 wc w.heap.size (fun _=>True) u6 x6_2) ∧ Aside0 (Kd.R k84 84 wc w.heap.size (fun k_=>k_ ≠ gb238) (.slice (some ad237) t231.length co10) t231) ∧ Aside0 (wc.heap[gb238]? = some (.cells #[.int .i64 ((rd_T84 t231 x30_2).f0),.int .i64 ((rd_T84 t231 x30_2).f1.f0),.bool ((rd_T84 t231 x30_2).f1.f1),.int .i64 ((rd_T84 t231 x30_2).f2),.int .i64 ((rd_T84 t231 x30_2).f3),.int .i64 ((rd_T84 t231 x30_2).f4),.int .i64 ((rd_T84 t231 x30_2).f5)] 84 (0,0))) ∧ Aside0 (Below w.heap.size w wc))
           case first =>
            have H := HC14.out
            clear HC14
            by_cases c17 : a1 = 1
            ·
             rw [if_pos c17] at H
             have c17b0 : (a1 == 1) = true := zz29.mpr c17
             have c17b1 : (a1 != 1) = false := zz26.mpr c17
             clear c17
             (first | rw [c17b0] | (simp only [i64_w, i32_w]; rw [c17b0]) | skip)
             have H' := zz00 H
             clear H
             have hcz18_0 : w15.cell? ⟨gb238, 0, none⟩ = some (.int .i64 0) := (zz18 BK238.out 0).trans rfl
             have hcz18_1 : w15.cell? ⟨gb238, 1, none⟩ = some (.int .i64 0) := (zz18 BK238.out 1).trans rfl
             have hcz18_2 : w15.cell? ⟨gb238, 2, none⟩ = some (.bool false) := (zz18 BK238.out 2).trans rfl
             have hcz18_3 : w15.cell? ⟨gb238, 3, none⟩ = some (.int .i64 0) := (zz18 BK238.out 3).trans rfl
             have hcz18_4 : w15.cell? ⟨gb238, 4, none⟩ = some (.int .i64 0) := (zz18 BK238.out 4).trans rfl
             have hcz18_5 : w15.cell? ⟨gb238, 5, none⟩ = some (.int .i64 0) := (zz18 BK238.out 5).trans rfl
             have hcz18_6 : w15.cell? ⟨gb238, 6, none⟩ = some (.int .i64 0) := (zz18 BK238.out 6).trans rfl
             have hfz18_0 := zz17 BK238.out 0
             have hfz18_1 := zz17 BK238.out 1
             have hfz18_2 := zz17 BK238.out 2
             have hfz18_3 := zz17 BK238.out 3
             have hfz18_4 := zz17 BK238.out 4
             have hfz18_5 := zz17 BK238.out 5
             have hfz18_6 := zz17 BK238.out 6
             go_wp2
             repeat (go_quiet (fail); try go_wp2)
             go_meet
             case rel=>exact ⟨_,((rd_T84 t231 x30_2).f4),((rd_T84 t231 x30_2).f5),(by first|rfl|(simp;done)|(simp [*];done)),(by first|rfl|(simp;done)|(simp [*];done)),H',⟨by have:=HJ2.out;have:=HK2.out;first|omega|exact Nat.le_refl _⟩,⟨by (with_reducible repeat (first|apply zz05|apply zz04|apply zz06));exact Kd.R_mono (Kd.R_far (p:=⟨gb238,6,none⟩) (Kd.R_far (p:=⟨gb238,5,none⟩) (Kd.R_far (p:=⟨gb238,4,none⟩) (Kd.R_far (p:=⟨gb238,3,none⟩) (Kd.R_far (p:=⟨gb238,2,none⟩) (Kd.R_far (p:=⟨gb238,1,none⟩) (Kd.R_far (p:=⟨gb238,0,none⟩) (Kd.R_types HO_6.out BK238.out (by decide)) (fun _ hk=>hk.2) (.int .i64 ((rd_T84 t231 x30_2).f0))) (fun _ hk=>hk.2) (.int .i64 ((rd_T84 t231 x30_2).f1.f0))) (fun _ hk=>hk.2) (.bool ((rd_T84 t231 x30_2).f1.f1))) (fun _ hk=>hk.2) (.int .i64 ((rd_T84 t231 x30_2).f2))) (fun _ hk=>hk.2) (.int .i64 ((rd_T84 t231 x30_2).f3))) (fun _ hk=>hk.2) (.int .i64 ((rd_T84 t231 x30_2).f4))) (fun _ hk=>hk.2) (.int .i64 ((rd_T84 t231 x30_2).f5))) (fun _ hk=>trivial)⟩,⟨by (with_reducible repeat (first|apply zz05|apply zz04|apply zz06));exact Kd.R_mono (Kd.R_far (p:=⟨gb238,6,none⟩) (Kd.R_far (p:=⟨gb238,5,none⟩) (Kd.R_far (p:=⟨gb238,4,none⟩) (Kd.R_far (p:=⟨gb238,3,none⟩) (Kd.R_far (p:=⟨gb238,2,none⟩) (Kd.R_far (p:=⟨gb238,1,none⟩) (Kd.R_far (p:=⟨gb238,0,none⟩) (Kd.R_mono HO_28.out (fun k_ hk=>(⟨hk,hk.2⟩ : _ ∧ k_ ≠ gb238))) (fun _ hk=>hk.2) (.int .i64 ((rd_T84 t231 x30_2).f0))) (fun _ hk=>hk.2) (.int .i64 ((rd_T84 t231 x30_2).f1.f0))) (fun _ hk=>hk.2) (.bool ((rd_T84 t231 x30_2).f1.f1))) (fun _ hk=>hk.2) (.int .i64 ((rd_T84 t231 x30_2).f2))) (fun _ hk=>hk.2) (.int .i64 ((rd_T84 t231 x30_2).f3))) (fun _ hk=>hk.2) (.int .i64 ((rd_T84 t231 x30_2).f4))) (fun _ hk=>hk.2) (.int .i64 ((rd_T84 t231 x30_2).f5))) (fun _ hk=>hk.1.2)⟩,⟨by (with_reducible repeat (first|refine zz07 ?_ _|refine zz09 ?_|refine zz08 ?_ _));refine zz35 (cs:=#[.int .i64 ((rd_T84 t231 x30_2).f0),.int .i64 ((rd_T84 t231 x30_2).f1.f0),.bool ((rd_T84 t231 x30_2).f1.f1),.int .i64 ((rd_T84 t231 x30_2).f2),.int .i64 ((rd_T84 t231 x30_2).f3),.int .i64 ((rd_T84 t231 x30_2).f4),.int .i64 0]) ?_ 6 _ rfl;(with_reducible repeat (first|refine zz07 ?_ _|refine zz09 ?_|refine zz08 ?_ _));refine zz35 (cs:=#[.int .i64 ((rd_T84 t231 x30_2).f0),.int .i64 ((rd_T84 t231 x30_2).f1.f0),.bool ((rd_T84 t231 x30_2).f1.f1),.int .i64 ((rd_T84 t231 x30_2).f2),.int .i64 ((rd_T84 t231 x30_2).f3),.int .i64 0,.int .i64 0]) ?_ 5 _ rfl;(with_reducible repeat (first|refine zz07 ?_ _|refine zz09 ?_|refine zz08 ?_ _));refine zz35 (cs:=#[.int .i64 ((rd_T84 t231 x30_2).f0),.int .i64 ((rd_T84 t231 x30_2).f1.f0),.bool ((rd_T84 t231 x30_2).f1.f1),.int .i64 ((rd_T84 t231 x30_2).f2),.int .i64 0,.int .i64 0,.int .i64 0]) ?_ 4 _ rfl;(with_reducible repeat (first|refine zz07 ?_ _|refine zz09 ?_|refine zz08 ?_ _));refine zz35 (cs:=#[.int .i64 ((rd_T84 t231 x30_2).f0),.int .i64 ((rd_T84 t231 x30_2).f1.f0),.bool ((rd_T84 t231 x30_2).f1.f1),.int .i64 0,.int .i64 0,.int .i64 0,.int .i64 0]) ?_ 3 _ rfl;(with_reducible repeat (first|refine zz07 ?_ _|refine zz09 ?_|refine zz08 ?_ _));refine zz35 (cs:=#[.int .i64 ((rd_T84 t231 x30_2).f0),.int .i64 ((rd_T84 t231 x30_2).f1.f0),.bool false,.int .i64 0,.int .i64 0,.int .i64 0,.int .i64 0]) ?_ 2 _ rfl;(with_reducible repeat (first|refine zz07 ?_ _|refine zz09 ?_|refine zz08 ?_ _));refine zz35 (cs:=#[.int .i64 ((rd_T84 t231 x30_2).f0),.int .i64 0,.bool false,.int .i64 0,.int .i64 0,.int .i64 0,.int .i64 0]) ?_ 1 _ rfl;(with_reducible repeat (first|refine zz07 ?_ _|refine zz09 ?_|refine zz08 ?_ _));refine zz35 (cs:=#[.int .i64 0,.int .i64 0,.bool false,.int .i64 0,.int .i64 0,.int .i64 0,.int .i64 0]) ?_ 0 _ rfl;(with_reducible repeat (first|refine zz07 ?_ _|refine zz09 ?_|refine zz08 ?_ _));exact BK238.out⟩,⟨by repeat (first|(with_reducible first|exact HB.out|apply zz03|apply zz01|apply zz02|refine zz10 ?_ GE238.out)|exact HB.out)⟩⟩
            ·
             rw [if_neg c17] at H
             have c17b0 : (a1 == 1) = false := zz27.mpr c17
             have c17b1 : (a1 != 1) = true := zz28.mpr c17
             (first | rw [c17b0] | (simp only [i64_w, i32_w]; rw [c17b0]) | skip)
             have H' := zz00 H
             clear H
             go_wp2
             repeat (go_quiet (fail); try go_wp2)
             go_meet
             case rel=>exact ⟨_,((rd_T84 t231 x30_2).f2),((rd_T84 t231 x30_2).f3),(by first|rfl|(simp;done)|(simp [*];done)),(by first|rfl|(simp;done)|(simp [*];done)),H',⟨by have:=HJ2.out;have:=HK2.out;first|omega|exact Nat.le_refl _⟩,⟨by (with_reducible repeat (first|apply zz05|apply zz04|apply zz06));exact Kd.R_mono (Kd.R_far (p:=⟨gb238,6,none⟩) (Kd.R_far (p:=⟨gb238,5,none⟩) (Kd.R_far (p:=⟨gb238,4,none⟩) (Kd.R_far (p:=⟨gb238,3,none⟩) (Kd.R_far (p:=⟨gb238,2,none⟩) (Kd.R_far (p:=⟨gb238,1,none⟩) (Kd.R_far (p:=⟨gb238,0,none⟩) (Kd.R_types HO_6.out BK238.out (by decide)) (fun _ hk=>hk.2) (.int .i64 ((rd_T84 t231 x30_2).f0))) (fun _ hk=>hk.2) (.int .i64 ((rd_T84 t231 x30_2).f1.f0))) (fun _ hk=>hk.2) (.bool ((rd_T84 t231 x30_2).f1.f1))) (fun _ hk=>hk.2) (.int .i64 ((rd_T84 t231 x30_2).f2))) (fun _ hk=>hk.2) (.int .i64 ((rd_T84 t231 x30_2).f3))) (fun _ hk=>hk.2) (.int .i64 ((rd_T84 t231 x30_2).f4))) (fun _ hk=>hk.2) (.int .i64 ((rd_T84 t231 x30_2).f5))) (fun _ hk=>trivial)⟩,⟨by (with_reducible repeat (first|apply zz05|apply zz04|apply zz06));exact Kd.R_mono (Kd.R_far (p:=⟨gb238,6,none⟩) (Kd.R_far (p:=⟨gb238,5,none⟩) (Kd.R_far (p:=⟨gb238,4,none⟩) (Kd.R_far (p:=⟨gb238,3,none⟩) (Kd.R_far (p:=⟨gb238,2,none⟩) (Kd.R_far (p:=⟨gb238,1,none⟩) (Kd.R_far (p:=⟨gb238,0,none⟩) (Kd.R_mono HO_28.out (fun k_ hk=>(⟨hk,hk.2⟩ : _ ∧ k_ ≠ gb238))) (fun _ hk=>hk.2) (.int .i64 ((rd_T84 t231 x30_2).f0))) (fun _ hk=>hk.2) (.int .i64 ((rd_T84 t231 x30_2).f1.f0))) (fun _ hk=>hk.2) (.bool ((rd_T84 t231 x30_2).f1.f1))) (fun _ hk=>hk.2) (.int .i64 ((rd_T84 t231 x30_2).f2))) (fun _ hk=>hk.2) (.int .i64 ((rd_T84 t231 x30_2).f3))) (fun _ hk=>hk.2) (.int .i64 ((rd_T84 t231 x30_2).f4))) (fun _ hk=>hk.2) (.int .i64 ((rd_T84 t231 x30_2).f5))) (fun _ hk=>hk.1.2)⟩,⟨by (with_reducible repeat (first|refine zz07 ?_ _|refine zz09 ?_|refine zz08 ?_ _));refine zz35 (cs:=#[.int .i64 ((rd_T84 t231 x30_2).f0),.int .i64 ((rd_T84 t231 x30_2).f1.f0),.bool ((rd_T84 t231 x30_2).f1.f1),.int .i64 ((rd_T84 t231 x30_2).f2),.int .i64 ((rd_T84 t231 x30_2).f3),.int .i64 ((rd_T84 t231 x30_2).f4),.int .i64 0]) ?_ 6 _ rfl;(with_reducible repeat (first|refine zz07 ?_ _|refine zz09 ?_|refine zz08 ?_ _));refine zz35 (cs:=#[.int .i64 ((rd_T84 t231 x30_2).f0),.int .i64 ((rd_T84 t231 x30_2).f1.f0),.bool ((rd_T84 t231 x30_2).f1.f1),.int .i64 ((rd_T84 t231 x30_2).f2),.int .i64 ((rd_T84 t231 x30_2).f3),.int .i64 0,.int .i64 0]) ?_ 5 _ rfl;(with_reducible repeat (first|refine zz07 ?_ _|refine zz09 ?_|refine zz08 ?_ _));refine zz35 (cs:=#[.int .i64 ((rd_T84 t231 x30_2).f0),.int .i64 ((rd_T84 t231 x30_2).f1.f0),.bool ((rd_T84 t231 x30_2).f1.f1),.int .i64 ((rd_T84 t231 x30_2).f2),.int .i64 0,.int .i64 0,.int .i64 0]) ?_ 4 _ rfl;(with_reducible repeat (first|refine zz07 ?_ _|refine zz09 ?_|refine zz08 ?_ _));refine zz35 (cs:=#[.int .i64 ((rd_T84 t231 x30_2).f0),.int .i64 ((rd_T84 t231 x30_2).f1.f0),.bool ((rd_T84 t231 x30_2).f1.f1),.int .i64 0,.int .i64 0,.int .i64 0,.int .i64 0]) ?_ 3 _ rfl;(with_reducible repeat (first|refine zz07 ?_ _|refine zz09 ?_|refine zz08 ?_ _));refine zz35 (cs:=#[.int .i64 ((rd_T84 t231 x30_2).f0),.int .i64 ((rd_T84 t231 x30_2).f1.f0),.bool false,.int .i64 0,.int .i64 0,.int .i64 0,.int .i64 0]) ?_ 2 _ rfl;(with_reducible repeat (first|refine zz07 ?_ _|refine zz09 ?_|refine zz08 ?_ _));refine zz35 (cs:=#[.int .i64 ((rd_T84 t231 x30_2).f0),.int .i64 0,.bool false,.int .i64 0,.int .i64 0,.int .i64 0,.int .i64 0]) ?_ 1 _ rfl;(with_reducible repeat (first|refine zz07 ?_ _|refine zz09 ?_|refine zz08 ?_ _));refine zz35 (cs:=#[.int .i64 0,.int .i64 0,.bool false,.int .i64 0,.int .i64 0,.int .i64 0,.int .i64 0]) ?_ 0 _ rfl;(with_reducible repeat (first|refine zz07 ?_ _|refine zz09 ?_|refine zz08 ?_ _));exact BK238.out⟩,⟨by repeat (first|(with_reducible first|exact HB.out|apply zz03|apply zz01|apply zz02|refine zz10 ?_ GE238.out)|exact HB.out)⟩⟩
           case rest =>
            clear HC14
            try clear c1
            try clear p2
            try clear q2
            try clear hx2
            try clear c3
            try clear c4
            try clear c4b0
            try clear c4b1
            try clear c5
            try clear c6
            try clear c6b0
            try clear c7
            try clear c7b0
            try clear c11
            try clear c11b0
            try clear c12
            try clear c12b0
            try clear c13
            try clear c13b0
            try clear c17
            try clear c17b0
            try clear c17b1
            try clear hcz16_0
            try clear hcz16_1
            try clear hcz16_2
            try clear hcz16_3
            try clear hcz16_4
            try clear hcz16_5
            try clear hcz16_6
            try clear hcz18_0
            try clear hcz18_1
            try clear hcz18_2
            try clear hcz18_3
            try clear hcz18_4
            try clear hcz18_5
            try clear hcz18_6
            try clear hfz16_0
            try clear hfz16_1
            try clear hfz16_2
            try clear hfz16_3
            try clear hfz16_4
            try clear hfz16_5
            try clear hfz16_6
            try clear hfz18_0
            try clear hfz18_1
            try clear hfz18_2
            try clear hfz18_3
            try clear hfz18_4
            try clear hfz18_5
            try clear hfz18_6
            try clear hx237_0
            try clear hx237_1
            try clear hx237_2
            try clear hx237_3
            try clear hx237_4
            try clear hx237_5
            try clear hx237_6
            try clear p2
            try clear p237
            try clear q237
            obtain ⟨kq, x9_13, x10_13, rfl, rfl, HA, HJ13, HO_6, HO_28, BK238, HB⟩ := hcut
            cases kq with
            | zero => exact absurd HA.out (by simp [feast_Of.j2])
            | succ kj13 =>
             have H := HA.out
             clear HA
             simp only [feast_Of.j2] at H
             replace H := zz14.mp H
             obtain ⟨⟨t239, t240⟩, A190, H⟩ := H
             replace H : (feast_Of.l1 kj13 a0 a1 x6_2 x10_13 t239 t240 x9_13 t231 (t231.length : Int) x30_2 ((rd_T84 t231 x30_2).f0) ((rd_T84 t231 x30_2).f1.f0) ((rd_T84 t231 x30_2).f1.f1) ((rd_T84 t231 x30_2).f2) ((rd_T84 t231 x30_2).f3) ((rd_T84 t231 x30_2).f4) ((rd_T84 t231 x30_2).f5)) = some (r1,r2):=H
             have A19 := zz00 A190
             clear A190
             have H' := zz00 H
             clear H
             have hcz20_0 : wc.cell? ⟨gb238, 0, none⟩ = some (.int .i64 ((rd_T84 t231 x30_2).f0)) := (zz18 BK238.out 0).trans rfl
             have hcz20_1 : wc.cell? ⟨gb238, 1, none⟩ = some (.int .i64 ((rd_T84 t231 x30_2).f1.f0)) := (zz18 BK238.out 1).trans rfl
             have hcz20_2 : wc.cell? ⟨gb238, 2, none⟩ = some (.bool ((rd_T84 t231 x30_2).f1.f1)) := (zz18 BK238.out 2).trans rfl
             have hcz20_3 : wc.cell? ⟨gb238, 3, none⟩ = some (.int .i64 ((rd_T84 t231 x30_2).f2)) := (zz18 BK238.out 3).trans rfl
             have hcz20_4 : wc.cell? ⟨gb238, 4, none⟩ = some (.int .i64 ((rd_T84 t231 x30_2).f3)) := (zz18 BK238.out 4).trans rfl
             have hcz20_5 : wc.cell? ⟨gb238, 5, none⟩ = some (.int .i64 ((rd_T84 t231 x30_2).f4)) := (zz18 BK238.out 5).trans rfl
             have hcz20_6 : wc.cell? ⟨gb238, 6, none⟩ = some (.int .i64 ((rd_T84 t231 x30_2).f5)) := (zz18 BK238.out 6).trans rfl
             have hfz20_0 := zz17 BK238.out 0
             have hfz20_1 := zz17 BK238.out 1
             have hfz20_2 := zz17 BK238.out 2
             have hfz20_3 := zz17 BK238.out 3
             have hfz20_4 := zz17 BK238.out 4
             have hfz20_5 := zz17 BK238.out 5
             have hfz20_6 := zz17 BK238.out 6
             go_wp2_with (first|(go_at_call 52;(with_reducible refine (heb_ToDay.calls kj13 a0 ((rd_T84 t231 x30_2).f1.f0) ((rd_T84 t231 x30_2).f1.f1) 1 t239 t240 _ ?side1 A19.out).mono ?_);(case side1=>exact GlobT.below HGT (by repeat (first|(with_reducible first|exact HB.out|apply zz03|apply zz01|apply zz02|refine zz10 ?_ GE238.out)|exact HB.out)));rintro e w21 ⟨rfl,hb⟩;have n0_:=zz00 (zz19 (by (with_reducible repeat (first|apply zz05|apply zz04|apply zz06));exact HO_6.out) hb);have n1_:=zz00 (zz19 (by (with_reducible repeat (first|apply zz05|apply zz04|apply zz06));exact HO_28.out) hb);have n2_:=zz00 (zz34 (g:=gb238) (o:=.cells #[.int .i64 ((rd_T84 t231 x30_2).f0),.int .i64 ((rd_T84 t231 x30_2).f1.f0),.bool ((rd_T84 t231 x30_2).f1.f1),.int .i64 ((rd_T84 t231 x30_2).f2),.int .i64 ((rd_T84 t231 x30_2).f3),.int .i64 ((rd_T84 t231 x30_2).f4),.int .i64 ((rd_T84 t231 x30_2).f5)] 84 (0,0)) (by (with_reducible repeat (first|refine zz07 ?_ _|refine zz09 ?_|refine zz08 ?_ _));exact BK238.out) hb);have n3_:=zz00 (zz21 (by repeat (first|(with_reducible first|exact HB.out|apply zz03|apply zz01|apply zz02|refine zz10 ?_ GE238.out)|exact HB.out)) hb);clear HO_6;clear HO_28;clear BK238;clear HB;have HO_6:=n0_;have HO_28:=n1_;have BK238:=n2_;have HB:=n3_;clear n0_ n1_ n2_ n3_;(try clear hb);(try clear hb2);(try clear hk);(try clear hi)))
             repeat (go_quiet (first|(go_at_call 52;(with_reducible refine (heb_ToDay.calls kj13 a0 ((rd_T84 t231 x30_2).f1.f0) ((rd_T84 t231 x30_2).f1.f1) 1 t239 t240 _ ?side1 A19.out).mono ?_);(case side1=>exact GlobT.below HGT (by repeat (first|(with_reducible first|exact HB.out|apply zz03|apply zz01|apply zz02|refine zz10 ?_ GE238.out)|exact HB.out)));rintro e w21 ⟨rfl,hb⟩;have n0_:=zz00 (zz19 (by (with_reducible repeat (first|apply zz05|apply zz04|apply zz06));exact HO_6.out) hb);have n1_:=zz00 (zz19 (by (with_reducible repeat (first|apply zz05|apply zz04|apply zz06));exact HO_28.out) hb);have n2_:=zz00 (zz34 (g:=gb238) (o:=.cells #[.int .i64 ((rd_T84 t231 x30_2).f0),.int .i64 ((rd_T84 t231 x30_2).f1.f0),.bool ((rd_T84 t231 x30_2).f1.f1),.int .i64 ((rd_T84 t231 x30_2).f2),.int .i64 ((rd_T84 t231 x30_2).f3),.int .i64 ((rd_T84 t231 x30_2).f4),.int .i64 ((rd_T84 t231 x30_2).f5)] 84 (0,0)) (by (with_reducible repeat (first|refine zz07 ?_ _|refine zz09 ?_|refine zz08 ?_ _));exact BK238.out) hb);have n3_:=zz00 (zz21 (by repeat (first|(with_reducible first|exact HB.out|apply zz03|apply zz01|apply zz02|refine zz10 ?_ GE238.out)|exact HB.out)) hb);clear HO_6;clear HO_28;clear BK238;clear HB;have HO_6:=n0_;have HO_28:=n1_;have BK238:=n2_;have HB:=n3_;clear n0_ n1_ n2_ n3_;(try clear hb);(try clear hb2);(try clear hk);(try clear hi)));try go_wp2_with (first|(go_at_call 52;(with_reducible refine (heb_ToDay.calls kj13 a0 ((rd_T84 t231 x30_2).f1.f0) ((rd_T84 t231 x30_2).f1.f1) 1 t239 t240 _ ?side1 A19.out).mono ?_);(case side1=>exact GlobT.below HGT (by repeat (first|(with_reducible first|exact HB.out|apply zz03|apply zz01|apply zz02|refine zz10 ?_ GE238.out)|exact HB.out)));rintro e w21 ⟨rfl,hb⟩;have n0_:=zz00 (zz19 (by (with_reducible repeat (first|apply zz05|apply zz04|apply zz06));exact HO_6.out) hb);have n1_:=zz00 (zz19 (by (with_reducible repeat (first|apply zz05|apply zz04|apply zz06));exact HO_28.out) hb);have n2_:=zz00 (zz34 (g:=gb238) (o:=.cells #[.int .i64 ((rd_T84 t231 x30_2).f0),.int .i64 ((rd_T84 t231 x30_2).f1.f0),.bool ((rd_T84 t231 x30_2).f1.f1),.int .i64 ((rd_T84 t231 x30_2).f2),.int .i64 ((rd_T84 t231 x30_2).f3),.int .i64 ((rd_T84 t231 x30_2).f4),.int .i64 ((rd_T84 t231 x30_2).f5)] 84 (0,0)) (by (with_reducible repeat (first|refine zz07 ?_ _|refine zz09 ?_|refine zz08 ?_ _));exact BK238.out) hb);have n3_:=zz00 (zz21 (by repeat (first|(with_reducible first|exact HB.out|apply zz03|apply zz01|apply zz02|refine zz10 ?_ GE238.out)|exact HB.out)) hb);clear HO_6;clear HO_28;clear BK238;clear HB;have HO_6:=n0_;have HO_28:=n1_;have BK238:=n2_;have HB:=n3_;clear n0_ n1_ n2_ n3_;(try clear hb);(try clear hb2);(try clear hk);(try clear hi))))
             go_loopg [6,13] kj13 (fun kq v6 v13 w'=>∃ (x6_4 : List (S48)) (x13_4 : Int),v13 = .int .i64 x13_4 ∧ Aside0 (feast_Of.l1 kq a0 a1 x6_4 x10_13 t239 t240 x13_4 t231 (t231.length : Int) x30_2 ((rd_T84 t231 x30_2).f0) ((rd_T84 t231 x30_2).f1.f0) ((rd_T84 t231 x30_2).f1.f1) ((rd_T84 t231 x30_2).f2) ((rd_T84 t231 x30_2).f3) ((rd_T84 t231 x30_2).f4) ((rd_T84 t231 x30_2).f5) = some (r1,r2)) ∧ Aside0 (kq ≤ kj13) ∧ Aside0 (Kd.R k48 48 w' w.heap.size (fun _=>True) v6 x6_4) ∧ Aside0 (Kd.R k84 84 w' w.heap.size (fun k_=>k_ ≠ gb238) (.slice (some ad237) t231.length co10) t231) ∧ Aside0 (w'.heap[gb238]? = some (.cells #[.int .i64 ((rd_T84 t231 x30_2).f0),.int .i64 ((rd_T84 t231 x30_2).f1.f0),.bool ((rd_T84 t231 x30_2).f1.f1),.int .i64 ((rd_T84 t231 x30_2).f2),.int .i64 ((rd_T84 t231 x30_2).f3),.int .i64 ((rd_T84 t231 x30_2).f4),.int .i64 ((rd_T84 t231 x30_2).f5)] 84 (0,0))) ∧ Aside0 (Below w.heap.size w w'))
             case atStart=>exact ⟨(x6_2),(x9_13),(by first|rfl|(simp;done)|(simp [*];done)),H',⟨Nat.le_refl _⟩,⟨by (with_reducible repeat (first|apply zz05|apply zz04|apply zz06));exact HO_6.out⟩,⟨by (with_reducible repeat (first|apply zz05|apply zz04|apply zz06));exact HO_28.out⟩,⟨by (with_reducible repeat (first|refine zz07 ?_ _|refine zz09 ?_|refine zz08 ?_ _));exact BK238.out⟩,⟨by repeat (first|(with_reducible first|exact HB.out|apply zz03|apply zz01|apply zz02|refine zz10 ?_ GE238.out)|exact HB.out)⟩⟩
             case round =>
              clear H'
              try clear c1
              try clear p2
              try clear q2
              try clear hx2
              try clear c3
              try clear c4
              try clear c4b0
              try clear c4b1
              try clear c5
              try clear c6
              try clear c6b0
              try clear c7
              try clear c7b0
              try clear c11
              try clear c11b0
              try clear c12
              try clear c12b0
              try clear c13
              try clear c13b0
              try clear c17
              try clear c17b0
              try clear c17b1
              try clear hcz16_0
              try clear hcz16_1
              try clear hcz16_2
              try clear hcz16_3
              try clear hcz16_4
              try clear hcz16_5
              try clear hcz16_6
              try clear hcz18_0
              try clear hcz18_1
              try clear hcz18_2
              try clear hcz18_3
              try clear hcz18_4
              try clear hcz18_5
              try clear hcz18_6
              try clear hcz20_0
              try clear hcz20_1
              try clear hcz20_2
              try clear hcz20_3
              try clear hcz20_4
              try clear hcz20_5
              try clear hcz20_6
              try clear hfz16_0
              try clear hfz16_1
              try clear hfz16_2
              try clear hfz16_3
              try clear hfz16_4
              try clear hfz16_5
              try clear hfz16_6
              try clear hfz18_0
              try clear hfz18_1
              try clear hfz18_2
              try clear hfz18_3
              try clear hfz18_4
              try clear hfz18_5
              try clear hfz18_6
              try clear hfz20_0
              try clear hfz20_1
              try clear hfz20_2
              try clear hfz20_3
              try clear hfz20_4
              try clear hfz20_5
              try clear hfz20_6
              try clear hx237_0
              try clear hx237_1
              try clear hx237_2
              try clear hx237_3
              try clear hx237_4
              try clear hx237_5
              try clear hx237_6
              try clear p2
              try clear p237
              try clear q2
              try clear q237
              obtain ⟨x6_4, x13_4, rfl, HA, HK4, HO_6, HO_28, BK238, HB⟩ := hrel
              cases gk with
              | zero => exact absurd HA.out (by simp [feast_Of.l1])
              | succ k4 =>
               have H := HA.out
               clear HA
               simp only [feast_Of.l1] at H
               by_cases c22 : t240 = 0
               ·
                rw [if_pos c22] at H
                have c22b0 : (t240 == 0) = true := zz29.mpr c22
                have c22b1 : (t240 != 0) = false := zz26.mpr c22
                clear c22
                by_cases c23 : x13_4 ≤ x10_13
                ·
                 rw [if_pos c23] at H
                 have c23b0 : decide (x13_4 ≤ x10_13) = true := decide_eq_true c23
                 clear c23
                 by_cases c24 : x6_4.length < 8796093022208
                 ·
                  rw [if_pos c24] at H
                  have LMc24 := zz00 c24
                  clear c24
                  obtain ⟨y241, hy241⟩ : ∃ y_ : List (S48), y_ = (x6_4 ++ [(⟨((rd_T84 t231 x30_2).f0), wrap64 ((wrap64 (t239 + x13_4)) - 1)⟩ : S48)]) := ⟨_, rfl⟩
                  replace H : (feast_Of.l1 k4 a0 a1 y241 x10_13 t239 t240 (wrap64 (x13_4 + 1)) t231 (t231.length : Int) x30_2 ((rd_T84 t231 x30_2).f0) ((rd_T84 t231 x30_2).f1.f0) ((rd_T84 t231 x30_2).f1.f1) ((rd_T84 t231 x30_2).f2) ((rd_T84 t231 x30_2).f3) ((rd_T84 t231 x30_2).f4) ((rd_T84 t231 x30_2).f5)) = some (r1,r2):=by first|(rw [hy241];with_reducible exact H)|(have H2_:=(Option.bind_some _ _).symm.trans H;rw [hy241];with_reducible exact H2_)|(have H2_:=(Option.bind_some _ _).symm.trans H;with_reducible exact H2_)|with_reducible exact H|(rw [hy241];exact H)|exact H
                  have Ny241 := zz00 hy241
                  clear hy241
                  have H' := zz00 H
                  clear H
                  have hcz25_0 : wr.cell? ⟨gb238, 0, none⟩ = some (.int .i64 ((rd_T84 t231 x30_2).f0)) := (zz18 BK238.out 0).trans rfl
                  have hcz25_1 : wr.cell? ⟨gb238, 1, none⟩ = some (.int .i64 ((rd_T84 t231 x30_2).f1.f0)) := (zz18 BK238.out 1).trans rfl
                  have hcz25_2 : wr.cell? ⟨gb238, 2, none⟩ = some (.bool ((rd_T84 t231 x30_2).f1.f1)) := (zz18 BK238.out 2).trans rfl
                  have hcz25_3 : wr.cell? ⟨gb238, 3, none⟩ = some (.int .i64 ((rd_T84 t231 x30_2).f2)) := (zz18 BK238.out 3).trans rfl
                  have hcz25_4 : wr.cell? ⟨gb238, 4, none⟩ = some (.int .i64 ((rd_T84 t231 x30_2).f3)) := (zz18 BK238.out 4).trans rfl
                  have hcz25_5 : wr.cell? ⟨gb238, 5, none⟩ = some (.int .i64 ((rd_T84 t231 x30_2).f4)) := (zz18 BK238.out 5).trans rfl
                  have hcz25_6 : wr.cell? ⟨gb238, 6, none⟩ = some (.int .i64 ((rd_T84 t231 x30_2).f5)) := (zz18 BK238.out 6).trans rfl
                  have hfz25_0 := zz17 BK238.out 0
                  have hfz25_1 := zz17 BK238.out 1
                  have hfz25_2 := zz17 BK238.out 2
                  have hfz25_3 := zz17 BK238.out 3
                  have hfz25_4 := zz17 BK238.out 4
                  have hfz25_5 := zz17 BK238.out 5
                  have hfz25_6 := zz17 BK238.out 6
                  go_wp2_with (first|((with_reducible refine gate_builtin (b:=.append) (xs:=#[.tmp 62,.tmp 70]) rfl ?_);at_builtin;refine Kd.R_append k48 (w0:=w) w.heap.size rfl (.tmp 62) (.tmp 70) 38 48 (.agg #[(.int .i64 0),(.int .i64 0)]) 16 rfl Tryd.underlying38 info48 rfl (by decide) (by omega) u6 x6_4 (⟨((rd_T84 t231 x30_2).f0),wrap64 ((wrap64 (t239 + x13_4)) - 1)⟩ : S48) [.int .i64 ((rd_T84 t231 x30_2).f0),.int .i64 (wrap64 ((wrap64 (t239 + x13_4)) - 1))] (fun _=>True) (fun _=>False) rfl rfl ?aP (fun _ hk=>hk.elim) ?aF ?aO ?aB ?aS ?aL ?_;(case aP=>exact k48_mkM _ _ _ (⟨((rd_T84 t231 x30_2).f0),wrap64 ((wrap64 (t239 + x13_4)) - 1)⟩ : S48));(case aB=>exact (by repeat (first|(with_reducible first|exact HB.out|apply zz03|apply zz01|apply zz02|refine zz10 ?_ GE238.out)|exact HB.out)));(case aF=>exact (fun _ _=>trivial));(case aO=>exact (by (with_reducible repeat (first|apply zz05|apply zz04|apply zz06));exact HO_6.out));(case aS=>exact (zz22 (by repeat (first|(with_reducible first|exact HB.out|apply zz03|apply zz01|apply zz02|refine zz10 ?_ GE238.out)|exact HB.out))));(case aL=>have:=LMc24.out;omega);intro v242 w26 ho hb hg hat;rw [← Ny241.out] at ho;have n0_:=zz00 (Kd.R_over' (by (with_reducible repeat (first|apply zz05|apply zz04|apply zz06));exact HO_28.out) (Kd.R_typed (by (with_reducible repeat (first|apply zz05|apply zz04|apply zz06));exact HO_6.out)) (by decide) hg);have n1_:=zz00 (blk_grown (g:=gb238) (o:=.cells #[.int .i64 ((rd_T84 t231 x30_2).f0),.int .i64 ((rd_T84 t231 x30_2).f1.f0),.bool ((rd_T84 t231 x30_2).f1.f1),.int .i64 ((rd_T84 t231 x30_2).f2),.int .i64 ((rd_T84 t231 x30_2).f3),.int .i64 ((rd_T84 t231 x30_2).f4),.int .i64 ((rd_T84 t231 x30_2).f5)] 84 (0,0)) (by (with_reducible repeat (first|refine zz07 ?_ _|refine zz09 ?_|refine zz08 ?_ _));exact BK238.out) hg (Kd.R_ne HO_6.out BK238.out (by decide)));have n2_:=zz00 (hb);have n3_:=zz00 (ho);clear HO_28;clear BK238;clear HB;clear HO_6;have HO_28:=n0_;have BK238:=n1_;have HB:=n2_;have HO243:=n3_;clear n0_ n1_ n2_ n3_;clear ho hb hg hat))
                  repeat (go_quiet (first|((with_reducible refine gate_builtin (b:=.append) (xs:=#[.tmp 62,.tmp 70]) rfl ?_);at_builtin;refine Kd.R_append k48 (w0:=w) w.heap.size rfl (.tmp 62) (.tmp 70) 38 48 (.agg #[(.int .i64 0),(.int .i64 0)]) 16 rfl Tryd.underlying38 info48 rfl (by decide) (by omega) u6 x6_4 (⟨((rd_T84 t231 x30_2).f0),wrap64 ((wrap64 (t239 + x13_4)) - 1)⟩ : S48) [.int .i64 ((rd_T84 t231 x30_2).f0),.int .i64 (wrap64 ((wrap64 (t239 + x13_4)) - 1))] (fun _=>True) (fun _=>False) rfl rfl ?aP (fun _ hk=>hk.elim) ?aF ?aO ?aB ?aS ?aL ?_;(case aP=>exact k48_mkM _ _ _ (⟨((rd_T84 t231 x30_2).f0),wrap64 ((wrap64 (t239 + x13_4)) - 1)⟩ : S48));(case aB=>exact (by repeat (first|(with_reducible first|exact HB.out|apply zz03|apply zz01|apply zz02|refine zz10 ?_ GE238.out)|exact HB.out)));(case aF=>exact (fun _ _=>trivial));(case aO=>exact (by (with_reducible repeat (first|apply zz05|apply zz04|apply zz06));exact HO_6.out));(case aS=>exact (zz22 (by repeat (first|(with_reducible first|exact HB.out|apply zz03|apply zz01|apply zz02|refine zz10 ?_ GE238.out)|exact HB.out))));(case aL=>have:=LMc24.out;omega);intro v242 w26 ho hb hg hat;rw [← Ny241.out] at ho;have n0_:=zz00 (Kd.R_over' (by (with_reducible repeat (first|apply zz05|apply zz04|apply zz06));exact HO_28.out) (Kd.R_typed (by (with_reducible repeat (first|apply zz05|apply zz04|apply zz06));exact HO_6.out)) (by decide) hg);have n1_:=zz00 (blk_grown (g:=gb238) (o:=.cells #[.int .i64 ((rd_T84 t231 x30_2).f0),.int .i64 ((rd_T84 t231 x30_2).f1.f0),.bool ((rd_T84 t231 x30_2).f1.f1),.int .i64 ((rd_T84 t231 x30_2).f2),.int .i64 ((rd_T84 t231 x30_2).f3),.int .i64 ((rd_T84 t231 x30_2).f4),.int .i64 ((rd_T84 t231 x30_2).f5)] 84 (0,0)) (by (with_reducible repeat (first|refine zz07 ?_ _|refine zz09 ?_|refine zz08 ?_ _));exact BK238.out) hg (Kd.R_ne HO_6.out BK238.out (by decide)));have n2_:=zz00 (hb);have n3_:=zz00 (ho);clear HO_28;clear BK238;clear HB;clear HO_6;have HO_28:=n0_;have BK238:=n1_;have HB:=n2_;have HO243:=n3_;clear n0_ n1_ n2_ n3_;clear ho hb hg hat));try go_wp2_with (first|((with_reducible refine gate_builtin (b:=.append) (xs:=#[.tmp 62,.tmp 70]) rfl ?_);at_builtin;refine Kd.R_append k48 (w0:=w) w.heap.size rfl (.tmp 62) (.tmp 70) 38 48 (.agg #[(.int .i64 0),(.int .i64 0)]) 16 rfl Tryd.underlying38 info48 rfl (by decide) (by omega) u6 x6_4 (⟨((rd_T84 t231 x30_2).f0),wrap64 ((wrap64 (t239 + x13_4)) - 1)⟩ : S48) [.int .i64 ((rd_T84 t231 x30_2).f0),.int .i64 (wrap64 ((wrap64 (t239 + x13_4)) - 1))] (fun _=>True) (fun _=>False) rfl rfl ?aP (fun _ hk=>hk.elim) ?aF ?aO ?aB ?aS ?aL ?_;(case aP=>exact k48_mkM _ _ _ (⟨((rd_T84 t231 x30_2).f0),wrap64 ((wrap64 (t239 + x13_4)) - 1)⟩ : S48));(case aB=>exact (by repeat (first|(with_reducible first|exact HB.out|apply zz03|apply zz01|apply zz02|refine zz10 ?_ GE238.out)|exact HB.out)));(case aF=>exact (fun _ _=>trivial));(case aO=>exact (by (with_reducible repeat (first|apply zz05|apply zz04|apply zz06));exact HO_6.out));(case aS=>exact (zz22 (by repeat (first|(with_reducible first|exact HB.out|apply zz03|apply zz01|apply zz02|refine zz10 ?_ GE238.out)|exact HB.out))));(case aL=>have:=LMc24.out;omega);intro v242 w26 ho hb hg hat;rw [← Ny241.out] at ho;have n0_:=zz00 (Kd.R_over' (by (with_reducible repeat (first|apply zz05|apply zz04|apply zz06));exact HO_28.out) (Kd.R_typed (by (with_reducible repeat (first|apply zz05|apply zz04|apply zz06));exact HO_6.out)) (by decide) hg);have n1_:=zz00 (blk_grown (g:=gb238) (o:=.cells #[.int .i64 ((rd_T84 t231 x30_2).f0),.int .i64 ((rd_T84 t231 x30_2).f1.f0),.bool ((rd_T84 t231 x30_2).f1.f1),.int .i64 ((rd_T84 t231 x30_2).f2),.int .i64 ((rd_T84 t231 x30_2).f3),.int .i64 ((rd_T84 t231 x30_2).f4),.int .i64 ((rd_T84 t231 x30_2).f5)] 84 (0,0)) (by (with_reducible repeat (first|refine zz07 ?_ _|refine zz09 ?_|refine zz08 ?_ _));exact BK238.out) hg (Kd.R_ne HO_6.out BK238.out (by decide)));have n2_:=zz00 (hb);have n3_:=zz00 (ho);clear HO_28;clear BK238;clear HB;clear HO_6;have HO_28:=n0_;have BK238:=n1_;have HB:=n2_;have HO243:=n3_;clear n0_ n1_ n2_ n3_;clear ho hb hg hat)))
                  go_roundg k4
                  case measure => have := HJ2.out; have := HK2.out; have := HJ13.out; have := HK4.out; omega
                  case rel=>exact ⟨(y241),(wrap64 (x13_4 + 1)),(by first|rfl|(simp;done)|(simp [*];done)),H',⟨by have:=HJ2.out;have:=HK2.out;have:=HJ13.out;have:=HK4.out;omega⟩,⟨by (with_reducible repeat (first|apply zz05|apply zz04|apply zz06));exact HO243.out⟩,⟨by (with_reducible repeat (first|apply zz05|apply zz04|apply zz06));exact HO_28.out⟩,⟨by (with_reducible repeat (first|refine zz07 ?_ _|refine zz09 ?_|refine zz08 ?_ _));exact BK238.out⟩,⟨by repeat (first|(with_reducible first|exact HB.out|apply zz03|apply zz01|apply zz02|refine zz10 ?_ GE238.out)|exact HB.out)⟩⟩
                 ·
                  rw [if_neg c24] at H
                  exact absurd H (by simp)
                ·
                 rw [if_neg c23] at H
                 have c23b0 : decide (x13_4 ≤ x10_13) = false := decide_eq_false c23
                 clear c23
                 have H' := zz00 H
                 clear H
                 go_wp2
                 repeat (go_quiet (fail); try go_wp2)
                 go_roundg k4
                 case measure => have := HJ2.out; have := HK2.out; have := HJ13.out; have := HK4.out; omega
                 case rel=>exact ⟨(x6_4),(wrap64 (x30_2 + 1)),(by first|rfl|(simp;done)|(simp [*];done)),H',⟨by have:=HJ2.out;have:=HK2.out;have:=HJ13.out;have:=HK4.out;omega⟩,⟨by (with_reducible repeat (first|apply zz05|apply zz04|apply zz06));exact HO_6.out⟩,⟨by (with_reducible repeat (first|apply zz05|apply zz04|apply zz06));exact Kd.R_mono HO_28.out (fun _ hk=>trivial)⟩,⟨by repeat (first|(with_reducible first|exact HB.out|apply zz03|apply zz01|apply zz02|refine zz10 ?_ GE238.out)|exact HB.out)⟩⟩
               ·
                rw [if_neg c22] at H
                have c22b0 : (t240 == 0) = false := zz27.mpr c22
                have c22b1 : (t240 != 0) = true := zz28.mpr c22
                have H' := zz00 H
                clear H
                go_wp2
                repeat (go_quiet (fail); try go_wp2)
                go_roundg k4
                case measure => have := HJ2.out; have := HK2.out; have := HJ13.out; have := HK4.out; omega
                case rel=>exact ⟨(x6_4),(wrap64 (x30_2 + 1)),(by first|rfl|(simp;done)|(simp [*];done)),H',⟨by have:=HJ2.out;have:=HK2.out;have:=HJ13.out;have:=HK4.out;omega⟩,⟨by (with_reducible repeat (first|apply zz05|apply zz04|apply zz06));exact HO_6.out⟩,⟨by (with_reducible repeat (first|apply zz05|apply zz04|apply zz06));exact Kd.R_mono HO_28.out (fun _ hk=>trivial)⟩,⟨by repeat (first|(with_reducible first|exact HB.out|apply zz03|apply zz01|apply zz02|refine zz10 ?_ GE238.out)|exact HB.out)⟩⟩
          ·
           rw [if_neg c13] at H
           exact absurd H (by simp)
         ·
          rw [if_neg c12] at H
          exact absurd H (by simp)
        ·
         rw [if_neg c11] at H
         have c11b0 : decide (x30_2 < (t231.length : Int)) = false := decide_eq_false c11
         clear c11
         replace H := zz14.mp H
         obtain ⟨t234, A270, H⟩ := H
         replace H : (some (t234, 0)) = some (r1, r2) := H
         have A27 := zz00 A270
         clear A270
         simp only [zz15, zz16] at H
         obtain ⟨rfl, rfl⟩ := H
         obtain ⟨Ao28, co28, eo28⟩ := Kd.R_slice HO_6.out
         subst eo28
         go_wp2_with (first|(go_at_call 39;(with_reducible refine (feast_Sort.calls _ _ x6_2 t234 _ ?side1 ?side2 A27.out).mono ?_);(case side1=>repeat (first|exact (Kd.R_reads' HO_6.out).2.2|(with_reducible refine Kd.C_alloc ?_ _)|(with_reducible refine Kd.C_drewN ?_ _)|(with_reducible refine Kd.C_drew ?_)));(case side2=>exact (Kd.R_reads' HO_6.out).2.1);rintro e w29 ⟨v235,rfl,ho0,hb⟩;have n0_:=zz00 (zz20 (by (with_reducible repeat (first|apply zz05|apply zz04|apply zz06));exact HO_6.out) (Kd.R_base ho0) hb);have n1_:=zz00 (zz19 (by (with_reducible repeat (first|apply zz05|apply zz04|apply zz06));exact HO_28.out) hb);have n2_:=zz00 (Kd.R_lower (Kd.R_new' ho0 (Kd.R_lt (by (with_reducible repeat (first|apply zz05|apply zz04|apply zz06));exact HO_6.out))) (zz22 (by repeat (first|(with_reducible first|exact HB.out|apply zz03|apply zz01|apply zz02)|exact HB.out))));have n3_:=zz00 (zz21 (by repeat (first|(with_reducible first|exact HB.out|apply zz03|apply zz01|apply zz02)|exact HB.out)) hb);clear HO_6;clear HO_28;clear HB;have HO_6:=n0_;have HO_28:=n1_;have HO236:=n2_;have HB:=n3_;clear n0_ n1_ n2_ n3_;(try clear hb);(try clear hb2);(try clear hk);(try clear hi);(try clear ho0)))
         repeat (go_quiet (first|(go_at_call 39;(with_reducible refine (feast_Sort.calls _ _ x6_2 t234 _ ?side1 ?side2 A27.out).mono ?_);(case side1=>repeat (first|exact (Kd.R_reads' HO_6.out).2.2|(with_reducible refine Kd.C_alloc ?_ _)|(with_reducible refine Kd.C_drewN ?_ _)|(with_reducible refine Kd.C_drew ?_)));(case side2=>exact (Kd.R_reads' HO_6.out).2.1);rintro e w29 ⟨v235,rfl,ho0,hb⟩;have n0_:=zz00 (zz20 (by (with_reducible repeat (first|apply zz05|apply zz04|apply zz06));exact HO_6.out) (Kd.R_base ho0) hb);have n1_:=zz00 (zz19 (by (with_reducible repeat (first|apply zz05|apply zz04|apply zz06));exact HO_28.out) hb);have n2_:=zz00 (Kd.R_lower (Kd.R_new' ho0 (Kd.R_lt (by (with_reducible repeat (first|apply zz05|apply zz04|apply zz06));exact HO_6.out))) (zz22 (by repeat (first|(with_reducible first|exact HB.out|apply zz03|apply zz01|apply zz02)|exact HB.out))));have n3_:=zz00 (zz21 (by repeat (first|(with_reducible first|exact HB.out|apply zz03|apply zz01|apply zz02)|exact HB.out)) hb);clear HO_6;clear HO_28;clear HB;have HO_6:=n0_;have HO_28:=n1_;have HO236:=n2_;have HB:=n3_;clear n0_ n1_ n2_ n3_;(try clear hb);(try clear hb2);(try clear hk);(try clear hi);(try clear ho0)));try go_wp2_with (first|(go_at_call 39;(with_reducible refine (feast_Sort.calls _ _ x6_2 t234 _ ?side1 ?side2 A27.out).mono ?_);(case side1=>repeat (first|exact (Kd.R_reads' HO_6.out).2.2|(with_reducible refine Kd.C_alloc ?_ _)|(with_reducible refine Kd.C_drewN ?_ _)|(with_reducible refine Kd.C_drew ?_)));(case side2=>exact (Kd.R_reads' HO_6.out).2.1);rintro e w29 ⟨v235,rfl,ho0,hb⟩;have n0_:=zz00 (zz20 (by (with_reducible repeat (first|apply zz05|apply zz04|apply zz06));exact HO_6.out) (Kd.R_base ho0) hb);have n1_:=zz00 (zz19 (by (with_reducible repeat (first|apply zz05|apply zz04|apply zz06));exact HO_28.out) hb);have n2_:=zz00 (Kd.R_lower (Kd.R_new' ho0 (Kd.R_lt (by (with_reducible repeat (first|apply zz05|apply zz04|apply zz06));exact HO_6.out))) (zz22 (by repeat (first|(with_reducible first|exact HB.out|apply zz03|apply zz01|apply zz02)|exact HB.out))));have n3_:=zz00 (zz21 (by repeat (first|(with_reducible first|exact HB.out|apply zz03|apply zz01|apply zz02)|exact HB.out)) hb);clear HO_6;clear HO_28;clear HB;have HO_6:=n0_;have HO_28:=n1_;have HO236:=n2_;have HB:=n3_;clear n0_ n1_ n2_ n3_;(try clear hb);(try clear hb2);(try clear hk);(try clear hi);(try clear ho0))))
         go_ret2
         exact ⟨_,by first|rfl|(simp [errW_none,errW_some] <;> rfl)|(simp [*,errW_none,errW_some] <;> rfl),by (with_reducible repeat (first|apply zz05|apply zz04|apply zz06));exact Kd.R_mono HO236.out (fun _ hk=>trivial),by repeat (first|(with_reducible first|exact HB.out|apply zz03|apply zz01|apply zz02)|exact HB.out)⟩

end Go.Proofs.YtflpddhoiafhcaaDoor.T
end

section
-- Written by wip/hprint.py of this repo (holes typed by hand, all else by a program) over the seat YtflpddhoiafhcaaDoor.
namespace Go.Proofs.YtflpddhoiafhcaaDoor.T
open Go.Proofs.YtflpddhoiafhcaaDoor.H
open Go.RowKit Go.Proofs.YtflpddhoiafhcaaDoorW.PrintWords Go.Proofs.YtflpddhoiafhcaaDoorW.PrintLast Go.Proofs.YtflpddhoiafhcaaDoorW.PrintMore
attribute [local go_sem] max2_int min2_int max_two min_two max_three min_three max_four min_four   -- for this text's walks alone
set_option linter.unusedVariables false
set_option linter.unusedSimpArgs false

def feast_Rest.f (a0 : Int) : Option (Bool) := if a0 = 1 then (some true) else (if a0 = 3 then (some true) else (if a0 = 4 then (some true) else (if a0 = 5 then (some true) else (if a0 = 6 then (some true) else (if a0 = 7 then (some true) else (if a0 = 8 then (some true) else (if a0 = 17 then (some true) else (if a0 = 18 then (some true) else (if a0 = 25 then (some true) else (some false))))))))))
set_option maxHeartbeats 8000000 in
set_option maxRecDepth 100000 in
theorem feast_Rest.calls (a0 : Int) (r : Bool) (w : World) (h : feast_Rest.f a0 = some r) :
    Calls Tryd.prog 37 #[.int .i64 a0] w fun e w' => e = .returned (.bool r) ∧ Drawn0 w w' := by
  have H : (if a0 = 1 then (some true) else (if a0 = 3 then (some true) else (if a0 = 4 then (some true) else (if a0 = 5 then (some true) else (if a0 = 6 then (some true) else (if a0 = 7 then (some true) else (if a0 = 8 then (some true) else (if a0 = 17 then (some true) else (if a0 = 18 then (some true) else (if a0 = 25 then (some true) else (some false))))))))))) = some r:=h
  clear h
  by_cases c2 : a0 = 1
  · rw [if_pos c2] at H
    have c2b0 : (a0 == 1) = true := zz29.mpr c2
    have c2b1 : (a0 != 1) = false := zz26.mpr c2
    clear c2
    obtain rfl := Option.some.inj H
    go_enter Tryd.func37, Tryd.ntmps37
    go_wp2
    go_ret
    exact ⟨by first | rfl | (simp; done) | (simp [*]; done), by repeat (first | exact Drawn0.refl _ | apply Drawn0.step)⟩
  · rw [if_neg c2] at H
    have c2b0 : (a0 == 1) = false := zz27.mpr c2
    have c2b1 : (a0 != 1) = true := zz28.mpr c2
    by_cases c3 : a0 = 3
    · rw [if_pos c3] at H
      have c3b0 : (a0 == 3) = true := zz29.mpr c3
      have c3b1 : (a0 != 3) = false := zz26.mpr c3
      clear c3
      obtain rfl := Option.some.inj H
      go_enter Tryd.func37, Tryd.ntmps37
      go_wp2
      go_ret
      exact ⟨by first | rfl | (simp; done) | (simp [*]; done), by repeat (first | exact Drawn0.refl _ | apply Drawn0.step)⟩
    · rw [if_neg c3] at H
      have c3b0 : (a0 == 3) = false := zz27.mpr c3
      have c3b1 : (a0 != 3) = true := zz28.mpr c3
      by_cases c4 : a0 = 4
      · rw [if_pos c4] at H
        have c4b0 : (a0 == 4) = true := zz29.mpr c4
        have c4b1 : (a0 != 4) = false := zz26.mpr c4
        clear c4
        obtain rfl := Option.some.inj H
        go_enter Tryd.func37, Tryd.ntmps37
        go_wp2
        go_ret
        exact ⟨by first | rfl | (simp; done) | (simp [*]; done), by repeat (first | exact Drawn0.refl _ | apply Drawn0.step)⟩
      · rw [if_neg c4] at H
        have c4b0 : (a0 == 4) = false := zz27.mpr c4
        have c4b1 : (a0 != 4) = true := zz28.mpr c4
        by_cases c5 : a0 = 5
        · rw [if_pos c5] at H
          have c5b0 : (a0 == 5) = true := zz29.mpr c5
          have c5b1 : (a0 != 5) = false := zz26.mpr c5
          clear c5
          obtain rfl := Option.some.inj H
          go_enter Tryd.func37, Tryd.ntmps37
          go_wp2
          go_ret
          exact ⟨by first | rfl | (simp; done) | (simp [*]; done), by repeat (first | exact Drawn0.refl _ | apply Drawn0.step)⟩
        · rw [if_neg c5] at H
          have c5b0 : (a0 == 5) = false := zz27.mpr c5
          have c5b1 : (a0 != 5) = true := zz28.mpr c5
          by_cases c6 : a0 = 6
          · rw [if_pos c6] at H
            have c6b0 : (a0 == 6) = true := zz29.mpr c6
            have c6b1 : (a0 != 6) = false := zz26.mpr c6
            clear c6
            obtain rfl := Option.some.inj H
            go_enter Tryd.func37, Tryd.ntmps37
            go_wp2
            go_ret
            exact ⟨by first | rfl | (simp; done) | (simp [*]; done), by repeat (first | exact Drawn0.refl _ | apply Drawn0.step)⟩
          · rw [if_neg c6] at H
            have c6b0 : (a0 == 6) = false := zz27.mpr c6
            have c6b1 : (a0 != 6) = true := zz28.mpr c6
            by_cases c7 : a0 = 7
            · rw [if_pos c7] at H
              have c7b0 : (a0 == 7) = true := zz29.mpr c7
              have c7b1 : (a0 != 7) = false := zz26.mpr c7
              clear c7
              obtain rfl := Option.some.inj H
              go_enter Tryd.func37, Tryd.ntmps37
              go_wp2
              go_ret
              exact ⟨by first | rfl | (simp; done) | (simp [*]; done), by repeat (first | exact Drawn0.refl _ | apply Drawn0.step)⟩
            · rw [if_neg c7] at H
              have c7b0 : (a0 == 7) = false := zz27.mpr c7
              have c7b1 : (a0 != 7) = true := zz28.mpr c7
              by_cases c8 : a0 = 8
              · rw [if_pos c8] at H
                have c8b0 : (a0 == 8) = true := zz29.mpr c8
                have c8b1 : (a0 != 8) = false := zz26.mpr c8
                clear c8
                obtain rfl := Option.some.inj H
                go_enter Tryd.func37, Tryd.ntmps37
                go_wp2
                go_ret
                exact ⟨by first | rfl | (simp; done) | (simp [*]; done), by repeat (first | exact Drawn0.refl _ | apply Drawn0.step)⟩
              · rw [if_neg c8] at H
                have c8b0 : (a0 == 8) = false := zz27.mpr c8
                have c8b1 : (a0 != 8) = true := zz28.mpr c8
                by_cases c9 : a0 = 17
                · rw [if_pos c9] at H
                  have c9b0 : (a0 == 17) = true := zz29.mpr c9
                  have c9b1 : (a0 != 17) = false := zz26.mpr c9
                  clear c9
                  obtain rfl := Option.some.inj H
                  go_enter Tryd.func37, Tryd.ntmps37
                  go_wp2
                  go_ret
                  exact ⟨by first | rfl | (simp; done) | (simp [*]; done), by repeat (first | exact Drawn0.refl _ | apply Drawn0.step)⟩
                · rw [if_neg c9] at H
                  have c9b0 : (a0 == 17) = false := zz27.mpr c9
                  have c9b1 : (a0 != 17) = true := zz28.mpr c9
                  by_cases c10 : a0 = 18
                  · rw [if_pos c10] at H
                    have c10b0 : (a0 == 18) = true := zz29.mpr c10
                    have c10b1 : (a0 != 18) = false := zz26.mpr c10
                    clear c10
                    obtain rfl := Option.some.inj H
                    go_enter Tryd.func37, Tryd.ntmps37
                    go_wp2
                    go_ret
                    exact ⟨by first | rfl | (simp; done) | (simp [*]; done), by repeat (first | exact Drawn0.refl _ | apply Drawn0.step)⟩
                  · rw [if_neg c10] at H
                    have c10b0 : (a0 == 18) = false := zz27.mpr c10
                    have c10b1 : (a0 != 18) = true := zz28.mpr c10
                    by_cases c11 : a0 = 25
                    · rw [if_pos c11] at H
                      have c11b0 : (a0 == 25) = true := zz29.mpr c11
                      have c11b1 : (a0 != 25) = false := zz26.mpr c11
                      clear c11
                      obtain rfl := Option.some.inj H
                      go_enter Tryd.func37, Tryd.ntmps37
                      go_wp2
                      go_ret
                      exact ⟨by first | rfl | (simp; done) | (simp [*]; done), by repeat (first | exact Drawn0.refl _ | apply Drawn0.step)⟩
                    · rw [if_neg c11] at H
                      have c11b0 : (a0 == 25) = false := zz27.mpr c11
                      have c11b1 : (a0 != 25) = true := zz28.mpr c11
                      obtain rfl := Option.some.inj H
                      go_enter Tryd.func37, Tryd.ntmps37
                      go_wp2
                      go_ret
                      exact ⟨by first | rfl | (simp; done) | (simp [*]; done), by repeat (first | exact Drawn0.refl _ | apply Drawn0.step)⟩

def l19_awake.l0 : Nat → List (S48) → Int → Int → Int → Int → Option (Bool)
  | 0, _, _, _, _, _ => none
  | k + 1, x1, x2, x3, x4, x5 => if x5 < (x1.length : Int) then (if 0 ≤ x5 then (if ((rd_T48 x1 x5).f0) = 17 then (l19_awake.l0 k x1 x2 (wrap64 (x3 + 1)) ((rd_T48 x1 x5).f1) (wrap64 (x5 + 1))) else (l19_awake.l0 k x1 x2 x3 x4 (wrap64 (x5 + 1)))) else (none)) else ((feast_Of.f k 5784 2).bind fun bt250 => (if x2 = 0 then (if x3 = 4 then (if x4 = 739006 then (if bt250.2 = 1 then ((feast_Rest.f 17).bind fun t254 => (if t254 = true then ((feast_Rest.f 14).bind fun t255 => (some (!t255))) else (some false))) else (some false)) else (some false)) else (some false)) else (some false)))
def l19_awake.f (k : Nat)  : Option (Bool) := (feast_Of.f k 5784 0).bind fun bt244 => (l19_awake.l0 k bt244.1 bt244.2 0 0 0)
theorem l19_awake.mono_l : ∀ k, (∀ y0 y1 y2 y3 y4, LeO (l19_awake.l0 k y0 y1 y2 y3 y4) (l19_awake.l0 (k + 1) y0 y1 y2 y3 y4))
 | 0 => fun _ _ _ _ _ r h => by simp [l19_awake.l0] at h
 | k + 1 => by
  have ih0 := l19_awake.mono_l k
  ·
   intro y0 y1 y2 y3 y4
   unfold l19_awake.l0
   repeat' first
   | (with_reducible exact ih0 _ _ _ _ _)
   | (with_reducible exact feast_Of.mono _ _ _)
   | (with_reducible exact LeO.refl _)
   | (with_reducible exact LeO.none _)
   | (with_reducible refine LeO.ite ?_ ?_)
   | (with_reducible refine LeO.bind ?_ (fun _ => ?_))
   | exact ih0 _ _ _ _ _
   | exact feast_Of.mono _ _ _
   | exact LeO.none _
   | refine LeO.ite ?_ ?_
   | refine LeO.bind ?_ (fun _ => ?_)
theorem l19_awake.mono : ∀ k, LeO (l19_awake.f k ) (l19_awake.f (k + 1) ) := by
 intro  k
 have ih0 := l19_awake.mono_l k
 unfold l19_awake.f
 repeat' first
   | (with_reducible exact ih0 _ _ _ _ _)
   | (with_reducible exact feast_Of.mono _ _ _)
   | (with_reducible exact LeO.refl _)
   | (with_reducible exact LeO.none _)
   | (with_reducible refine LeO.ite ?_ ?_)
   | (with_reducible refine LeO.bind ?_ (fun _ => ?_))
   | exact ih0 _ _ _ _ _
   | exact feast_Of.mono _ _ _
   | exact LeO.none _
   | refine LeO.ite ?_ ?_
   | refine LeO.bind ?_ (fun _ => ?_)
set_option maxHeartbeats 8000000 in
set_option maxRecDepth 100000 in
theorem l19_awake.calls (k : Nat)  (r : Bool) (w : World) (HGT : GlobT w) (h : l19_awake.f k  = some r) (hrT : r = true) :
  Calls Tryd.prog 35 #[] w fun e w' => e = .returned (.bool r) ∧ Below w.heap.size w w' := by
 have HB := zz00 (Below.refl w.heap.size w)
 have H : ((feast_Of.f k 5784 0).bind fun bt244 => (l19_awake.l0 k bt244.1 bt244.2 0 0 0)) = some r := h
 clear h
 replace H := zz14.mp H
 obtain ⟨⟨t244, t245⟩, A10, H⟩ := H
 replace H : (l19_awake.l0 k t244 t245 0 0 0) = some r := H
 have A1 := zz00 A10
 clear A10
 have H' := zz00 H
 clear H
 go_enter Tryd.func35, Tryd.ntmps35
 go_wp2_with (first|(go_at_call 33;(with_reducible refine (feast_Of.calls k 5784 0 t244 t245 _ ?side1 A1.out).mono ?_);(case side1=>exact GlobT.below HGT (by repeat (first|(with_reducible first|exact HB.out|apply zz03|apply zz01|apply zz02)|exact HB.out)));rintro e w2 ⟨v246,rfl,ho0,hb⟩;have n0_:=zz00 (Kd.R_lower ho0 (zz22 (by repeat (first|(with_reducible first|exact HB.out|apply zz03|apply zz01|apply zz02)|exact HB.out))));have n1_:=zz00 (zz21 (by repeat (first|(with_reducible first|exact HB.out|apply zz03|apply zz01|apply zz02)|exact HB.out)) hb);clear HB;have HO247:=n0_;have HB:=n1_;clear n0_ n1_;(try clear hb);(try clear hb2);(try clear hk);(try clear hi);(try clear ho0)))
 repeat (go_quiet (first|(go_at_call 33;(with_reducible refine (feast_Of.calls k 5784 0 t244 t245 _ ?side1 A1.out).mono ?_);(case side1=>exact GlobT.below HGT (by repeat (first|(with_reducible first|exact HB.out|apply zz03|apply zz01|apply zz02)|exact HB.out)));rintro e w2 ⟨v246,rfl,ho0,hb⟩;have n0_:=zz00 (Kd.R_lower ho0 (zz22 (by repeat (first|(with_reducible first|exact HB.out|apply zz03|apply zz01|apply zz02)|exact HB.out))));have n1_:=zz00 (zz21 (by repeat (first|(with_reducible first|exact HB.out|apply zz03|apply zz01|apply zz02)|exact HB.out)) hb);clear HB;have HO247:=n0_;have HB:=n1_;clear n0_ n1_;(try clear hb);(try clear hb2);(try clear hk);(try clear hi);(try clear ho0)));try go_wp2_with (first|(go_at_call 33;(with_reducible refine (feast_Of.calls k 5784 0 t244 t245 _ ?side1 A1.out).mono ?_);(case side1=>exact GlobT.below HGT (by repeat (first|(with_reducible first|exact HB.out|apply zz03|apply zz01|apply zz02)|exact HB.out)));rintro e w2 ⟨v246,rfl,ho0,hb⟩;have n0_:=zz00 (Kd.R_lower ho0 (zz22 (by repeat (first|(with_reducible first|exact HB.out|apply zz03|apply zz01|apply zz02)|exact HB.out))));have n1_:=zz00 (zz21 (by repeat (first|(with_reducible first|exact HB.out|apply zz03|apply zz01|apply zz02)|exact HB.out)) hb);clear HB;have HO247:=n0_;have HB:=n1_;clear n0_ n1_;(try clear hb);(try clear hb2);(try clear hk);(try clear hi);(try clear ho0))))
 go_loopg [3,4,5] k (fun kq v3 v4 v5 w'=>∃ (x3_1 : Int) (x4_1 : Int) (x5_1 : Int),v3 = .int .i64 x3_1 ∧ v4 = .int .i64 x4_1 ∧ v5 = .int .i64 x5_1 ∧ Aside0 (l19_awake.l0 kq t244 t245 x3_1 x4_1 x5_1 = some r) ∧ Aside0 (kq ≤ k) ∧ Aside0 (Kd.R k48 48 w' w.heap.size (fun _=>True) v246 t244) ∧ Aside0 (Below w.heap.size w w'))
 case atStart=>exact ⟨(0),(0),(0),(by first|rfl|(simp;done)|(simp [*];done)),(by first|rfl|(simp;done)|(simp [*];done)),(by first|rfl|(simp;done)|(simp [*];done)),H',⟨Nat.le_refl _⟩,⟨by (with_reducible repeat (first|apply zz05|apply zz04|apply zz06));exact HO247.out⟩,⟨by repeat (first|(with_reducible first|exact HB.out|apply zz03|apply zz01|apply zz02)|exact HB.out)⟩⟩
 case round =>
  clear H'
  try clear p2
  obtain ⟨x3_1, x4_1, x5_1, rfl, rfl, rfl, HA, HK1, HO_1, HB⟩ := hrel
  cases gk with
  | zero => exact absurd HA.out (by simp [l19_awake.l0])
  | succ k1 =>
   have H := HA.out
   clear HA
   simp only [l19_awake.l0] at H
   by_cases c3 : x5_1 < (t244.length : Int)
   ·
    rw [if_pos c3] at H
    have c3b0 : decide (x5_1 < (t244.length : Int)) = true := decide_eq_true c3
    clear c3
    by_cases c4 : 0 ≤ x5_1
    ·
     rw [if_pos c4] at H
     have c4b0 : decide (0 ≤ x5_1) = true := decide_eq_true c4
     clear c4
     by_cases c5 : ((rd_T48 t244 x5_1).f0) = 17
     ·
      rw [if_pos c5] at H
      have c5b0 : (((rd_T48 t244 x5_1).f0) == 17) = true := zz29.mpr c5
      have c5b1 : (((rd_T48 t244 x5_1).f0) != 17) = false := zz26.mpr c5
      clear c5
      have H' := zz00 H
      clear H
      obtain ⟨Ao6, co6, eo6⟩ := Kd.R_slice HO_1.out
      subst eo6
      have p248 : 0 ≤ (x5_1 : Int) := zz31 (by first | (with_reducible assumption) | assumption)
      have q248 : x5_1 < (t244.length : Int) := zz31 (by first | (with_reducible assumption) | assumption)
      obtain ⟨ad248, e248, hx248_0, hx248_1⟩ := at_T48 (Kd.R_reads' HO_1.out).2.2 x5_1 p248 q248
      cases e248
      replace p248 := eq_true p248
      replace q248 := eq_true q248
      have p249 : 0 ≤ (x5_1 : Int) := zz31 (by first | (with_reducible assumption) | assumption)
      have q249 : x5_1 < (t244.length : Int) := zz31 (by first | (with_reducible assumption) | assumption)
      obtain ⟨ad249, e249, hx249_0, hx249_1⟩ := at_T48 (Kd.R_reads' HO_1.out).2.2 x5_1 p249 q249
      obtain rfl : ad248 = ad249 := (by injection e249)
      replace p249 := eq_true p249
      replace q249 := eq_true q249
      go_wp2
      repeat (go_quiet (fail); try go_wp2)
      go_roundg k1
      case measure => have := HK1.out; omega
      case rel=>exact ⟨(wrap64 (x3_1 + 1)),((rd_T48 t244 x5_1).f1),(wrap64 (x5_1 + 1)),(by first|rfl|(simp;done)|(simp [*];done)),(by first|rfl|(simp;done)|(simp [*];done)),(by first|rfl|(simp;done)|(simp [*];done)),H',⟨by have:=HK1.out;omega⟩,⟨by (with_reducible repeat (first|apply zz05|apply zz04|apply zz06));exact HO_1.out⟩,⟨by repeat (first|(with_reducible first|exact HB.out|apply zz03|apply zz01|apply zz02)|exact HB.out)⟩⟩
     ·
      rw [if_neg c5] at H
      have c5b0 : (((rd_T48 t244 x5_1).f0) == 17) = false := zz27.mpr c5
      have c5b1 : (((rd_T48 t244 x5_1).f0) != 17) = true := zz28.mpr c5
      have H' := zz00 H
      clear H
      obtain ⟨Ao7, co7, eo7⟩ := Kd.R_slice HO_1.out
      subst eo7
      have p248 : 0 ≤ (x5_1 : Int) := zz31 (by first | (with_reducible assumption) | assumption)
      have q248 : x5_1 < (t244.length : Int) := zz31 (by first | (with_reducible assumption) | assumption)
      obtain ⟨ad248, e248, hx248_0, hx248_1⟩ := at_T48 (Kd.R_reads' HO_1.out).2.2 x5_1 p248 q248
      cases e248
      replace p248 := eq_true p248
      replace q248 := eq_true q248
      go_wp2
      repeat (go_quiet (fail); try go_wp2)
      go_roundg k1
      case measure => have := HK1.out; omega
      case rel=>exact ⟨(x3_1),(x4_1),(wrap64 (x5_1 + 1)),(by first|rfl|(simp;done)|(simp [*];done)),(by first|rfl|(simp;done)|(simp [*];done)),(by first|rfl|(simp;done)|(simp [*];done)),H',⟨by have:=HK1.out;omega⟩,⟨by (with_reducible repeat (first|apply zz05|apply zz04|apply zz06));exact HO_1.out⟩,⟨by repeat (first|(with_reducible first|exact HB.out|apply zz03|apply zz01|apply zz02)|exact HB.out)⟩⟩
    ·
     rw [if_neg c4] at H
     exact absurd H (by simp)
   ·
    rw [if_neg c3] at H
    have c3b0 : decide (x5_1 < (t244.length : Int)) = false := decide_eq_false c3
    clear c3
    replace H := zz14.mp H
    obtain ⟨⟨t250, t251⟩, A80, H⟩ := H
    replace H : (if t245 = 0 then (if x3_1 = 4 then (if x4_1 = 739006 then (if t251 = 1 then ((feast_Rest.f 17).bind fun t254=>(if t254 = true then ((feast_Rest.f 14).bind fun t255=>(some (!t255))) else (some false))) else (some false)) else (some false)) else (some false)) else (some false)) = some r:=H
    have A8 := zz00 A80
    clear A80
    by_cases c9 : t245 = 0
    ·
     rw [if_pos c9] at H
     have c9b0 : (t245 == 0) = true := zz29.mpr c9
     have c9b1 : (t245 != 0) = false := zz26.mpr c9
     clear c9
     by_cases c10 : x3_1 = 4
     ·
      rw [if_pos c10] at H
      have c10b0 : (x3_1 == 4) = true := zz29.mpr c10
      have c10b1 : (x3_1 != 4) = false := zz26.mpr c10
      clear c10
      by_cases c11 : x4_1 = 739006
      ·
       rw [if_pos c11] at H
       have c11b0 : (x4_1 == 739006) = true := zz29.mpr c11
       have c11b1 : (x4_1 != 739006) = false := zz26.mpr c11
       clear c11
       by_cases c12 : t251 = 1
       ·
        rw [if_pos c12] at H
        have c12b0 : (t251 == 1) = true := zz29.mpr c12
        have c12b1 : (t251 != 1) = false := zz26.mpr c12
        clear c12
        replace H := zz14.mp H
        obtain ⟨t254, A130, H⟩ := H
        replace H : (if t254 = true then ((feast_Rest.f 14).bind fun t255 => (some (!t255))) else (some false)) = some r := H
        have A13 := zz00 A130
        clear A130
        by_cases c14 : t254 = true
        ·
         subst c14
         have H1 : ((feast_Rest.f 14).bind fun t255 => (some (!t255))) = some r := by rw [if_pos rfl] at H; exact H
         clear H
         have H := H1
         clear H1
         replace H := zz14.mp H
         obtain ⟨t255, A150, H⟩ := H
         replace H : (some (!t255)) = some r := H
         have A15 := zz00 A150
         clear A150
         obtain rfl := Option.some.inj H
         obtain ⟨Ao16, co16, eo16⟩ := Kd.R_slice HO_1.out
         subst eo16
         go_wp2_with (first|(go_at_call 33;(with_reducible refine (feast_Of.calls k1 5784 2 t250 t251 _ ?side1 A8.out).mono ?_);(case side1=>exact GlobT.below HGT (by repeat (first|(with_reducible first|exact HB.out|apply zz03|apply zz01|apply zz02)|exact HB.out)));rintro e w17 ⟨v252,rfl,ho0,hb⟩;have n0_:=zz00 (zz20 (by (with_reducible repeat (first|apply zz05|apply zz04|apply zz06));exact HO_1.out) (Kd.R_base ho0) hb);have n1_:=zz00 (Kd.R_lower (Kd.R_new' ho0 (Kd.R_lt (by (with_reducible repeat (first|apply zz05|apply zz04|apply zz06));exact HO_1.out))) (zz22 (by repeat (first|(with_reducible first|exact HB.out|apply zz03|apply zz01|apply zz02)|exact HB.out))));have n2_:=zz00 (zz21 (by repeat (first|(with_reducible first|exact HB.out|apply zz03|apply zz01|apply zz02)|exact HB.out)) hb);clear HO_1;clear HB;have HO_1:=n0_;have HO253:=n1_;have HB:=n2_;clear n0_ n1_ n2_;(try clear hb);(try clear hb2);(try clear hk);(try clear hi);(try clear ho0))|(go_at_call 37;(with_reducible refine (feast_Rest.calls 17 true _ A13.out).mono ?_);rintro e w' ⟨rfl,⟨nd,rfl⟩⟩;(try first|exact ⟨rfl,_,World.drewN_drewN _ _ _⟩|exact ⟨rfl,_,Eq.trans (World.drewN_drewN _ _ _) (congrArg (World.drewN _) (Nat.add_assoc _ _ _))⟩))|(go_at_call 37;(with_reducible refine (feast_Rest.calls 14 t255 _ A15.out).mono ?_);rintro e w' ⟨rfl,⟨nd,rfl⟩⟩;(try first|exact ⟨rfl,_,World.drewN_drewN _ _ _⟩|exact ⟨rfl,_,Eq.trans (World.drewN_drewN _ _ _) (congrArg (World.drewN _) (Nat.add_assoc _ _ _))⟩)))
         repeat (go_quiet (first|(go_at_call 33;(with_reducible refine (feast_Of.calls k1 5784 2 t250 t251 _ ?side1 A8.out).mono ?_);(case side1=>exact GlobT.below HGT (by repeat (first|(with_reducible first|exact HB.out|apply zz03|apply zz01|apply zz02)|exact HB.out)));rintro e w17 ⟨v252,rfl,ho0,hb⟩;have n0_:=zz00 (zz20 (by (with_reducible repeat (first|apply zz05|apply zz04|apply zz06));exact HO_1.out) (Kd.R_base ho0) hb);have n1_:=zz00 (Kd.R_lower (Kd.R_new' ho0 (Kd.R_lt (by (with_reducible repeat (first|apply zz05|apply zz04|apply zz06));exact HO_1.out))) (zz22 (by repeat (first|(with_reducible first|exact HB.out|apply zz03|apply zz01|apply zz02)|exact HB.out))));have n2_:=zz00 (zz21 (by repeat (first|(with_reducible first|exact HB.out|apply zz03|apply zz01|apply zz02)|exact HB.out)) hb);clear HO_1;clear HB;have HO_1:=n0_;have HO253:=n1_;have HB:=n2_;clear n0_ n1_ n2_;(try clear hb);(try clear hb2);(try clear hk);(try clear hi);(try clear ho0))|(go_at_call 37;(with_reducible refine (feast_Rest.calls 17 true _ A13.out).mono ?_);rintro e w' ⟨rfl,⟨nd,rfl⟩⟩;(try first|exact ⟨rfl,_,World.drewN_drewN _ _ _⟩|exact ⟨rfl,_,Eq.trans (World.drewN_drewN _ _ _) (congrArg (World.drewN _) (Nat.add_assoc _ _ _))⟩))|(go_at_call 37;(with_reducible refine (feast_Rest.calls 14 t255 _ A15.out).mono ?_);rintro e w' ⟨rfl,⟨nd,rfl⟩⟩;(try first|exact ⟨rfl,_,World.drewN_drewN _ _ _⟩|exact ⟨rfl,_,Eq.trans (World.drewN_drewN _ _ _) (congrArg (World.drewN _) (Nat.add_assoc _ _ _))⟩)));try go_wp2_with (first|(go_at_call 33;(with_reducible refine (feast_Of.calls k1 5784 2 t250 t251 _ ?side1 A8.out).mono ?_);(case side1=>exact GlobT.below HGT (by repeat (first|(with_reducible first|exact HB.out|apply zz03|apply zz01|apply zz02)|exact HB.out)));rintro e w17 ⟨v252,rfl,ho0,hb⟩;have n0_:=zz00 (zz20 (by (with_reducible repeat (first|apply zz05|apply zz04|apply zz06));exact HO_1.out) (Kd.R_base ho0) hb);have n1_:=zz00 (Kd.R_lower (Kd.R_new' ho0 (Kd.R_lt (by (with_reducible repeat (first|apply zz05|apply zz04|apply zz06));exact HO_1.out))) (zz22 (by repeat (first|(with_reducible first|exact HB.out|apply zz03|apply zz01|apply zz02)|exact HB.out))));have n2_:=zz00 (zz21 (by repeat (first|(with_reducible first|exact HB.out|apply zz03|apply zz01|apply zz02)|exact HB.out)) hb);clear HO_1;clear HB;have HO_1:=n0_;have HO253:=n1_;have HB:=n2_;clear n0_ n1_ n2_;(try clear hb);(try clear hb2);(try clear hk);(try clear hi);(try clear ho0))|(go_at_call 37;(with_reducible refine (feast_Rest.calls 17 true _ A13.out).mono ?_);rintro e w' ⟨rfl,⟨nd,rfl⟩⟩;(try first|exact ⟨rfl,_,World.drewN_drewN _ _ _⟩|exact ⟨rfl,_,Eq.trans (World.drewN_drewN _ _ _) (congrArg (World.drewN _) (Nat.add_assoc _ _ _))⟩))|(go_at_call 37;(with_reducible refine (feast_Rest.calls 14 t255 _ A15.out).mono ?_);rintro e w' ⟨rfl,⟨nd,rfl⟩⟩;(try first|exact ⟨rfl,_,World.drewN_drewN _ _ _⟩|exact ⟨rfl,_,Eq.trans (World.drewN_drewN _ _ _) (congrArg (World.drewN _) (Nat.add_assoc _ _ _))⟩))))
         go_ret
         exact ⟨by first|rfl|(simp [errW_none,errW_some] <;> rfl)|(simp [*,errW_none,errW_some] <;> rfl),by repeat (first|(with_reducible first|exact HB.out|apply zz03|apply zz01|apply zz02)|exact HB.out)⟩
        ·
         replace c14 := zz32.mpr c14
         subst c14
         have H1 : (some false) = some r := by rw [if_neg (show ¬ (false = true) by decide)] at H; exact H
         clear H
         have H := H1
         clear H1
         obtain rfl := Option.some.inj H
         cases hrT
       ·
        rw [if_neg c12] at H
        have c12b0 : (t251 == 1) = false := zz27.mpr c12
        have c12b1 : (t251 != 1) = true := zz28.mpr c12
        obtain rfl := Option.some.inj H
        cases hrT
      ·
       rw [if_neg c11] at H
       have c11b0 : (x4_1 == 739006) = false := zz27.mpr c11
       have c11b1 : (x4_1 != 739006) = true := zz28.mpr c11
       obtain rfl := Option.some.inj H
       cases hrT
     ·
      rw [if_neg c10] at H
      have c10b0 : (x3_1 == 4) = false := zz27.mpr c10
      have c10b1 : (x3_1 != 4) = true := zz28.mpr c10
      obtain rfl := Option.some.inj H
      cases hrT
    ·
     rw [if_neg c9] at H
     have c9b0 : (t245 == 0) = false := zz27.mpr c9
     have c9b1 : (t245 != 0) = true := zz28.mpr c9
     obtain rfl := Option.some.inj H
     cases hrT

def r19_before.f (a0_0 : Int) (a0_1 : Int) (a1_0 : Int) (a1_1 : Int) : Option (Bool) := if a0_1 < a1_1 then (some true) else (if a0_1 = a1_1 then (some (decide (a0_0 < a1_0))) else (some false))
set_option maxHeartbeats 8000000 in
set_option maxRecDepth 100000 in
theorem r19_before.calls (a0_0 : Int) (a0_1 : Int) (a1_0 : Int) (a1_1 : Int) (r : Bool) (w : World) (h : r19_before.f a0_0 a0_1 a1_0 a1_1 = some r) :
  Calls Tryd.prog 69 #[.agg #[.int .i64 a0_0, .int .i64 a0_1], .agg #[.int .i64 a1_0, .int .i64 a1_1]] w fun e w' => e = .returned (.bool r) ∧ Below w.heap.size w w' := by
 have hu48 := Tryd.underlying48
 have HB := zz00 (Below.refl w.heap.size w)
 have H : (if a0_1 < a1_1 then (some true) else (if a0_1 = a1_1 then (some (decide (a0_0 < a1_0))) else (some false))) = some r := h
 clear h
 by_cases c3 : a0_1 < a1_1
 ·
  rw [if_pos c3] at H
  have c3b0 : decide (a0_1 < a1_1) = true := decide_eq_true c3
  clear c3
  obtain rfl := Option.some.inj H
  go_enter Tryd.func69, Tryd.ntmps69
  go_wp2_with (first|((with_reducible refine zz24 (N:=2) rfl ?_);refine zz30 ?hg (N:=2) ?hd (cs:=#[.int .i64 a0_0,.int .i64 a0_1]) (t:=48) ?hr ?_;(case hd=>rfl);(case hg=>rfl);(case hr=>first|(go_simp;done)|(go_simp;rfl));intro gb256 hg w4 hbox hb;have n0_:=zz00 (zz21 (by repeat (first|(with_reducible first|exact HB.out|apply zz03|apply zz01|apply zz02)|exact HB.out)) hb);have n1_:=zz00 (hbox);have n2_:=zz00 ((by rw [hg];exact (zz22 (by repeat (first|(with_reducible first|exact HB.out|apply zz03|apply zz01|apply zz02)|exact HB.out))) : w.heap.size ≤ gb256));have n3_:=zz00 ((by rw [hg];exact (zz22 (by repeat (first|(with_reducible first|exact HB.out|apply zz03|apply zz01|apply zz02)|exact HB.out))) : w.heap.size ≤ gb256));clear HB;have HB:=n0_;have BK256:=n1_;have GW256:=n2_;have GE256:=n3_;clear n0_ n1_ n2_ n3_;clear hb hbox hg)|((with_reducible refine zz24 (N:=3) rfl ?_);refine zz30 ?hg (N:=3) ?hd (cs:=#[.int .i64 a1_0,.int .i64 a1_1]) (t:=48) ?hr ?_;(case hd=>rfl);(case hg=>rfl);(case hr=>first|(go_simp;done)|(go_simp;rfl));intro gb257 hg w5 hbox hb;have n0_:=zz00 (zz34 (g:=gb256) (o:=.cells #[.int .i64 a0_0,.int .i64 a0_1] 48 (0,0)) (by (with_reducible repeat (first|refine zz07 ?_ _|refine zz09 ?_|refine zz08 ?_ _));exact BK256.out) hb);have n1_:=zz00 (zz21 (by repeat (first|(with_reducible first|exact HB.out|apply zz03|apply zz01|apply zz02|refine zz10 ?_ GE256.out)|exact HB.out)) hb);have n2_:=zz00 (hbox);have n3_:=zz00 ((by rw [hg];exact (zz22 (by repeat (first|(with_reducible first|exact HB.out|apply zz03|apply zz01|apply zz02|refine zz10 ?_ GE256.out)|exact HB.out))) : w.heap.size ≤ gb257));have n4_:=zz00 ((by rw [hg];exact (zz22 (by repeat (first|(with_reducible first|exact HB.out|apply zz03|apply zz01|apply zz02|refine zz10 ?_ GE256.out)|exact HB.out))) : w.heap.size ≤ gb257));have n5_:=zz00 ((by rw [hg];exact Nat.ne_of_lt (blk_lt (g:=gb256) (o:=.cells #[.int .i64 a0_0,.int .i64 a0_1] 48 (0,0)) (by (with_reducible repeat (first|refine zz07 ?_ _|refine zz09 ?_|refine zz08 ?_ _));exact BK256.out)) : gb256 ≠ gb257));have n6_:=zz00 ((by rw [hg];exact Nat.ne_of_gt (blk_lt (g:=gb256) (o:=.cells #[.int .i64 a0_0,.int .i64 a0_1] 48 (0,0)) (by (with_reducible repeat (first|refine zz07 ?_ _|refine zz09 ?_|refine zz08 ?_ _));exact BK256.out)) : gb257 ≠ gb256));clear BK256;clear HB;have BK256:=n0_;have HB:=n1_;have BK257:=n2_;have GW257:=n3_;have GE257:=n4_;have NB256_257:=n5_;have NB257_256:=n6_;clear n0_ n1_ n2_ n3_ n4_ n5_ n6_;clear hb hbox hg;have hnb6:=NB256_257.out;have hnc6:=NB257_256.out;have hcz7_0 : w5.cell? ⟨gb256,0,none⟩ = some (.int .i64 a0_0):=(zz18 BK256.out 0).trans rfl;have hcz7_1 : w5.cell? ⟨gb256,1,none⟩ = some (.int .i64 a0_1):=(zz18 BK256.out 1).trans rfl;have hfz7_0:=zz17 BK256.out 0;have hfz7_1:=zz17 BK256.out 1;have hcz8_0 : w5.cell? ⟨gb257,0,none⟩ = some (.int .i64 a1_0):=(zz18 BK257.out 0).trans rfl;have hcz8_1 : w5.cell? ⟨gb257,1,none⟩ = some (.int .i64 a1_1):=(zz18 BK257.out 1).trans rfl;have hfz8_0:=zz17 BK257.out 0;have hfz8_1:=zz17 BK257.out 1))
  go_ret
  exact ⟨by first|rfl|(simp [errW_none,errW_some] <;> rfl)|(simp [*,errW_none,errW_some] <;> rfl),by repeat (first|(with_reducible first|exact HB.out|apply zz03|apply zz01|apply zz02|refine zz10 ?_ GE256.out|refine zz10 ?_ GE257.out)|exact HB.out)⟩
 ·
  rw [if_neg c3] at H
  have c3b0 : decide (a0_1 < a1_1) = false := decide_eq_false c3
  clear c3
  by_cases c9 : a0_1 = a1_1
  ·
   rw [if_pos c9] at H
   have c9b0 : (a0_1 == a1_1) = true := zz29.mpr c9
   have c9b1 : (a0_1 != a1_1) = false := zz26.mpr c9
   clear c9
   obtain rfl := Option.some.inj H
   go_enter Tryd.func69, Tryd.ntmps69
   go_wp2_with (first|((with_reducible refine zz24 (N:=2) rfl ?_);refine zz30 ?hg (N:=2) ?hd (cs:=#[.int .i64 a0_0,.int .i64 a0_1]) (t:=48) ?hr ?_;(case hd=>rfl);(case hg=>rfl);(case hr=>first|(go_simp;done)|(go_simp;rfl));intro gb256 hg w10 hbox hb;have n0_:=zz00 (zz21 (by repeat (first|(with_reducible first|exact HB.out|apply zz03|apply zz01|apply zz02)|exact HB.out)) hb);have n1_:=zz00 (hbox);have n2_:=zz00 ((by rw [hg];exact (zz22 (by repeat (first|(with_reducible first|exact HB.out|apply zz03|apply zz01|apply zz02)|exact HB.out))) : w.heap.size ≤ gb256));have n3_:=zz00 ((by rw [hg];exact (zz22 (by repeat (first|(with_reducible first|exact HB.out|apply zz03|apply zz01|apply zz02)|exact HB.out))) : w.heap.size ≤ gb256));clear HB;have HB:=n0_;have BK256:=n1_;have GW256:=n2_;have GE256:=n3_;clear n0_ n1_ n2_ n3_;clear hb hbox hg)|((with_reducible refine zz24 (N:=3) rfl ?_);refine zz30 ?hg (N:=3) ?hd (cs:=#[.int .i64 a1_0,.int .i64 a1_1]) (t:=48) ?hr ?_;(case hd=>rfl);(case hg=>rfl);(case hr=>first|(go_simp;done)|(go_simp;rfl));intro gb257 hg w11 hbox hb;have n0_:=zz00 (zz34 (g:=gb256) (o:=.cells #[.int .i64 a0_0,.int .i64 a0_1] 48 (0,0)) (by (with_reducible repeat (first|refine zz07 ?_ _|refine zz09 ?_|refine zz08 ?_ _));exact BK256.out) hb);have n1_:=zz00 (zz21 (by repeat (first|(with_reducible first|exact HB.out|apply zz03|apply zz01|apply zz02|refine zz10 ?_ GE256.out)|exact HB.out)) hb);have n2_:=zz00 (hbox);have n3_:=zz00 ((by rw [hg];exact (zz22 (by repeat (first|(with_reducible first|exact HB.out|apply zz03|apply zz01|apply zz02|refine zz10 ?_ GE256.out)|exact HB.out))) : w.heap.size ≤ gb257));have n4_:=zz00 ((by rw [hg];exact (zz22 (by repeat (first|(with_reducible first|exact HB.out|apply zz03|apply zz01|apply zz02|refine zz10 ?_ GE256.out)|exact HB.out))) : w.heap.size ≤ gb257));have n5_:=zz00 ((by rw [hg];exact Nat.ne_of_lt (blk_lt (g:=gb256) (o:=.cells #[.int .i64 a0_0,.int .i64 a0_1] 48 (0,0)) (by (with_reducible repeat (first|refine zz07 ?_ _|refine zz09 ?_|refine zz08 ?_ _));exact BK256.out)) : gb256 ≠ gb257));have n6_:=zz00 ((by rw [hg];exact Nat.ne_of_gt (blk_lt (g:=gb256) (o:=.cells #[.int .i64 a0_0,.int .i64 a0_1] 48 (0,0)) (by (with_reducible repeat (first|refine zz07 ?_ _|refine zz09 ?_|refine zz08 ?_ _));exact BK256.out)) : gb257 ≠ gb256));clear BK256;clear HB;have BK256:=n0_;have HB:=n1_;have BK257:=n2_;have GW257:=n3_;have GE257:=n4_;have NB256_257:=n5_;have NB257_256:=n6_;clear n0_ n1_ n2_ n3_ n4_ n5_ n6_;clear hb hbox hg;have hnb12:=NB256_257.out;have hnc12:=NB257_256.out;have hcz13_0 : w11.cell? ⟨gb256,0,none⟩ = some (.int .i64 a0_0):=(zz18 BK256.out 0).trans rfl;have hcz13_1 : w11.cell? ⟨gb256,1,none⟩ = some (.int .i64 a0_1):=(zz18 BK256.out 1).trans rfl;have hfz13_0:=zz17 BK256.out 0;have hfz13_1:=zz17 BK256.out 1;have hcz14_0 : w11.cell? ⟨gb257,0,none⟩ = some (.int .i64 a1_0):=(zz18 BK257.out 0).trans rfl;have hcz14_1 : w11.cell? ⟨gb257,1,none⟩ = some (.int .i64 a1_1):=(zz18 BK257.out 1).trans rfl;have hfz14_0:=zz17 BK257.out 0;have hfz14_1:=zz17 BK257.out 1))
   go_ret
   exact ⟨by first|rfl|(simp [errW_none,errW_some] <;> rfl)|(simp [*,errW_none,errW_some] <;> rfl),by repeat (first|(with_reducible first|exact HB.out|apply zz03|apply zz01|apply zz02|refine zz10 ?_ GE256.out|refine zz10 ?_ GE257.out)|exact HB.out)⟩
  ·
   rw [if_neg c9] at H
   have c9b0 : (a0_1 == a1_1) = false := zz27.mpr c9
   have c9b1 : (a0_1 != a1_1) = true := zz28.mpr c9
   obtain rfl := Option.some.inj H
   go_enter Tryd.func69, Tryd.ntmps69
   go_wp2_with (first|((with_reducible refine zz24 (N:=2) rfl ?_);refine zz30 ?hg (N:=2) ?hd (cs:=#[.int .i64 a0_0,.int .i64 a0_1]) (t:=48) ?hr ?_;(case hd=>rfl);(case hg=>rfl);(case hr=>first|(go_simp;done)|(go_simp;rfl));intro gb256 hg w15 hbox hb;have n0_:=zz00 (zz21 (by repeat (first|(with_reducible first|exact HB.out|apply zz03|apply zz01|apply zz02)|exact HB.out)) hb);have n1_:=zz00 (hbox);have n2_:=zz00 ((by rw [hg];exact (zz22 (by repeat (first|(with_reducible first|exact HB.out|apply zz03|apply zz01|apply zz02)|exact HB.out))) : w.heap.size ≤ gb256));have n3_:=zz00 ((by rw [hg];exact (zz22 (by repeat (first|(with_reducible first|exact HB.out|apply zz03|apply zz01|apply zz02)|exact HB.out))) : w.heap.size ≤ gb256));clear HB;have HB:=n0_;have BK256:=n1_;have GW256:=n2_;have GE256:=n3_;clear n0_ n1_ n2_ n3_;clear hb hbox hg)|((with_reducible refine zz24 (N:=3) rfl ?_);refine zz30 ?hg (N:=3) ?hd (cs:=#[.int .i64 a1_0,.int .i64 a1_1]) (t:=48) ?hr ?_;(case hd=>rfl);(case hg=>rfl);(case hr=>first|(go_simp;done)|(go_simp;rfl));intro gb257 hg w16 hbox hb;have n0_:=zz00 (zz34 (g:=gb256) (o:=.cells #[.int .i64 a0_0,.int .i64 a0_1] 48 (0,0)) (by (with_reducible repeat (first|refine zz07 ?_ _|refine zz09 ?_|refine zz08 ?_ _));exact BK256.out) hb);have n1_:=zz00 (zz21 (by repeat (first|(with_reducible first|exact HB.out|apply zz03|apply zz01|apply zz02|refine zz10 ?_ GE256.out)|exact HB.out)) hb);have n2_:=zz00 (hbox);have n3_:=zz00 ((by rw [hg];exact (zz22 (by repeat (first|(with_reducible first|exact HB.out|apply zz03|apply zz01|apply zz02|refine zz10 ?_ GE256.out)|exact HB.out))) : w.heap.size ≤ gb257));have n4_:=zz00 ((by rw [hg];exact (zz22 (by repeat (first|(with_reducible first|exact HB.out|apply zz03|apply zz01|apply zz02|refine zz10 ?_ GE256.out)|exact HB.out))) : w.heap.size ≤ gb257));have n5_:=zz00 ((by rw [hg];exact Nat.ne_of_lt (blk_lt (g:=gb256) (o:=.cells #[.int .i64 a0_0,.int .i64 a0_1] 48 (0,0)) (by (with_reducible repeat (first|refine zz07 ?_ _|refine zz09 ?_|refine zz08 ?_ _));exact BK256.out)) : gb256 ≠ gb257));have n6_:=zz00 ((by rw [hg];exact Nat.ne_of_gt (blk_lt (g:=gb256) (o:=.cells #[.int .i64 a0_0,.int .i64 a0_1] 48 (0,0)) (by (with_reducible repeat (first|refine zz07 ?_ _|refine zz09 ?_|refine zz08 ?_ _));exact BK256.out)) : gb257 ≠ gb256));clear BK256;clear HB;have BK256:=n0_;have HB:=n1_;have BK257:=n2_;have GW257:=n3_;have GE257:=n4_;have NB256_257:=n5_;have NB257_256:=n6_;clear n0_ n1_ n2_ n3_ n4_ n5_ n6_;clear hb hbox hg;have hnb17:=NB256_257.out;have hnc17:=NB257_256.out;have hcz18_0 : w16.cell? ⟨gb256,0,none⟩ = some (.int .i64 a0_0):=(zz18 BK256.out 0).trans rfl;have hcz18_1 : w16.cell? ⟨gb256,1,none⟩ = some (.int .i64 a0_1):=(zz18 BK256.out 1).trans rfl;have hfz18_0:=zz17 BK256.out 0;have hfz18_1:=zz17 BK256.out 1;have hcz19_0 : w16.cell? ⟨gb257,0,none⟩ = some (.int .i64 a1_0):=(zz18 BK257.out 0).trans rfl;have hcz19_1 : w16.cell? ⟨gb257,1,none⟩ = some (.int .i64 a1_1):=(zz18 BK257.out 1).trans rfl;have hfz19_0:=zz17 BK257.out 0;have hfz19_1:=zz17 BK257.out 1))
   go_ret
   exact ⟨by first|rfl|(simp [errW_none,errW_some] <;> rfl)|(simp [*,errW_none,errW_some] <;> rfl),by repeat (first|(with_reducible first|exact HB.out|apply zz03|apply zz01|apply zz02|refine zz10 ?_ GE256.out|refine zz10 ?_ GE257.out)|exact HB.out)⟩

end Go.Proofs.YtflpddhoiafhcaaDoor.T
end
