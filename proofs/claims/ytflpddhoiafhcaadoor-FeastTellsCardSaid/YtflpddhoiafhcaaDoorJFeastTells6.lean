/- Texts of the proof of 'FeastTells', joined by a program (part 6): contracts of functions, plain laws. -/
import Derived.Test.YtflpddhoiafhcaaDoorJFeastTells0
import Derived.Test.YtflpddhoiafhcaaDoorJFeastTells2
import Derived.Test.YtflpddhoiafhcaaDoorJFeastTells5
section
-- Written by wip/hprint.py of this repo (holes typed by hand, all else by a program) over the seat YtflpddhoiafhcaaDoor.
namespace Go.Proofs.YtflpddhoiafhcaaDoor.T
open Go.Proofs.YtflpddhoiafhcaaDoor.H
open Go.RowKit Go.Proofs.YtflpddhoiafhcaaDoorW.PrintWords Go.Proofs.YtflpddhoiafhcaaDoorW.PrintLast Go.Proofs.YtflpddhoiafhcaaDoorW.PrintMore
attribute [local go_sem] max2_int min2_int max_two min_two max_three min_three max_four min_four   -- for this text's walks alone
set_option linter.unusedVariables false
set_option linter.unusedSimpArgs false

def r05_First.f (k : Nat) (a0 : Int) : Option (Int × Int) := (r04_Of.f k a0 1).bind fun bt335 => (if bt335.2.2 = 0 then ((r03_Is.f a0).bind fun t339 => ((r03_Is.f (wrap64 (a0 - 1))).bind fun t340 => ((r05_Delay.f k bt335.1 bt335.2.1 t339 t340).bind fun t341 => (some (wrap64 (bt335.1 + t341), 0))))) else (some (0, bt335.2.2)))
def r05_First.T4 : Bool × List (List Nat × List Nat) := (true, [([], []), ([0], [0]), ([], []), ([], []), ([3], [3]), ([], []), ([5], [5]), ([6, 4], [6]), ([2, 4, 7, 7], [2, 4, 7]), ([1, 8], [1, 8]), ([9, 8, 0, 1, 2, 3, 4, 5, 6, 7, 8, 9], [9]), ([10, 0, 1, 2, 3, 4, 5, 6, 7, 8, 9, 10], [])])
def r05_First.B4 : List Nat := [0, 1, 0, 0, 8, 0, 32, 120, 252, 511, 1023, 2047]
theorem r05_First.tab4 : rtab .any (opsOf Tryd.f34 4) = r05_First.T4 := by kernel_rfl
theorem r05_First.bits4 : waitsOk r05_First.T4.2 r05_First.B4 = true := by kernel_rfl
set_option maxHeartbeats 8000000 in
set_option maxRecDepth 100000 in
theorem r05_First.calls (k : Nat) (a0 : Int) (r1 : Int) (r2 : Int) (w : World) (h : r05_First.f k a0 = some (r1, r2)) :
  Calls Tryd.prog 34 #[.int .i64 a0] w fun e w' => e = .returned (.tuple #[.int .i64 r1, .int .i64 r2]) ∧ Below w.heap.size w w' := by
 have hu86 := Tryd.underlying86
 have HB := zz00 (Below.refl w.heap.size w)
 have H : ((r04_Of.f k a0 1).bind fun bt335=>(if bt335.2.2 = 0 then ((r03_Is.f a0).bind fun t339=>((r03_Is.f (wrap64 (a0 - 1))).bind fun t340=>((r05_Delay.f k bt335.1 bt335.2.1 t339 t340).bind fun t341=>(some (wrap64 (bt335.1 + t341),0))))) else (some (0,bt335.2.2)))) = some (r1,r2):=h
 clear h
 replace H := zz14.mp H
 obtain ⟨⟨t335, t336, t337⟩, A20, H⟩ := H
 replace H : (if t337 = 0 then ((r03_Is.f a0).bind fun t339=>((r03_Is.f (wrap64 (a0 - 1))).bind fun t340=>((r05_Delay.f k t335 t336 t339 t340).bind fun t341=>(some (wrap64 (t335 + t341),0))))) else (some (0,t337))) = some (r1,r2):=H
 have A2 := zz00 A20
 clear A20
 by_cases c3 : t337 = 0
 ·
  rw [if_pos c3] at H
  have c3b0 : (t337 == 0) = true := zz29.mpr c3
  have c3b1 : (t337 != 0) = false := zz26.mpr c3
  clear c3
  replace H := zz14.mp H
  obtain ⟨t339, A40, H⟩ := H
  replace H : ((r03_Is.f (wrap64 (a0 - 1))).bind fun t340 => ((r05_Delay.f k t335 t336 t339 t340).bind fun t341 => (some (wrap64 (t335 + t341), 0)))) = some (r1, r2) := H
  have A4 := zz00 A40
  clear A40
  replace H := zz14.mp H
  obtain ⟨t340, A50, H⟩ := H
  replace H : ((r05_Delay.f k t335 t336 t339 t340).bind fun t341 => (some (wrap64 (t335 + t341), 0))) = some (r1, r2) := H
  have A5 := zz00 A50
  clear A50
  replace H := zz14.mp H
  obtain ⟨t341, A60, H⟩ := H
  replace H : (some (wrap64 (t335 + t341), 0)) = some (r1, r2) := H
  have A6 := zz00 A60
  clear A60
  simp only [zz15, zz16] at H
  obtain ⟨rfl, rfl⟩ := H
  go_enter Tryd.func34, Tryd.ntmps34
  try go_wp2_with (first|((with_reducible refine zz23 (f:=58) rfl ?_);refine zz25 (some 8) rfl rfl Tryd.func58 (by kernel_rfl) rfl #[.int .i64 a0,.int .i64 1] rfl (by (try simp only [List.map_toArray,List.map_cons,List.map_nil]);first|done|rfl|(simp only [List.length_drop,List.length_take];rfl)) ?_;(with_reducible refine (r04_Of.calls k a0 1 t335 t336 t337 _ A2.out).mono ?_);rintro e w7 ⟨rfl,hb⟩;refine ⟨_,rfl,?_⟩;have n0_:=zz00 (zz21 (by repeat (first|(with_reducible first|exact HB.out|apply zz03|apply zz01|apply zz02)|exact HB.out)) hb);clear HB;have HB:=n0_;clear n0_;(try clear hb);(try clear hb2);(try clear hk);(try clear hi))|((with_reducible refine zz24 (N:=4) rfl ?_);refine zz30 ?hg (N:=4) ?hd (cs:=#[.int .i64 0,.int .i64 0]) (t:=86) ?hr ?_;(case hd=>rfl);(case hg=>rfl);(case hr=>first|(go_simp;done)|(go_simp;rfl));intro gb338 hg w8 hbox hb;have n0_:=zz00 (zz21 (by repeat (first|(with_reducible first|exact HB.out|apply zz03|apply zz01|apply zz02)|exact HB.out)) hb);have n1_:=zz00 (hbox);have n2_:=zz00 ((by rw [hg];exact (zz22 (by repeat (first|(with_reducible first|exact HB.out|apply zz03|apply zz01|apply zz02)|exact HB.out))) : w.heap.size ≤ gb338));have n3_:=zz00 ((by rw [hg];exact (zz22 (by repeat (first|(with_reducible first|exact HB.out|apply zz03|apply zz01|apply zz02)|exact HB.out))) : w.heap.size ≤ gb338));clear HB;have HB:=n0_;have BK338:=n1_;have GW338:=n2_;have GE338:=n3_;clear n0_ n1_ n2_ n3_;clear hb hbox hg;have hcz9_0 : w8.cell? ⟨gb338,0,none⟩ = some (.int .i64 0):=(zz18 BK338.out 0).trans rfl;have hcz9_1 : w8.cell? ⟨gb338,1,none⟩ = some (.int .i64 0):=(zz18 BK338.out 1).trans rfl;have hfz9_0:=zz17 BK338.out 0;have hfz9_1:=zz17 BK338.out 1))
  have n0_ : Aside0 (((w8.setCell ⟨gb338,0,none⟩ (.int .i64 t335)).setCell ⟨gb338,1,none⟩ (.int .i64 t336)).heap[gb338]? = some (.cells #[.int .i64 t335,.int .i64 t336] 86 (0,0))):=⟨by (with_reducible repeat (first|refine zz07 ?_ _|refine zz09 ?_|refine zz08 ?_ _));refine zz35 (cs:=#[.int .i64 t335,.int .i64 0]) ?_ 1 _ rfl;(with_reducible repeat (first|refine zz07 ?_ _|refine zz09 ?_|refine zz08 ?_ _));refine zz35 (cs:=#[.int .i64 0,.int .i64 0]) ?_ 0 _ rfl;(with_reducible repeat (first|refine zz07 ?_ _|refine zz09 ?_|refine zz08 ?_ _));exact BK338.out⟩
  have n1_ : Aside0 (Below w.heap.size w ((w8.setCell ⟨gb338,0,none⟩ (.int .i64 t335)).setCell ⟨gb338,1,none⟩ (.int .i64 t336))):=⟨by repeat (first|(with_reducible first|exact HB.out|apply zz03|apply zz01|apply zz02|refine zz10 ?_ GE338.out)|exact HB.out)⟩
  (try clear BK338)
  (try clear HB)
  generalize ((w8.setCell ⟨gb338, 0, none⟩ (.int .i64 t335)).setCell ⟨gb338, 1, none⟩ (.int .i64 t336)) = w10 at n0_ n1_ ⊢
  have BK338 := n0_
  have HB := n1_
  clear n0_ n1_
  have n0_ := zz00 (zz09 BK338.out)
  have n1_ := zz00 (zz02 HB.out)
  clear BK338
  clear HB
  have BK338 := n0_
  have HB := n1_
  clear n0_ n1_
  refine start_ (n:=12) (S:=fun w'=>w'.cell? ⟨gb338,0,none⟩ = some (.int .i64 t335) ∧ w'.cell? ⟨gb338,1,none⟩ = some (.int .i64 t336)) (ds:=[]) #[false,false,false,false,false,false,false,false,false,false,false,false] (by kernel_rfl) rfl rfl ⟨(zz18 BK338.out 0).trans rfl,(zz18 BK338.out 1).trans rfl⟩ (fun hHeld=>?_);refine with_tabW r05_First.tab4 r05_First.bits4 (fun HT_ HW_=>?_)
  generalize w10.drew = w11 at BK338 HB hHeld ⊢
  refine pure_ (i:=0) (N:=some 14) (v:=?_) (a':=?_) #[true,false,false,false,false,false,false,false,false,false,false,false] rfl rfl (any_of HT_.out (by kernel_rfl)) (fun _ _ _ h=>h) (Or.inl ⟨by rfl,?_⟩) ?_ ?_
  rotate_left
  ·
   intro w'
   go_simp
   with_reducible rfl
  rotate_left
  ·
   simp only [Act.put,zz11,zz12,zz13,i64_w,i32_w]
   rfl
  refine pure_ (i:=3) (N:=some 17) (v:=?_) (a':=?_) #[true,false,false,true,false,false,false,false,false,false,false,false] rfl rfl (any_of HT_.out (by kernel_rfl)) (fun _ _ _ h=>h) (Or.inl ⟨by rfl,?_⟩) ?_ ?_
  rotate_left
  ·
   intro w'
   go_simp
   with_reducible rfl
  rotate_left
  ·
   simp only [Act.put,zz11,zz12,zz13,i64_w,i32_w]
   rfl
  refine pure_ (i:=5) (N:=some 19) (v:=?_) (a':=?_) #[true,false,false,true,false,true,false,false,false,false,false,false] rfl rfl (any_of HT_.out (by kernel_rfl)) (fun _ _ _ h=>h) (Or.inl ⟨by rfl,?_⟩) ?_ ?_
  rotate_left
  ·
   intro w'
   go_simp
   with_reducible rfl
  rotate_left
  ·
   simp only [Act.put,zz11,zz12,zz13,i64_w,i32_w]
   rfl
  refine pure_ (i:=6) (N:=some 20) (v:=?_) (a':=?_) #[true,false,false,true,false,true,true,false,false,false,false,false] rfl rfl (any_of HT_.out (by kernel_rfl)) (fun _ _ _ h=>h) (Or.inl ⟨by rfl,?_⟩) ?_ ?_
  rotate_left
  ·
   intro w'
   go_simp
   with_reducible rfl
  rotate_left
  ·
   simp only [Act.put,zz11,zz12,zz13,i64_w,i32_w]
   rfl
  refine take_ (i:=1) (N:=some 15) (v:=?_) (a':=?_) #[true,true,false,true,false,true,true,false,false,false,false,false] rfl rfl (take_ofW HT_.out HW_.out (by kernel_rfl)) (fun _ _ _ h=>h) (Or.inl ⟨by rfl,?_⟩) hHeld ?_ ?_
  rotate_left
  ·
   rintro w' ⟨s0, s1⟩
   go_simp
   with_reducible rfl
  rotate_left
  ·
   simp only [Act.put,zz11,zz12,zz13,i64_w,i32_w]
   rfl
  refine take_ (i:=2) (N:=some 16) (v:=?_) (a':=?_) #[true,true,true,true,false,true,true,false,false,false,false,false] rfl rfl (take_ofW HT_.out HW_.out (by kernel_rfl)) (fun _ _ _ h=>h) (Or.inl ⟨by rfl,?_⟩) hHeld ?_ ?_
  rotate_left
  ·
   rintro w' ⟨s0, s1⟩
   go_simp
   with_reducible rfl
  rotate_left
  ·
   simp only [Act.put,zz11,zz12,zz13,i64_w,i32_w]
   rfl
  refine one_ (i := 4) (N := some 18) #[true, true, true, true, true, true, true, false, false, false, false, false] rfl rfl (one_of HT_.out (by kernel_rfl)) (by decide) (fun K hK => ?_)
  refine goes_ Tryd.func60 (by kernel_rfl) rfl #[.int .i64 a0] (by rfl) rfl rfl (by (try simp only [List.map_toArray,List.map_cons,List.map_nil]);first|done|rfl|(simp only [List.length_drop,List.length_take];rfl)) ?_
  with_reducible refine (r03_Is.calls a0 t339 _ A4.out).mono ?_
  rintro e w' ⟨rfl, ⟨nd, rfl⟩⟩
  refine ⟨_, rfl, ?_⟩
  refine hK.out _ _ ⟨(zz18 BK338.out 0).trans rfl, (zz18 BK338.out 1).trans rfl⟩ (fun hHeld => ?_)
  clear hK K
  refine norm_ (a' := ?_) ?_ ?_
  rotate_left
  ·
   show Act.put _ (some 18) _ = _
   simp only [Act.put,zz11,zz12,zz13,i64_w,i32_w]
   rfl
  refine one_ (i := 7) (N := some 21) #[true, true, true, true, true, true, true, true, false, false, false, false] rfl rfl (one_of HT_.out (by kernel_rfl)) (by decide) (fun K hK => ?_)
  refine goes_ Tryd.func60 (by kernel_rfl) rfl #[.int .i64 (wrap64 (a0 - 1))] (by rfl) rfl rfl (by (try simp only [List.map_toArray,List.map_cons,List.map_nil]);first|done|rfl|(simp only [List.length_drop,List.length_take];rfl)) ?_
  with_reducible refine (r03_Is.calls (wrap64 (a0 - 1)) t340 _ A5.out).mono ?_
  rintro e w' ⟨rfl, ⟨nd, rfl⟩⟩
  refine ⟨_, rfl, ?_⟩
  refine hK.out _ _ ⟨(zz18 BK338.out 0).trans rfl, (zz18 BK338.out 1).trans rfl⟩ (fun hHeld => ?_)
  clear hK K
  refine norm_ (a' := ?_) ?_ ?_
  rotate_left
  ·
   show Act.put _ (some 21) _ = _
   simp only [Act.put,zz11,zz12,zz13,i64_w,i32_w]
   rfl
  refine one_ (i := 8) (N := some 22) #[true, true, true, true, true, true, true, true, true, false, false, false] rfl rfl (one_of HT_.out (by kernel_rfl)) (by decide) (fun K hK => ?_)
  refine goes_ Tryd.func59 (by kernel_rfl) rfl #[.agg #[.int .i64 t335,.int .i64 t336],.bool t339,.bool t340] (by rfl) rfl rfl (by (try simp only [List.map_toArray,List.map_cons,List.map_nil]);first|done|rfl|(simp only [List.length_drop,List.length_take];rfl)) ?_
  with_reducible refine (r05_Delay.calls k t335 t336 t339 t340 t341 _ A6.out).mono ?_
  rintro e w12 ⟨rfl, hb⟩
  refine ⟨_, rfl, ?_⟩
  have n0_:=zz00 (zz34 (g:=gb338) (o:=.cells #[.int .i64 t335,.int .i64 t336] 86 (0,0)) (by (with_reducible repeat (first|refine zz07 ?_ _|refine zz09 ?_|refine zz08 ?_ _));exact BK338.out) hb)
  have n1_:=zz00 (zz21 (by repeat (first|(with_reducible first|exact HB.out|apply zz03|apply zz01|apply zz02|refine zz10 ?_ GE338.out)|exact HB.out)) hb)
  clear BK338
  clear HB
  have BK338 := n0_
  have HB := n1_
  clear n0_ n1_
  (try clear hb)
  (try clear hb2)
  (try clear hk)
  (try clear hi)
  refine hK.out _ _ ⟨(zz18 BK338.out 0).trans rfl, (zz18 BK338.out 1).trans rfl⟩ (fun hHeld => ?_)
  clear hK K
  refine norm_ (a' := ?_) ?_ ?_
  rotate_left
  ·
   show Act.put _ (some 22) _ = _
   simp only [Act.put,zz11,zz12,zz13,i64_w,i32_w]
   rfl
  refine pure_ (i:=9) (N:=some 23) (v:=?_) (a':=?_) #[true,true,true,true,true,true,true,true,true,true,false,false] rfl rfl (any_of HT_.out (by kernel_rfl)) (fun _ _ _ h=>h) (Or.inl ⟨by rfl,?_⟩) ?_ ?_
  rotate_left
  ·
   intro w'
   go_simp
   with_reducible rfl
  rotate_left
  ·
   simp only [Act.put,zz11,zz12,zz13,i64_w,i32_w]
   rfl
  refine pure_ (i:=10) (N:=some 2) (v:=?_) (a':=?_) #[true,true,true,true,true,true,true,true,true,true,true,false] rfl rfl (any_of HT_.out (by kernel_rfl)) (fun _ _ _ h=>h) (Or.inl ⟨by rfl,?_⟩) ?_ ?_
  rotate_left
  ·
   intro w'
   go_simp
   with_reducible rfl
  rotate_left
  ·
   simp only [Act.put,zz11,zz12,zz13,i64_w,i32_w]
   rfl
  refine pure_ (i:=11) (N:=some 3) (v:=?_) (a':=?_) #[true,true,true,true,true,true,true,true,true,true,true,true] rfl rfl (any_of HT_.out (by kernel_rfl)) (fun _ _ _ h=>h) (Or.inl ⟨by rfl,?_⟩) ?_ ?_
  rotate_left
  ·
   intro w'
   go_simp
   with_reducible rfl
  rotate_left
  ·
   simp only [Act.put,zz11,zz12,zz13,i64_w,i32_w]
   rfl
  refine done_ (done_of HT_.out (by kernel_rfl)) ?_
  try go_wp2
  go_ret2
  exact ⟨by first|rfl|(simp [errW_none,errW_some] <;> rfl)|(simp [*,errW_none,errW_some] <;> rfl),by repeat (first|(with_reducible first|exact HB.out|apply zz03|apply zz01|apply zz02|refine zz10 ?_ GE338.out)|exact HB.out)⟩
 ·
  rw [if_neg c3] at H
  have c3b0 : (t337 == 0) = false := zz27.mpr c3
  have c3b1 : (t337 != 0) = true := zz28.mpr c3
  simp only [zz15, zz16] at H
  obtain ⟨rfl, rfl⟩ := H
  go_enter Tryd.func34, Tryd.ntmps34
  go_wp2_with (first|((with_reducible refine zz23 (f:=58) rfl ?_);refine zz25 (some 8) rfl rfl Tryd.func58 (by kernel_rfl) rfl #[.int .i64 a0,.int .i64 1] rfl (by (try simp only [List.map_toArray,List.map_cons,List.map_nil]);first|done|rfl|(simp only [List.length_drop,List.length_take];rfl)) ?_;(with_reducible refine (r04_Of.calls k a0 1 t335 t336 t337 _ A2.out).mono ?_);rintro e w13 ⟨rfl,hb⟩;refine ⟨_,rfl,?_⟩;have n0_:=zz00 (zz21 (by repeat (first|(with_reducible first|exact HB.out|apply zz03|apply zz01|apply zz02)|exact HB.out)) hb);clear HB;have HB:=n0_;clear n0_;(try clear hb);(try clear hb2);(try clear hk);(try clear hi))|((with_reducible refine zz24 (N:=4) rfl ?_);refine zz30 ?hg (N:=4) ?hd (cs:=#[.int .i64 0,.int .i64 0]) (t:=86) ?hr ?_;(case hd=>rfl);(case hg=>rfl);(case hr=>first|(go_simp;done)|(go_simp;rfl));intro gb338 hg w14 hbox hb;have n0_:=zz00 (zz21 (by repeat (first|(with_reducible first|exact HB.out|apply zz03|apply zz01|apply zz02)|exact HB.out)) hb);have n1_:=zz00 (hbox);have n2_:=zz00 ((by rw [hg];exact (zz22 (by repeat (first|(with_reducible first|exact HB.out|apply zz03|apply zz01|apply zz02)|exact HB.out))) : w.heap.size ≤ gb338));have n3_:=zz00 ((by rw [hg];exact (zz22 (by repeat (first|(with_reducible first|exact HB.out|apply zz03|apply zz01|apply zz02)|exact HB.out))) : w.heap.size ≤ gb338));clear HB;have HB:=n0_;have BK338:=n1_;have GW338:=n2_;have GE338:=n3_;clear n0_ n1_ n2_ n3_;clear hb hbox hg;have hcz15_0 : w14.cell? ⟨gb338,0,none⟩ = some (.int .i64 0):=(zz18 BK338.out 0).trans rfl;have hcz15_1 : w14.cell? ⟨gb338,1,none⟩ = some (.int .i64 0):=(zz18 BK338.out 1).trans rfl;have hfz15_0:=zz17 BK338.out 0;have hfz15_1:=zz17 BK338.out 1))
  go_ret2
  exact ⟨by first|rfl|(simp [errW_none,errW_some] <;> rfl)|(simp [*,errW_none,errW_some] <;> rfl),by repeat (first|(with_reducible first|exact HB.out|apply zz03|apply zz01|apply zz02|refine zz10 ?_ GE338.out)|exact HB.out)⟩

def r07_Long.f (k : Nat) (a0 : Int) : Option (Int × Int) := (r07_Right.f a0).bind fun t342 => (if t342 = true then ((r05_First.f k a0).bind fun bt343 => ((r05_First.f k (wrap64 (a0 + 1))).bind fun bt345 => (some (wrap64 (bt345.1 - bt343.1), 0)))) else (some (0, 2)))
set_option maxHeartbeats 8000000 in
set_option maxRecDepth 100000 in
theorem r07_Long.calls (k : Nat) (a0 : Int) (r1 : Int) (r2 : Int) (w : World) (h : r07_Long.f k a0 = some (r1, r2)) :
  Calls Tryd.prog 164 #[.int .i64 a0] w fun e w' => e = .returned (.tuple #[.int .i64 r1, .int .i64 r2]) ∧ Below w.heap.size w w' := by
 have HB := zz00 (Below.refl w.heap.size w)
 have H : ((r07_Right.f a0).bind fun t342=>(if t342 = true then ((r05_First.f k a0).bind fun bt343=>((r05_First.f k (wrap64 (a0 + 1))).bind fun bt345=>(some (wrap64 (bt345.1 - bt343.1),0)))) else (some (0,2)))) = some (r1,r2):=h
 clear h
 replace H := zz14.mp H
 obtain ⟨t342, A20, H⟩ := H
 replace H : (if t342 = true then ((r05_First.f k a0).bind fun bt343=>((r05_First.f k (wrap64 (a0 + 1))).bind fun bt345=>(some (wrap64 (bt345.1 - bt343.1),0)))) else (some (0,2))) = some (r1,r2):=H
 have A2 := zz00 A20
 clear A20
 by_cases c3 : t342 = true
 ·
  subst c3
  have H1 : ((r05_First.f k a0).bind fun bt343=>((r05_First.f k (wrap64 (a0 + 1))).bind fun bt345=>(some (wrap64 (bt345.1 - bt343.1),0)))) = some (r1,r2):=by rw [if_pos rfl] at H;exact H
  clear H
  have H := H1
  clear H1
  replace H := zz14.mp H
  obtain ⟨⟨t343, t344⟩, A40, H⟩ := H
  replace H : ((r05_First.f k (wrap64 (a0 + 1))).bind fun bt345 => (some (wrap64 (bt345.1 - t343), 0))) = some (r1, r2) := H
  have A4 := zz00 A40
  clear A40
  replace H := zz14.mp H
  obtain ⟨⟨t345, t346⟩, A50, H⟩ := H
  replace H : (some (wrap64 (t345 - t343), 0)) = some (r1, r2) := H
  have A5 := zz00 A50
  clear A50
  simp only [zz15, zz16] at H
  obtain ⟨rfl, rfl⟩ := H
  go_enter Tryd.func164, Tryd.ntmps164
  go_wp2_with (first|((with_reducible refine zz23 (f:=54) rfl ?_);refine zz25 (some 9) rfl rfl Tryd.func54 (by kernel_rfl) rfl #[.int .i64 a0] rfl (by (try simp only [List.map_toArray,List.map_cons,List.map_nil]);first|done|rfl|(simp only [List.length_drop,List.length_take];rfl)) ?_;(with_reducible refine (r07_Right.calls a0 true _ A2.out).mono ?_);rintro e w' ⟨rfl,⟨nd,rfl⟩⟩;refine ⟨_,rfl,?_⟩)|((with_reducible refine zz23 (f:=34) rfl ?_);refine zz25 (some 13) rfl rfl Tryd.func34 (by kernel_rfl) rfl #[.int .i64 a0] rfl (by (try simp only [List.map_toArray,List.map_cons,List.map_nil]);first|done|rfl|(simp only [List.length_drop,List.length_take];rfl)) ?_;(with_reducible refine (r05_First.calls k a0 t343 t344 _ A4.out).mono ?_);rintro e w6 ⟨rfl,hb⟩;refine ⟨_,rfl,?_⟩;have n0_:=zz00 (zz21 (by repeat (first|(with_reducible first|exact HB.out|apply zz03|apply zz01|apply zz02)|exact HB.out)) hb);clear HB;have HB:=n0_;clear n0_;(try clear hb);(try clear hb2);(try clear hk);(try clear hi))|((with_reducible refine zz23 (f:=34) rfl ?_);refine zz25 (some 19) rfl rfl Tryd.func34 (by kernel_rfl) rfl #[.int .i64 (wrap64 (a0 + 1))] rfl (by (try simp only [List.map_toArray,List.map_cons,List.map_nil]);first|done|rfl|(simp only [List.length_drop,List.length_take];rfl)) ?_;(with_reducible refine (r05_First.calls k (wrap64 (a0 + 1)) t345 t346 _ A5.out).mono ?_);rintro e w7 ⟨rfl,hb⟩;refine ⟨_,rfl,?_⟩;have n0_:=zz00 (zz21 (by repeat (first|(with_reducible first|exact HB.out|apply zz03|apply zz01|apply zz02)|exact HB.out)) hb);clear HB;have HB:=n0_;clear n0_;(try clear hb);(try clear hb2);(try clear hk);(try clear hi)))
  go_ret2
  exact ⟨by first|rfl|(simp [errW_none,errW_some] <;> rfl)|(simp [*,errW_none,errW_some] <;> rfl),by repeat (first|(with_reducible first|exact HB.out|apply zz03|apply zz01|apply zz02)|exact HB.out)⟩
 ·
  replace c3 := zz32.mpr c3
  subst c3
  have H1 : (some (0, 2)) = some (r1, r2) := by rw [if_neg (show ¬ (false = true) by decide)] at H; exact H
  clear H
  have H := H1
  clear H1
  simp only [zz15, zz16] at H
  obtain ⟨rfl, rfl⟩ := H
  go_enter Tryd.func164, Tryd.ntmps164
  go_wp2_with (first|((with_reducible refine zz23 (f:=54) rfl ?_);refine zz25 (some 9) rfl rfl Tryd.func54 (by kernel_rfl) rfl #[.int .i64 a0] rfl (by (try simp only [List.map_toArray,List.map_cons,List.map_nil]);first|done|rfl|(simp only [List.length_drop,List.length_take];rfl)) ?_;(with_reducible refine (r07_Right.calls a0 false _ A2.out).mono ?_);rintro e w' ⟨rfl,⟨nd,rfl⟩⟩;refine ⟨_,rfl,?_⟩))
  go_ret2
  exact ⟨by first|rfl|(simp [errW_none,errW_some] <;> rfl)|(simp [*,errW_none,errW_some] <;> rfl),by repeat (first|(with_reducible first|exact HB.out|apply zz03|apply zz01|apply zz02)|exact HB.out)⟩

def r07_Of.f (k : Nat) (a0 : Int) : Option (Int × Int × Bool × Int) := (r07_Long.f k a0).bind fun bt348 => (if bt348.2 = 0 then ((r05_First.f k a0).bind fun bt350 => ((r04_Weekday.f bt350.1).bind fun t352 => ((r03_Is.f a0).bind fun t353 => (if t353 = true then (some (t352, wrap64 (bt348.1 - 383), t353, 0)) else (some (t352, wrap64 (bt348.1 - 353), t353, 0)))))) else (some (0, 0, false, bt348.2)))
theorem setCell_mid (w : World) (b : Nat) (x u y : Value) : ((w.setCell ⟨b, 1, none⟩ x).setCell ⟨b, 2, none⟩ u).setCell ⟨b, 1, none⟩ y = (w.setCell ⟨b, 1, none⟩ y).setCell ⟨b, 2, none⟩ u := by
  unfold World.setCell
  congr 1
  apply Array.ext_getElem?
  intro i
  simp only [Array.getElem?_modify]
  by_cases h : b = i
  · simp only [h, if_true]
    cases w.heap[i]? with
    | none => rfl
    | some o =>
      cases o with
      | cells c e f => simp [Array.setIfInBounds_comm]
      | _ => rfl
  · simp [h]
attribute [local go_sem] setCell_mid
set_option maxHeartbeats 8000000 in
set_option maxRecDepth 100000 in
theorem r07_Of.calls (k : Nat) (a0 : Int) (r1 : Int) (r2 : Int) (r3 : Bool) (r4 : Int) (w : World) (h : r07_Of.f k a0 = some (r1, r2, r3, r4)) :
  Calls Tryd.prog 127 #[.int .i64 a0] w fun e w' => e = .returned (.tuple #[.agg #[.int .i64 r1, .int .i64 r2, .bool r3], .int .i64 r4]) ∧ Below w.heap.size w w' := by
 have hu111 := Tryd.underlying111
 have HB := zz00 (Below.refl w.heap.size w)
 have H : ((r07_Long.f k a0).bind fun bt348=>(if bt348.2 = 0 then ((r05_First.f k a0).bind fun bt350=>((r04_Weekday.f bt350.1).bind fun t352=>((r03_Is.f a0).bind fun t353=>(if t353 = true then (some (t352,wrap64 (bt348.1 - 383),t353,0)) else (some (t352,wrap64 (bt348.1 - 353),t353,0)))))) else (some (0,0,false,bt348.2)))) = some (r1,r2,r3,r4):=h
 clear h
 replace H := zz14.mp H
 obtain ⟨⟨t348, t349⟩, A20, H⟩ := H
 replace H : (if t349 = 0 then ((r05_First.f k a0).bind fun bt350=>((r04_Weekday.f bt350.1).bind fun t352=>((r03_Is.f a0).bind fun t353=>(if t353 = true then (some (t352,wrap64 (t348 - 383),t353,0)) else (some (t352,wrap64 (t348 - 353),t353,0)))))) else (some (0,0,false,t349))) = some (r1,r2,r3,r4):=H
 have A2 := zz00 A20
 clear A20
 by_cases c3 : t349 = 0
 ·
  rw [if_pos c3] at H
  have c3b0 : (t349 == 0) = true := zz29.mpr c3
  have c3b1 : (t349 != 0) = false := zz26.mpr c3
  clear c3
  replace H := zz14.mp H
  obtain ⟨⟨t350, t351⟩, A40, H⟩ := H
  replace H : ((r04_Weekday.f t350).bind fun t352=>((r03_Is.f a0).bind fun t353=>(if t353 = true then (some (t352,wrap64 (t348 - 383),t353,0)) else (some (t352,wrap64 (t348 - 353),t353,0))))) = some (r1,r2,r3,r4):=H
  have A4 := zz00 A40
  clear A40
  replace H := zz14.mp H
  obtain ⟨t352, A50, H⟩ := H
  replace H : ((r03_Is.f a0).bind fun t353=>(if t353 = true then (some (t352,wrap64 (t348 - 383),t353,0)) else (some (t352,wrap64 (t348 - 353),t353,0)))) = some (r1,r2,r3,r4):=H
  have A5 := zz00 A50
  clear A50
  replace H := zz14.mp H
  obtain ⟨t353, A60, H⟩ := H
  replace H : (if t353 = true then (some (t352, wrap64 (t348 - 383), t353, 0)) else (some (t352, wrap64 (t348 - 353), t353, 0))) = some (r1, r2, r3, r4) := H
  have A6 := zz00 A60
  clear A60
  by_cases c7 : t353 = true
  ·
   subst c7
   have H1 : (some (t352, wrap64 (t348 - 383), true, 0)) = some (r1, r2, r3, r4) := by rw [if_pos rfl] at H; exact H
   clear H
   have H := H1
   clear H1
   simp only [zz15, zz16] at H
   obtain ⟨rfl, rfl, rfl, rfl⟩ := H
   go_enter Tryd.func127, Tryd.ntmps127
   go_wp2_with (first|((with_reducible refine zz24 (N:=2) rfl ?_);refine zz30 ?hg (N:=2) ?hd (cs:=#[.int .i64 0,.int .i64 0,.bool false]) (t:=111) ?hr ?_;(case hd=>rfl);(case hg=>rfl);(case hr=>first|(go_simp;done)|(go_simp;rfl));intro gb347 hg w8 hbox hb;have n0_:=zz00 (zz21 (by repeat (first|(with_reducible first|exact HB.out|apply zz03|apply zz01|apply zz02)|exact HB.out)) hb);have n1_:=zz00 (hbox);have n2_:=zz00 ((by rw [hg];exact (zz22 (by repeat (first|(with_reducible first|exact HB.out|apply zz03|apply zz01|apply zz02)|exact HB.out))) : w.heap.size ≤ gb347));have n3_:=zz00 ((by rw [hg];exact (zz22 (by repeat (first|(with_reducible first|exact HB.out|apply zz03|apply zz01|apply zz02)|exact HB.out))) : w.heap.size ≤ gb347));clear HB;have HB:=n0_;have BK347:=n1_;have GW347:=n2_;have GE347:=n3_;clear n0_ n1_ n2_ n3_;clear hb hbox hg)|((with_reducible refine zz23 (f:=164) rfl ?_);refine zz25 (some 11) rfl rfl Tryd.func164 (by kernel_rfl) rfl #[.int .i64 a0] rfl (by (try simp only [List.map_toArray,List.map_cons,List.map_nil]);first|done|rfl|(simp only [List.length_drop,List.length_take];rfl)) ?_;(with_reducible refine (r07_Long.calls k a0 t348 t349 _ A2.out).mono ?_);rintro e w9 ⟨rfl,hb⟩;refine ⟨_,rfl,?_⟩;have n0_:=zz00 (zz34 (g:=gb347) (o:=.cells #[.int .i64 0,.int .i64 0,.bool false] 111 (0,0)) (by (with_reducible repeat (first|refine zz07 ?_ _|refine zz09 ?_|refine zz08 ?_ _));exact BK347.out) hb);have n1_:=zz00 (zz21 (by repeat (first|(with_reducible first|exact HB.out|apply zz03|apply zz01|apply zz02|refine zz10 ?_ GE347.out)|exact HB.out)) hb);clear BK347;clear HB;have BK347:=n0_;have HB:=n1_;clear n0_ n1_;(try clear hb);(try clear hb2);(try clear hk);(try clear hi))|((with_reducible refine zz23 (f:=34) rfl ?_);refine zz25 (some 20) rfl rfl Tryd.func34 (by kernel_rfl) rfl #[.int .i64 a0] rfl (by (try simp only [List.map_toArray,List.map_cons,List.map_nil]);first|done|rfl|(simp only [List.length_drop,List.length_take];rfl)) ?_;(with_reducible refine (r05_First.calls k a0 t350 t351 _ A4.out).mono ?_);rintro e w10 ⟨rfl,hb⟩;refine ⟨_,rfl,?_⟩;have n0_:=zz00 (zz34 (g:=gb347) (o:=.cells #[.int .i64 0,.int .i64 0,.bool false] 111 (0,0)) (by (with_reducible repeat (first|refine zz07 ?_ _|refine zz09 ?_|refine zz08 ?_ _));exact BK347.out) hb);have n1_:=zz00 (zz21 (by repeat (first|(with_reducible first|exact HB.out|apply zz03|apply zz01|apply zz02|refine zz10 ?_ GE347.out)|exact HB.out)) hb);clear BK347;clear HB;have BK347:=n0_;have HB:=n1_;clear n0_ n1_;(try clear hb);(try clear hb2);(try clear hk);(try clear hi))|((with_reducible refine zz23 (f:=32) rfl ?_);refine zz25 (some 24) rfl rfl Tryd.func32 (by kernel_rfl) rfl #[.int .i64 t350] rfl (by (try simp only [List.map_toArray,List.map_cons,List.map_nil]);first|done|rfl|(simp only [List.length_drop,List.length_take];rfl)) ?_;(with_reducible refine (r04_Weekday.calls t350 t352 _ A5.out).mono ?_);rintro e w' ⟨rfl,⟨nd,rfl⟩⟩;refine ⟨_,rfl,?_⟩;(try (rw [drewN_self w10];generalize hq_ : World.drewN w10 _ = w10;have n0_ : Aside0 (w10.heap[gb347]? = some (.cells #[.int .i64 0,.int .i64 0,.bool false] 111 (0,0))):=⟨by rw [← hq_];exact (by (with_reducible repeat (first|refine zz07 ?_ _|refine zz09 ?_|refine zz08 ?_ _));exact BK347.out)⟩;have n1_ : Aside0 (Below w.heap.size w w10):=⟨by rw [← hq_];exact (by repeat (first|(with_reducible first|exact HB.out|apply zz03|apply zz01|apply zz02|refine zz10 ?_ GE347.out)|exact HB.out))⟩;clear BK347 HB hq_;have BK347:=n0_;have HB:=n1_;clear n0_ n1_)))|((with_reducible refine zz23 (f:=60) rfl ?_);refine zz25 (some 28) rfl rfl Tryd.func60 (by kernel_rfl) rfl #[.int .i64 a0] rfl (by (try simp only [List.map_toArray,List.map_cons,List.map_nil]);first|done|rfl|(simp only [List.length_drop,List.length_take];rfl)) ?_;(with_reducible refine (r03_Is.calls a0 true _ A6.out).mono ?_);rintro e w' ⟨rfl,⟨nd,rfl⟩⟩;refine ⟨_,rfl,?_⟩;(try (rw [drewN_self w10];generalize hq_ : World.drewN w10 _ = w10;have n0_ : Aside0 (w10.heap[gb347]? = some (.cells #[.int .i64 0,.int .i64 0,.bool false] 111 (0,0))):=⟨by rw [← hq_];exact (by (with_reducible repeat (first|refine zz07 ?_ _|refine zz09 ?_|refine zz08 ?_ _));exact BK347.out)⟩;have n1_ : Aside0 (Below w.heap.size w w10):=⟨by rw [← hq_];exact (by repeat (first|(with_reducible first|exact HB.out|apply zz03|apply zz01|apply zz02|refine zz10 ?_ GE347.out)|exact HB.out))⟩;clear BK347 HB hq_;have BK347:=n0_;have HB:=n1_;clear n0_ n1_)))|((with_reducible refine zz24 (N:=8) rfl ?_);refine zz30 ?hg (N:=8) ?hd (cs:=#[.int .i64 0,.int .i64 0,.bool false]) (t:=111) ?hr ?_;(case hd=>rfl);(case hg=>rfl);(case hr=>first|(go_simp;done)|(go_simp;rfl));intro gb354 hg w11 hbox hb;have n0_:=zz00 (zz34 (g:=gb347) (o:=.cells #[.int .i64 0,.int .i64 0,.bool false] 111 (0,0)) (by (with_reducible repeat (first|refine zz07 ?_ _|refine zz09 ?_|refine zz08 ?_ _));exact BK347.out) hb);have n1_:=zz00 (zz21 (by repeat (first|(with_reducible first|exact HB.out|apply zz03|apply zz01|apply zz02|refine zz10 ?_ GE347.out)|exact HB.out)) hb);have n2_:=zz00 (hbox);have n3_:=zz00 ((by rw [hg];exact (zz22 (by repeat (first|(with_reducible first|exact HB.out|apply zz03|apply zz01|apply zz02|refine zz10 ?_ GE347.out)|exact HB.out))) : w.heap.size ≤ gb354));have n4_:=zz00 ((by rw [hg];exact (zz22 (by repeat (first|(with_reducible first|exact HB.out|apply zz03|apply zz01|apply zz02|refine zz10 ?_ GE347.out)|exact HB.out))) : w.heap.size ≤ gb354));have n5_:=zz00 ((by rw [hg];exact Nat.ne_of_lt (blk_lt (g:=gb347) (o:=.cells #[.int .i64 0,.int .i64 0,.bool false] 111 (0,0)) (by (with_reducible repeat (first|refine zz07 ?_ _|refine zz09 ?_|refine zz08 ?_ _));exact BK347.out)) : gb347 ≠ gb354));have n6_:=zz00 ((by rw [hg];exact Nat.ne_of_gt (blk_lt (g:=gb347) (o:=.cells #[.int .i64 0,.int .i64 0,.bool false] 111 (0,0)) (by (with_reducible repeat (first|refine zz07 ?_ _|refine zz09 ?_|refine zz08 ?_ _));exact BK347.out)) : gb354 ≠ gb347));clear BK347;clear HB;have BK347:=n0_;have HB:=n1_;have BK354:=n2_;have GW354:=n3_;have GE354:=n4_;have NB347_354:=n5_;have NB354_347:=n6_;clear n0_ n1_ n2_ n3_ n4_ n5_ n6_;clear hb hbox hg;have hnb12:=NB354_347.out;have hnc12:=NB347_354.out;have hcz13_0 : w11.cell? ⟨gb354,0,none⟩ = some (.int .i64 0):=(zz18 BK354.out 0).trans rfl;have hcz13_1 : w11.cell? ⟨gb354,1,none⟩ = some (.int .i64 0):=(zz18 BK354.out 1).trans rfl;have hcz13_2 : w11.cell? ⟨gb354,2,none⟩ = some (.bool false):=(zz18 BK354.out 2).trans rfl;have hfz13_0:=zz17 BK354.out 0;have hfz13_1:=zz17 BK354.out 1;have hfz13_2:=zz17 BK354.out 2;have hcz14_0 : w11.cell? ⟨gb347,0,none⟩ = some (.int .i64 0):=(zz18 BK347.out 0).trans rfl;have hcz14_1 : w11.cell? ⟨gb347,1,none⟩ = some (.int .i64 0):=(zz18 BK347.out 1).trans rfl;have hcz14_2 : w11.cell? ⟨gb347,2,none⟩ = some (.bool false):=(zz18 BK347.out 2).trans rfl;have hfz14_0:=zz17 BK347.out 0;have hfz14_1:=zz17 BK347.out 1;have hfz14_2:=zz17 BK347.out 2))
   refine bodyPost_ret (results_ct rfl _ _ gb347 111 #[.int .i64 t352,.int .i64 (wrap64 (t348 - 383)),.bool true] (0,0) _ rfl (by (with_reducible repeat (first|refine zz07 ?_ _|refine zz09 ?_|refine zz08 ?_ _));refine zz35 (cs:=#[.int .i64 t352,.int .i64 (wrap64 (t348 - 383)),.bool false]) ?_ 2 _ rfl;(with_reducible repeat (first|refine zz07 ?_ _|refine zz09 ?_|refine zz08 ?_ _));refine zz35 (cs:=#[.int .i64 t352,.int .i64 0,.bool false]) ?_ 1 _ rfl;(with_reducible repeat (first|refine zz07 ?_ _|refine zz09 ?_|refine zz08 ?_ _));refine zz35 (cs:=#[.int .i64 0,.int .i64 0,.bool false]) ?_ 0 _ rfl;(with_reducible repeat (first|refine zz07 ?_ _|refine zz09 ?_|refine zz08 ?_ _));refine zz33 ?_ NB347_354.out _;(with_reducible repeat (first|refine zz07 ?_ _|refine zz09 ?_|refine zz08 ?_ _));refine zz33 ?_ NB347_354.out _;(with_reducible repeat (first|refine zz07 ?_ _|refine zz09 ?_|refine zz08 ?_ _));refine zz33 ?_ NB347_354.out _;(with_reducible repeat (first|refine zz07 ?_ _|refine zz09 ?_|refine zz08 ?_ _));exact BK347.out) Tryd.underlying111 rfl (by kernel_rfl)) rfl ?_
   exact ⟨by first|rfl|(simp [errW_none,errW_some] <;> rfl)|(simp [*,errW_none,errW_some] <;> rfl),by repeat (first|(with_reducible first|exact HB.out|apply zz03|apply zz01|apply zz02|refine zz10 ?_ GE347.out|refine zz10 ?_ GE354.out)|exact HB.out)⟩
  ·
   replace c7 := zz32.mpr c7
   subst c7
   have H1 : (some (t352, wrap64 (t348 - 353), false, 0)) = some (r1, r2, r3, r4) := by rw [if_neg (show ¬ (false = true) by decide)] at H; exact H
   clear H
   have H := H1
   clear H1
   simp only [zz15, zz16] at H
   obtain ⟨rfl, rfl, rfl, rfl⟩ := H
   go_enter Tryd.func127, Tryd.ntmps127
   go_wp2_with (first|((with_reducible refine zz24 (N:=2) rfl ?_);refine zz30 ?hg (N:=2) ?hd (cs:=#[.int .i64 0,.int .i64 0,.bool false]) (t:=111) ?hr ?_;(case hd=>rfl);(case hg=>rfl);(case hr=>first|(go_simp;done)|(go_simp;rfl));intro gb347 hg w15 hbox hb;have n0_:=zz00 (zz21 (by repeat (first|(with_reducible first|exact HB.out|apply zz03|apply zz01|apply zz02)|exact HB.out)) hb);have n1_:=zz00 (hbox);have n2_:=zz00 ((by rw [hg];exact (zz22 (by repeat (first|(with_reducible first|exact HB.out|apply zz03|apply zz01|apply zz02)|exact HB.out))) : w.heap.size ≤ gb347));have n3_:=zz00 ((by rw [hg];exact (zz22 (by repeat (first|(with_reducible first|exact HB.out|apply zz03|apply zz01|apply zz02)|exact HB.out))) : w.heap.size ≤ gb347));clear HB;have HB:=n0_;have BK347:=n1_;have GW347:=n2_;have GE347:=n3_;clear n0_ n1_ n2_ n3_;clear hb hbox hg)|((with_reducible refine zz23 (f:=164) rfl ?_);refine zz25 (some 11) rfl rfl Tryd.func164 (by kernel_rfl) rfl #[.int .i64 a0] rfl (by (try simp only [List.map_toArray,List.map_cons,List.map_nil]);first|done|rfl|(simp only [List.length_drop,List.length_take];rfl)) ?_;(with_reducible refine (r07_Long.calls k a0 t348 t349 _ A2.out).mono ?_);rintro e w16 ⟨rfl,hb⟩;refine ⟨_,rfl,?_⟩;have n0_:=zz00 (zz34 (g:=gb347) (o:=.cells #[.int .i64 0,.int .i64 0,.bool false] 111 (0,0)) (by (with_reducible repeat (first|refine zz07 ?_ _|refine zz09 ?_|refine zz08 ?_ _));exact BK347.out) hb);have n1_:=zz00 (zz21 (by repeat (first|(with_reducible first|exact HB.out|apply zz03|apply zz01|apply zz02|refine zz10 ?_ GE347.out)|exact HB.out)) hb);clear BK347;clear HB;have BK347:=n0_;have HB:=n1_;clear n0_ n1_;(try clear hb);(try clear hb2);(try clear hk);(try clear hi))|((with_reducible refine zz23 (f:=34) rfl ?_);refine zz25 (some 20) rfl rfl Tryd.func34 (by kernel_rfl) rfl #[.int .i64 a0] rfl (by (try simp only [List.map_toArray,List.map_cons,List.map_nil]);first|done|rfl|(simp only [List.length_drop,List.length_take];rfl)) ?_;(with_reducible refine (r05_First.calls k a0 t350 t351 _ A4.out).mono ?_);rintro e w17 ⟨rfl,hb⟩;refine ⟨_,rfl,?_⟩;have n0_:=zz00 (zz34 (g:=gb347) (o:=.cells #[.int .i64 0,.int .i64 0,.bool false] 111 (0,0)) (by (with_reducible repeat (first|refine zz07 ?_ _|refine zz09 ?_|refine zz08 ?_ _));exact BK347.out) hb);have n1_:=zz00 (zz21 (by repeat (first|(with_reducible first|exact HB.out|apply zz03|apply zz01|apply zz02|refine zz10 ?_ GE347.out)|exact HB.out)) hb);clear BK347;clear HB;have BK347:=n0_;have HB:=n1_;clear n0_ n1_;(try clear hb);(try clear hb2);(try clear hk);(try clear hi))|((with_reducible refine zz23 (f:=32) rfl ?_);refine zz25 (some 24) rfl rfl Tryd.func32 (by kernel_rfl) rfl #[.int .i64 t350] rfl (by (try simp only [List.map_toArray,List.map_cons,List.map_nil]);first|done|rfl|(simp only [List.length_drop,List.length_take];rfl)) ?_;(with_reducible refine (r04_Weekday.calls t350 t352 _ A5.out).mono ?_);rintro e w' ⟨rfl,⟨nd,rfl⟩⟩;refine ⟨_,rfl,?_⟩;(try (rw [drewN_self w17];generalize hq_ : World.drewN w17 _ = w17;have n0_ : Aside0 (w17.heap[gb347]? = some (.cells #[.int .i64 0,.int .i64 0,.bool false] 111 (0,0))):=⟨by rw [← hq_];exact (by (with_reducible repeat (first|refine zz07 ?_ _|refine zz09 ?_|refine zz08 ?_ _));exact BK347.out)⟩;have n1_ : Aside0 (Below w.heap.size w w17):=⟨by rw [← hq_];exact (by repeat (first|(with_reducible first|exact HB.out|apply zz03|apply zz01|apply zz02|refine zz10 ?_ GE347.out)|exact HB.out))⟩;clear BK347 HB hq_;have BK347:=n0_;have HB:=n1_;clear n0_ n1_)))|((with_reducible refine zz23 (f:=60) rfl ?_);refine zz25 (some 28) rfl rfl Tryd.func60 (by kernel_rfl) rfl #[.int .i64 a0] rfl (by (try simp only [List.map_toArray,List.map_cons,List.map_nil]);first|done|rfl|(simp only [List.length_drop,List.length_take];rfl)) ?_;(with_reducible refine (r03_Is.calls a0 false _ A6.out).mono ?_);rintro e w' ⟨rfl,⟨nd,rfl⟩⟩;refine ⟨_,rfl,?_⟩;(try (rw [drewN_self w17];generalize hq_ : World.drewN w17 _ = w17;have n0_ : Aside0 (w17.heap[gb347]? = some (.cells #[.int .i64 0,.int .i64 0,.bool false] 111 (0,0))):=⟨by rw [← hq_];exact (by (with_reducible repeat (first|refine zz07 ?_ _|refine zz09 ?_|refine zz08 ?_ _));exact BK347.out)⟩;have n1_ : Aside0 (Below w.heap.size w w17):=⟨by rw [← hq_];exact (by repeat (first|(with_reducible first|exact HB.out|apply zz03|apply zz01|apply zz02|refine zz10 ?_ GE347.out)|exact HB.out))⟩;clear BK347 HB hq_;have BK347:=n0_;have HB:=n1_;clear n0_ n1_)))|((with_reducible refine zz24 (N:=8) rfl ?_);refine zz30 ?hg (N:=8) ?hd (cs:=#[.int .i64 0,.int .i64 0,.bool false]) (t:=111) ?hr ?_;(case hd=>rfl);(case hg=>rfl);(case hr=>first|(go_simp;done)|(go_simp;rfl));intro gb354 hg w18 hbox hb;have n0_:=zz00 (zz34 (g:=gb347) (o:=.cells #[.int .i64 0,.int .i64 0,.bool false] 111 (0,0)) (by (with_reducible repeat (first|refine zz07 ?_ _|refine zz09 ?_|refine zz08 ?_ _));exact BK347.out) hb);have n1_:=zz00 (zz21 (by repeat (first|(with_reducible first|exact HB.out|apply zz03|apply zz01|apply zz02|refine zz10 ?_ GE347.out)|exact HB.out)) hb);have n2_:=zz00 (hbox);have n3_:=zz00 ((by rw [hg];exact (zz22 (by repeat (first|(with_reducible first|exact HB.out|apply zz03|apply zz01|apply zz02|refine zz10 ?_ GE347.out)|exact HB.out))) : w.heap.size ≤ gb354));have n4_:=zz00 ((by rw [hg];exact (zz22 (by repeat (first|(with_reducible first|exact HB.out|apply zz03|apply zz01|apply zz02|refine zz10 ?_ GE347.out)|exact HB.out))) : w.heap.size ≤ gb354));have n5_:=zz00 ((by rw [hg];exact Nat.ne_of_lt (blk_lt (g:=gb347) (o:=.cells #[.int .i64 0,.int .i64 0,.bool false] 111 (0,0)) (by (with_reducible repeat (first|refine zz07 ?_ _|refine zz09 ?_|refine zz08 ?_ _));exact BK347.out)) : gb347 ≠ gb354));have n6_:=zz00 ((by rw [hg];exact Nat.ne_of_gt (blk_lt (g:=gb347) (o:=.cells #[.int .i64 0,.int .i64 0,.bool false] 111 (0,0)) (by (with_reducible repeat (first|refine zz07 ?_ _|refine zz09 ?_|refine zz08 ?_ _));exact BK347.out)) : gb354 ≠ gb347));clear BK347;clear HB;have BK347:=n0_;have HB:=n1_;have BK354:=n2_;have GW354:=n3_;have GE354:=n4_;have NB347_354:=n5_;have NB354_347:=n6_;clear n0_ n1_ n2_ n3_ n4_ n5_ n6_;clear hb hbox hg;have hnb19:=NB354_347.out;have hnc19:=NB347_354.out;have hcz20_0 : w18.cell? ⟨gb354,0,none⟩ = some (.int .i64 0):=(zz18 BK354.out 0).trans rfl;have hcz20_1 : w18.cell? ⟨gb354,1,none⟩ = some (.int .i64 0):=(zz18 BK354.out 1).trans rfl;have hcz20_2 : w18.cell? ⟨gb354,2,none⟩ = some (.bool false):=(zz18 BK354.out 2).trans rfl;have hfz20_0:=zz17 BK354.out 0;have hfz20_1:=zz17 BK354.out 1;have hfz20_2:=zz17 BK354.out 2;have hcz21_0 : w18.cell? ⟨gb347,0,none⟩ = some (.int .i64 0):=(zz18 BK347.out 0).trans rfl;have hcz21_1 : w18.cell? ⟨gb347,1,none⟩ = some (.int .i64 0):=(zz18 BK347.out 1).trans rfl;have hcz21_2 : w18.cell? ⟨gb347,2,none⟩ = some (.bool false):=(zz18 BK347.out 2).trans rfl;have hfz21_0:=zz17 BK347.out 0;have hfz21_1:=zz17 BK347.out 1;have hfz21_2:=zz17 BK347.out 2))
   refine bodyPost_ret (results_ct rfl _ _ gb347 111 #[.int .i64 t352,.int .i64 (wrap64 (t348 - 353)),.bool false] (0,0) _ rfl (by (with_reducible repeat (first|refine zz07 ?_ _|refine zz09 ?_|refine zz08 ?_ _));refine zz35 (cs:=#[.int .i64 t352,.int .i64 (wrap64 (t348 - 353)),.bool false]) ?_ 2 _ rfl;(with_reducible repeat (first|refine zz07 ?_ _|refine zz09 ?_|refine zz08 ?_ _));refine zz35 (cs:=#[.int .i64 t352,.int .i64 0,.bool false]) ?_ 1 _ rfl;(with_reducible repeat (first|refine zz07 ?_ _|refine zz09 ?_|refine zz08 ?_ _));refine zz35 (cs:=#[.int .i64 0,.int .i64 0,.bool false]) ?_ 0 _ rfl;(with_reducible repeat (first|refine zz07 ?_ _|refine zz09 ?_|refine zz08 ?_ _));refine zz33 ?_ NB347_354.out _;(with_reducible repeat (first|refine zz07 ?_ _|refine zz09 ?_|refine zz08 ?_ _));refine zz33 ?_ NB347_354.out _;(with_reducible repeat (first|refine zz07 ?_ _|refine zz09 ?_|refine zz08 ?_ _));refine zz33 ?_ NB347_354.out _;(with_reducible repeat (first|refine zz07 ?_ _|refine zz09 ?_|refine zz08 ?_ _));exact BK347.out) Tryd.underlying111 rfl (by kernel_rfl)) rfl ?_
   exact ⟨by first|rfl|(simp [errW_none,errW_some] <;> rfl)|(simp [*,errW_none,errW_some] <;> rfl),by repeat (first|(with_reducible first|exact HB.out|apply zz03|apply zz01|apply zz02|refine zz10 ?_ GE347.out|refine zz10 ?_ GE354.out)|exact HB.out)⟩
 ·
  rw [if_neg c3] at H
  have c3b0 : (t349 == 0) = false := zz27.mpr c3
  have c3b1 : (t349 != 0) = true := zz28.mpr c3
  simp only [zz15, zz16] at H
  obtain ⟨rfl, rfl, rfl, rfl⟩ := H
  go_enter Tryd.func127, Tryd.ntmps127
  go_wp2_with (first|((with_reducible refine zz24 (N:=2) rfl ?_);refine zz30 ?hg (N:=2) ?hd (cs:=#[.int .i64 0,.int .i64 0,.bool false]) (t:=111) ?hr ?_;(case hd=>rfl);(case hg=>rfl);(case hr=>first|(go_simp;done)|(go_simp;rfl));intro gb347 hg w22 hbox hb;have n0_:=zz00 (zz21 (by repeat (first|(with_reducible first|exact HB.out|apply zz03|apply zz01|apply zz02)|exact HB.out)) hb);have n1_:=zz00 (hbox);have n2_:=zz00 ((by rw [hg];exact (zz22 (by repeat (first|(with_reducible first|exact HB.out|apply zz03|apply zz01|apply zz02)|exact HB.out))) : w.heap.size ≤ gb347));have n3_:=zz00 ((by rw [hg];exact (zz22 (by repeat (first|(with_reducible first|exact HB.out|apply zz03|apply zz01|apply zz02)|exact HB.out))) : w.heap.size ≤ gb347));clear HB;have HB:=n0_;have BK347:=n1_;have GW347:=n2_;have GE347:=n3_;clear n0_ n1_ n2_ n3_;clear hb hbox hg)|((with_reducible refine zz23 (f:=164) rfl ?_);refine zz25 (some 11) rfl rfl Tryd.func164 (by kernel_rfl) rfl #[.int .i64 a0] rfl (by (try simp only [List.map_toArray,List.map_cons,List.map_nil]);first|done|rfl|(simp only [List.length_drop,List.length_take];rfl)) ?_;(with_reducible refine (r07_Long.calls k a0 t348 t349 _ A2.out).mono ?_);rintro e w23 ⟨rfl,hb⟩;refine ⟨_,rfl,?_⟩;have n0_:=zz00 (zz34 (g:=gb347) (o:=.cells #[.int .i64 0,.int .i64 0,.bool false] 111 (0,0)) (by (with_reducible repeat (first|refine zz07 ?_ _|refine zz09 ?_|refine zz08 ?_ _));exact BK347.out) hb);have n1_:=zz00 (zz21 (by repeat (first|(with_reducible first|exact HB.out|apply zz03|apply zz01|apply zz02|refine zz10 ?_ GE347.out)|exact HB.out)) hb);clear BK347;clear HB;have BK347:=n0_;have HB:=n1_;clear n0_ n1_;(try clear hb);(try clear hb2);(try clear hk);(try clear hi);have hcz24_0 : w23.cell? ⟨gb347,0,none⟩ = some (.int .i64 0):=(zz18 BK347.out 0).trans rfl;have hcz24_1 : w23.cell? ⟨gb347,1,none⟩ = some (.int .i64 0):=(zz18 BK347.out 1).trans rfl;have hcz24_2 : w23.cell? ⟨gb347,2,none⟩ = some (.bool false):=(zz18 BK347.out 2).trans rfl;have hfz24_0:=zz17 BK347.out 0;have hfz24_1:=zz17 BK347.out 1;have hfz24_2:=zz17 BK347.out 2))
  refine bodyPost_ret (results_ct rfl _ _ gb347 111 #[.int .i64 0,.int .i64 0,.bool false] (0,0) _ rfl (by (with_reducible repeat (first|refine zz07 ?_ _|refine zz09 ?_|refine zz08 ?_ _));refine zz35 (cs:=#[.int .i64 0,.int .i64 0,.bool false]) ?_ 2 _ rfl;(with_reducible repeat (first|refine zz07 ?_ _|refine zz09 ?_|refine zz08 ?_ _));refine zz35 (cs:=#[.int .i64 0,.int .i64 0,.bool false]) ?_ 1 _ rfl;(with_reducible repeat (first|refine zz07 ?_ _|refine zz09 ?_|refine zz08 ?_ _));refine zz35 (cs:=#[.int .i64 0,.int .i64 0,.bool false]) ?_ 0 _ rfl;(with_reducible repeat (first|refine zz07 ?_ _|refine zz09 ?_|refine zz08 ?_ _));exact BK347.out) Tryd.underlying111 rfl (by kernel_rfl)) rfl ?_
  exact ⟨by first|rfl|(simp [errW_none,errW_some] <;> rfl)|(simp [*,errW_none,errW_some] <;> rfl),by repeat (first|(with_reducible first|exact HB.out|apply zz03|apply zz01|apply zz02|refine zz10 ?_ GE347.out)|exact HB.out)⟩

def r08_lengths.j0 : Nat → List Int → Int → Int → Bool → Option (List Int)
  | 0, _, _, _, _ => none
  | k + 1, x3, x356000, x356001, x356002 => if x356001 = 0 then (if 2 < (x3.length : Int) then ((some (x3.set (2 : Int).toNat 29 : List Int)).bind fun y360 => (if x356002 = true then (if y360.length < 17592186044416 then ((some (y360 ++ [30] : List Int)).bind fun y361 => ((some (([29, 30, 29, 30, 29, 30, 29] : List Int) : List Int)).bind fun y364 => (if y361.length + y364.length < 17592186044416 then (some (y361 ++ y364)) else (none)))) else (none)) else ((some (([29, 30, 29, 30, 29, 30, 29] : List Int) : List Int)).bind fun y370 => (if y360.length + y370.length < 17592186044416 then (some (y360 ++ y370)) else (none))))) else (none)) else (if x356002 = true then (if x3.length < 17592186044416 then ((some (x3 ++ [30] : List Int)).bind fun y376 => ((some (([29, 30, 29, 30, 29, 30, 29] : List Int) : List Int)).bind fun y379 => (if y376.length + y379.length < 17592186044416 then (some (y376 ++ y379)) else (none)))) else (none)) else ((some (([29, 30, 29, 30, 29, 30, 29] : List Int) : List Int)).bind fun y385 => (if x3.length + y385.length < 17592186044416 then (some (x3 ++ y385)) else (none))))
def r08_lengths.f (k : Nat) (a0_0 : Int) (a0_1 : Int) (a0_2 : Bool) : Option (List Int) := (some (([30, 29, 30, 29, 30] : List Int) : List Int)).bind fun y356 => (if a0_1 = 2 then (if 1 < (y356.length : Int) then (r08_lengths.j0 k (y356.set (1 : Int).toNat 30) a0_0 a0_1 a0_2) else (none)) else (r08_lengths.j0 k y356 a0_0 a0_1 a0_2))
theorem r08_lengths.mono_l : ∀ k, (∀ y0 y1 y2 y3, LeO (r08_lengths.j0 k y0 y1 y2 y3) (r08_lengths.j0 (k + 1) y0 y1 y2 y3))
 | 0 => fun _ _ _ _ r h => by simp [r08_lengths.j0] at h
 | k + 1 => by
  have ih0 := r08_lengths.mono_l k
  ·
   intro y0 y1 y2 y3
   unfold r08_lengths.j0
   repeat' first
   | (with_reducible exact ih0 _ _ _ _)
   | (with_reducible exact LeO.refl _)
   | (with_reducible exact LeO.none _)
   | (with_reducible refine LeO.ite ?_ ?_)
   | (with_reducible refine LeO.bind ?_ (fun _ => ?_))
   | exact ih0 _ _ _ _
   | exact LeO.none _
   | refine LeO.ite ?_ ?_
   | refine LeO.bind ?_ (fun _ => ?_)
theorem r08_lengths.mono : ∀ a0 a1 a2 k, LeO (r08_lengths.f k a0 a1 a2) (r08_lengths.f (k + 1) a0 a1 a2) := by
 intro a0 a1 a2 k
 have ih0 := r08_lengths.mono_l k
 unfold r08_lengths.f
 repeat' first
   | (with_reducible exact ih0 _ _ _ _)
   | (with_reducible exact LeO.refl _)
   | (with_reducible exact LeO.none _)
   | (with_reducible refine LeO.ite ?_ ?_)
   | (with_reducible refine LeO.bind ?_ (fun _ => ?_))
   | exact ih0 _ _ _ _
   | exact LeO.none _
   | refine LeO.ite ?_ ?_
   | refine LeO.bind ?_ (fun _ => ?_)
set_option maxHeartbeats 8000000 in
set_option maxRecDepth 100000 in
theorem r08_lengths.calls (k : Nat) (a0_0 : Int) (a0_1 : Int) (a0_2 : Bool) (r : List Int) (w : World) (h : r08_lengths.f k a0_0 a0_1 a0_2 = some r) :
  Calls Tryd.prog 166 #[.agg #[.int .i64 a0_0,.int .i64 a0_1,.bool a0_2]] w fun e w'=>∃ v0_ : Value,e = .returned (v0_) ∧ Kd.R (Kd.int .i64) 3 w' w.heap.size (fun _=>True) v0_ r ∧ Below w.heap.size w w':=by
 have hu111 := Tryd.underlying111
 have HB := zz00 (Below.refl w.heap.size w)
 have H : ((some (([30,29,30,29,30] : List Int) : List Int)).bind fun y356=>(if a0_1 = 2 then (if 1 < (y356.length : Int) then (r08_lengths.j0 k (y356.set (1 : Int).toNat 30) a0_0 a0_1 a0_2) else (none)) else (r08_lengths.j0 k y356 a0_0 a0_1 a0_2))) = some r:=h
 clear h
 obtain ⟨y356, hy356⟩ : ∃ y_ : List Int, y_ = (([30, 29, 30, 29, 30] : List Int)) := ⟨_, rfl⟩
 replace H : (if a0_1 = 2 then (if 1 < (y356.length : Int) then (r08_lengths.j0 k (y356.set (1 : Int).toNat 30) a0_0 a0_1 a0_2) else (none)) else (r08_lengths.j0 k y356 a0_0 a0_1 a0_2)) = some r:=by first|(rw [hy356];with_reducible exact H)|(have H2_:=(Option.bind_some _ _).symm.trans H;rw [hy356];with_reducible exact H2_)|(have H2_:=(Option.bind_some _ _).symm.trans H;with_reducible exact H2_)|with_reducible exact H|(rw [hy356];exact H)|exact H
 have Ny356 := zz00 hy356
 clear hy356
 have HC2 := zz00 H
 clear H
 go_enter Tryd.func166, Tryd.ntmps166
 go_upto_if 7 with (first|((with_reducible refine zz24 (N:=1) rfl ?_);refine zz30 ?hg (N:=1) ?hd (cs:=#[.int .i64 a0_0,.int .i64 a0_1,.bool a0_2]) (t:=111) ?hr ?_;(case hd=>rfl);(case hg=>rfl);(case hr=>first|(go_simp;done)|(go_simp;rfl));intro gb355 hg w3 hbox hb;have n0_:=zz00 (zz21 (by repeat (first|(with_reducible first|exact HB.out|apply zz03|apply zz01|apply zz02)|exact HB.out)) hb);have n1_:=zz00 (hbox);have n2_:=zz00 ((by rw [hg];exact (zz22 (by repeat (first|(with_reducible first|exact HB.out|apply zz03|apply zz01|apply zz02)|exact HB.out))) : w.heap.size ≤ gb355));have n3_:=zz00 ((by rw [hg];exact (zz22 (by repeat (first|(with_reducible first|exact HB.out|apply zz03|apply zz01|apply zz02)|exact HB.out))) : w.heap.size ≤ gb355));clear HB;have HB:=n0_;have BK355:=n1_;have GW355:=n2_;have GE355:=n3_;clear n0_ n1_ n2_ n3_;clear hb hbox hg)|((with_reducible refine zz24 (N:=4) rfl ?_);refine Kd.R_lit (Kd.int .i64) _ 3 ?hg (N:=4) ?hd (xs:=([30,29,30,29,30] : List Int)) (inner:=[.int .i64 30,.int .i64 29,.int .i64 30,.int .i64 29,.int .i64 30]) (ok:=fun _=>True) (okp:=fun _=>True) ?hr ?hp (fun _ hk=>hk) trivial (Below.refl _ _) (Nat.le_refl _) (by simp) ?_;(case hd=>rfl);(case hg=>rfl);(case hr=>first|(go_simp;done)|(go_simp;rfl));(case hp=>exact (Reps.one (show Kd.M (Kd.int .i64) _ _ _ 30 [.int .i64 30] from rfl) (Reps.one (show Kd.M (Kd.int .i64) _ _ _ 29 [.int .i64 29] from rfl) (Reps.one (show Kd.M (Kd.int .i64) _ _ _ 30 [.int .i64 30] from rfl) (Reps.one (show Kd.M (Kd.int .i64) _ _ _ 29 [.int .i64 29] from rfl) (Reps.one (show Kd.M (Kd.int .i64) _ _ _ 30 [.int .i64 30] from rfl) (Reps.none _ _)))))));intro v357 w4 ho5 hb hg_ hnew_;clear hg_ hnew_;(first|rw [← Ny356.out] at ho5|(simp only [Int.reduceToNat] at ho5;rw [← Ny356.out] at ho5));have n0_:=zz00 (Kd.R_lower ho5 (zz22 (by repeat (first|(with_reducible first|exact HB.out|apply zz03|apply zz01|apply zz02|refine zz10 ?_ GE355.out)|exact HB.out))));have n1_:=zz00 (zz34 (g:=gb355) (o:=.cells #[.int .i64 a0_0,.int .i64 a0_1,.bool a0_2] 111 (0,0)) (by (with_reducible repeat (first|refine zz07 ?_ _|refine zz09 ?_|refine zz08 ?_ _));exact BK355.out) hb);have n2_:=zz00 (zz21 (by repeat (first|(with_reducible first|exact HB.out|apply zz03|apply zz01|apply zz02|refine zz10 ?_ GE355.out)|exact HB.out)) hb);clear BK355;clear HB;have HO358:=n0_;have BK355:=n1_;have HB:=n2_;clear n0_ n1_ n2_;clear hb ho5;have hcz6_0 : w4.cell? ⟨gb355,0,none⟩ = some (.int .i64 a0_0):=(zz18 BK355.out 0).trans rfl;have hcz6_1 : w4.cell? ⟨gb355,1,none⟩ = some (.int .i64 a0_1):=(zz18 BK355.out 1).trans rfl;have hcz6_2 : w4.cell? ⟨gb355,2,none⟩ = some (.bool a0_2):=(zz18 BK355.out 2).trans rfl;have hfz6_0:=zz17 BK355.out 0;have hfz6_1:=zz17 BK355.out 1;have hfz6_2:=zz17 BK355.out 2))
 (try simp only [Act.put, zz11, zz12, zz13])
 go_cut [] (fun wc=>∃ (kq : Nat) (x3_1 : List Int),Aside0 (r08_lengths.j0 kq x3_1 a0_0 a0_1 a0_2 = some r) ∧ Aside0 (kq ≤ k) ∧ Aside0 (Kd.R (Kd.int .i64) 3 wc w.heap.size (fun _=>True) v357 x3_1) ∧ Aside0 (wc.heap[gb355]? = some (.cells #[.int .i64 a0_0,.int .i64 a0_1,.bool a0_2] 111 (0,0))) ∧ Aside0 (Below w.heap.size w wc))
 case first =>
  have H := HC2.out
  clear HC2
  by_cases c7 : a0_1 = 2
  ·
   rw [if_pos c7] at H
   have c7b0 : (a0_1 == 2) = true := zz29.mpr c7
   have c7b1 : (a0_1 != 2) = false := zz26.mpr c7
   clear c7
   (first | rw [c7b0] | (simp only [i64_w, i32_w]; rw [c7b0]) | skip)
   by_cases c8 : 1 < (y356.length : Int)
   ·
    rw [if_pos c8] at H
    have c8b0 : decide (1 < (y356.length : Int)) = true := decide_eq_true c8
    have c8b1 : decide (1 < y356.length) = true := decide_eq_true (by omega)
    clear c8
    obtain ⟨y359, hy359⟩ : ∃ y_ : List Int, y_ = (y356.set (1 : Int).toNat 30) := ⟨_, rfl⟩
    replace H : (r08_lengths.j0 k y359 a0_0 a0_1 a0_2) = some r:=by first|(rw [hy359];with_reducible exact H)|(have H2_:=(Option.bind_some _ _).symm.trans H;rw [hy359];with_reducible exact H2_)|(have H2_:=(Option.bind_some _ _).symm.trans H;with_reducible exact H2_)|with_reducible exact H|(rw [hy359];exact H)|exact H
    have Ny359 := zz00 hy359
    clear hy359
    have H' := zz00 H
    clear H
    have p9 : 0 ≤ (1 : Int) := (by omega)
    have q9 : (1 : Int) < ((y356.length : Int) : Int) := zz31 (by first | (with_reducible assumption) | assumption)
    have qi9 : (1 < y356.length) = True := eq_true (by omega)
    obtain ⟨go9, co9, eo9, gb9, gl9, cl9, HG9⟩ := Kd.R_form HO358.out (by omega)
    (first | cases eo9 | (injection eo9 with ea_ en_ ec_; (first | subst ea_ | (injection ea_ with ea_; subst ea_)); subst ec_; clear en_))
    have GB9 := zz00 gb9
    have GG9 := zz00 HG9
    clear gb9 gl9 HG9
    obtain ⟨hx9_0, hf9_0⟩ := Kd.R_celln 0 HO358.out (1 : Int) p9 q9
    (try rw [show ((1 : Int)).toNat = 1 from rfl] at hx9_0)
    (try simp only [Nat.reduceMul, Nat.zero_mul, Nat.zero_add, Nat.reduceAdd] at hx9_0)
    (try rw [show ((1 : Int)).toNat = 1 from rfl] at hf9_0)
    (try simp only [Nat.reduceMul, Nat.zero_mul, Nat.zero_add, Nat.reduceAdd] at hf9_0)
    replace p9 := eq_true p9
    replace q9 := eq_true q9
    have HP10 := Kd.R_putg HO358.out (1 : Int) 30
    go_wp2_with (first|((with_reducible refine gate_store (t:=3) (p:=9) rfl ?_);refine store_event (t:=3) (p:=9) (v:=?vo_w11) (w1:=(w4.setCell ⟨go9,(1 : Int).toNat,none⟩ (.int .i64 30))) ?hg ?ho ?hn ?hr ?_;(case ho=>rfl);(case hg=>rfl);(case hn=>rfl);(case hr=>first|(go_simp;done)|(go_simp;rfl));intro w11 hw;have hg : w4.grownBy w11 (some go9):=(by rw [hw];exact HP10.2);have hp_ : Kd.R (Kd.int .i64) 3 w11 w.heap.size (fun _=>True) (.slice (some ⟨go9,0,none⟩) y356.length co9) y359:=(by rw [hw,Ny359.out];exact HP10.1);clear HP10;have n0_:=zz00 (blk_grown (g:=gb355) (o:=.cells #[.int .i64 a0_0,.int .i64 a0_1,.bool a0_2] 111 (0,0)) (by (with_reducible repeat (first|refine zz07 ?_ _|refine zz09 ?_|refine zz08 ?_ _));exact BK355.out) hg (Kd.R_ne HO358.out BK355.out (by decide)));have n1_:=zz00 (hp_);have n2_:=zz00 ((by rw [hw];exact zz10 (HB.out) GB9.out : Below w.heap.size w w11));clear BK355;clear HO358;clear HB;have BK355:=n0_;have HO358:=n1_;have HB:=n2_;clear n0_ n1_ n2_;clear hg hw hp_))
    go_meet
    case rel=>exact ⟨_,(y359),H',⟨by first|omega|exact Nat.le_refl _⟩,⟨by (with_reducible repeat (first|apply zz05|apply zz04|apply zz06));exact HO358.out⟩,⟨by (with_reducible repeat (first|refine zz07 ?_ _|refine zz09 ?_|refine zz08 ?_ _));exact BK355.out⟩,⟨by repeat (first|(with_reducible first|exact HB.out|apply zz03|apply zz01|apply zz02|refine zz10 ?_ GE355.out)|exact HB.out)⟩⟩
   ·
    rw [if_neg c8] at H
    exact absurd H (by simp)
  ·
   rw [if_neg c7] at H
   have c7b0 : (a0_1 == 2) = false := zz27.mpr c7
   have c7b1 : (a0_1 != 2) = true := zz28.mpr c7
   (first | rw [c7b0] | (simp only [i64_w, i32_w]; rw [c7b0]) | skip)
   have H' := zz00 H
   clear H
   go_wp2
   go_meet
   case rel=>exact ⟨_,(y356),H',⟨by first|omega|exact Nat.le_refl _⟩,⟨by (with_reducible repeat (first|apply zz05|apply zz04|apply zz06));exact HO358.out⟩,⟨by (with_reducible repeat (first|refine zz07 ?_ _|refine zz09 ?_|refine zz08 ?_ _));exact BK355.out⟩,⟨by repeat (first|(with_reducible first|exact HB.out|apply zz03|apply zz01|apply zz02|refine zz10 ?_ GE355.out)|exact HB.out)⟩⟩
 case rest =>
  clear HC2
  try clear c1
  try clear p2
  try clear c7
  try clear c7b0
  try clear c7b1
  try clear c8
  try clear c8b0
  try clear c8b1
  try clear p9
  try clear q9
  try clear hx9
  try clear qi9
  try clear hf9
  try clear hcz6_0
  try clear hcz6_1
  try clear hcz6_2
  try clear hfz6_0
  try clear hfz6_1
  try clear hfz6_2
  try clear hx9_0
  try clear p9
  try clear q9
  obtain ⟨kq, x3_1, HA, HJ1, HO_3, BK355, HB⟩ := hcut
  cases kq with
  | zero => exact absurd HA.out (by simp [r08_lengths.j0])
  | succ kj1 =>
   have H := HA.out
   clear HA
   simp only [r08_lengths.j0] at H
   by_cases c12 : a0_1 = 0
   ·
    rw [if_pos c12] at H
    have c12b0 : (a0_1 == 0) = true := zz29.mpr c12
    have c12b1 : (a0_1 != 0) = false := zz26.mpr c12
    clear c12
    by_cases c13 : 2 < (x3_1.length : Int)
    ·
     rw [if_pos c13] at H
     have c13b0 : decide (2 < (x3_1.length : Int)) = true := decide_eq_true c13
     have c13b1 : decide (2 < x3_1.length) = true := decide_eq_true (by omega)
     clear c13
     obtain ⟨y360, hy360⟩ : ∃ y_ : List Int, y_ = (x3_1.set (2 : Int).toNat 29) := ⟨_, rfl⟩
     replace H : (if a0_2 = true then (if y360.length < 17592186044416 then ((some (y360 ++ [30] : List Int)).bind fun y361=>((some (([29,30,29,30,29,30,29] : List Int) : List Int)).bind fun y364=>(if y361.length + y364.length < 17592186044416 then (some (y361 ++ y364)) else (none)))) else (none)) else ((some (([29,30,29,30,29,30,29] : List Int) : List Int)).bind fun y370=>(if y360.length + y370.length < 17592186044416 then (some (y360 ++ y370)) else (none)))) = some r:=by first|(rw [hy360];with_reducible exact H)|(have H2_:=(Option.bind_some _ _).symm.trans H;rw [hy360];with_reducible exact H2_)|(have H2_:=(Option.bind_some _ _).symm.trans H;with_reducible exact H2_)|with_reducible exact H|(rw [hy360];exact H)|exact H
     have Ny360 := zz00 hy360
     clear hy360
     by_cases c15 : a0_2 = true
     ·
      subst c15
      have H1 : (if y360.length < 17592186044416 then ((some (y360 ++ [30] : List Int)).bind fun y361=>((some (([29,30,29,30,29,30,29] : List Int) : List Int)).bind fun y364=>(if y361.length + y364.length < 17592186044416 then (some (y361 ++ y364)) else (none)))) else (none)) = some r:=by rw [if_pos rfl] at H;exact H
      clear H
      have H := H1
      clear H1
      by_cases c16 : y360.length < 17592186044416
      ·
       rw [if_pos c16] at H
       have LMc16 := zz00 c16
       clear c16
       obtain ⟨y361, hy361⟩ : ∃ y_ : List Int, y_ = (y360 ++ [30]) := ⟨_, rfl⟩
       replace H : ((some (([29,30,29,30,29,30,29] : List Int) : List Int)).bind fun y364=>(if y361.length + y364.length < 17592186044416 then (some (y361 ++ y364)) else (none))) = some r:=by first|(rw [hy361];with_reducible exact H)|(have H2_:=(Option.bind_some _ _).symm.trans H;rw [hy361];with_reducible exact H2_)|(have H2_:=(Option.bind_some _ _).symm.trans H;with_reducible exact H2_)|with_reducible exact H|(rw [hy361];exact H)|exact H
       have Ny361 := zz00 hy361
       clear hy361
       obtain ⟨y364, hy364⟩ : ∃ y_ : List Int, y_ = (([29, 30, 29, 30, 29, 30, 29] : List Int)) := ⟨_, rfl⟩
       replace H : (if y361.length + y364.length < 17592186044416 then (some (y361 ++ y364)) else (none)) = some r:=by first|(rw [hy364];with_reducible exact H)|(have H2_:=(Option.bind_some _ _).symm.trans H;rw [hy364];with_reducible exact H2_)|(have H2_:=(Option.bind_some _ _).symm.trans H;with_reducible exact H2_)|with_reducible exact H|(rw [hy364];exact H)|exact H
       have Ny364 := zz00 hy364
       clear hy364
       by_cases c17 : y361.length + y364.length < 17592186044416
       ·
        rw [if_pos c17] at H
        have LMc17 := zz00 c17
        clear c17
        obtain ⟨y367, hy367⟩ : ∃ y_ : List Int, y_ = (y361 ++ y364) := ⟨_, rfl⟩
        replace H : (some y367) = some r:=by first|(rw [hy367];with_reducible exact H)|(have H2_:=(Option.bind_some _ _).symm.trans H;rw [hy367];with_reducible exact H2_)|(have H2_:=(Option.bind_some _ _).symm.trans H;with_reducible exact H2_)|with_reducible exact H|(rw [hy367];exact H)|exact H
        have Ny367 := zz00 hy367
        clear hy367
        obtain rfl := Option.some.inj H
        have hcz18_0 : wc.cell? ⟨gb355, 0, none⟩ = some (.int .i64 a0_0) := (zz18 BK355.out 0).trans rfl
        have hcz18_1 : wc.cell? ⟨gb355, 1, none⟩ = some (.int .i64 a0_1) := (zz18 BK355.out 1).trans rfl
        have hcz18_2 : wc.cell? ⟨gb355, 2, none⟩ = some (.bool true) := (zz18 BK355.out 2).trans rfl
        have hfz18_0 := zz17 BK355.out 0
        have hfz18_1 := zz17 BK355.out 1
        have hfz18_2 := zz17 BK355.out 2
        have p14 : 0 ≤ (2 : Int) := (by omega)
        have q14 : (2 : Int) < ((x3_1.length : Int) : Int) := zz31 (by first | (with_reducible assumption) | assumption)
        have qi14 : (2 < x3_1.length) = True := eq_true (by omega)
        obtain ⟨go14, co14, eo14, gb14, gl14, cl14, HG14⟩ := Kd.R_form HO_3.out (by omega)
        (first | cases eo14 | (injection eo14 with ea_ en_ ec_; (first | subst ea_ | (injection ea_ with ea_; subst ea_)); subst ec_; clear en_))
        have GB14 := zz00 gb14
        have GG14 := zz00 HG14
        clear gb14 gl14 HG14
        obtain ⟨hx14_0, hf14_0⟩ := Kd.R_celln 0 HO_3.out (2 : Int) p14 q14
        (try rw [show ((2 : Int)).toNat = 2 from rfl] at hx14_0)
        (try simp only [Nat.reduceMul, Nat.zero_mul, Nat.zero_add, Nat.reduceAdd] at hx14_0)
        (try rw [show ((2 : Int)).toNat = 2 from rfl] at hf14_0)
        (try simp only [Nat.reduceMul, Nat.zero_mul, Nat.zero_add, Nat.reduceAdd] at hf14_0)
        replace p14 := eq_true p14
        replace q14 := eq_true q14
        have HP19 := Kd.R_putg HO_3.out (2 : Int) 29
        go_wp2_with (first|((with_reducible refine gate_store (t:=3) (p:=14) rfl ?_);refine store_event (t:=3) (p:=14) (v:=?vo_w20) (w1:=(wc.setCell ⟨go14,(2 : Int).toNat,none⟩ (.int .i64 29))) ?hg ?ho ?hn ?hr ?_;(case ho=>rfl);(case hg=>rfl);(case hn=>rfl);(case hr=>first|(go_simp;done)|(go_simp;rfl));intro w20 hw;have hg : wc.grownBy w20 (some go14):=(by rw [hw];exact HP19.2);have hp_ : Kd.R (Kd.int .i64) 3 w20 w.heap.size (fun _=>True) (.slice (some ⟨go14,0,none⟩) x3_1.length co14) y360:=(by rw [hw,Ny360.out];exact HP19.1);clear HP19;have n0_:=zz00 (hp_);have n1_:=zz00 (blk_grown (g:=gb355) (o:=.cells #[.int .i64 a0_0,.int .i64 a0_1,.bool true] 111 (0,0)) (by (with_reducible repeat (first|refine zz07 ?_ _|refine zz09 ?_|refine zz08 ?_ _));exact BK355.out) hg (Kd.R_ne HO_3.out BK355.out (by decide)));have n2_:=zz00 ((by rw [hw];exact zz10 (HB.out) GB14.out : Below w.heap.size w w20));clear HO_3;clear BK355;clear HB;have HO_3:=n0_;have BK355:=n1_;have HB:=n2_;clear n0_ n1_ n2_;clear hg hw hp_;have hcz21_0 : w20.cell? ⟨gb355,0,none⟩ = some (.int .i64 a0_0):=(zz18 BK355.out 0).trans rfl;have hcz21_1 : w20.cell? ⟨gb355,1,none⟩ = some (.int .i64 a0_1):=(zz18 BK355.out 1).trans rfl;have hcz21_2 : w20.cell? ⟨gb355,2,none⟩ = some (.bool true):=(zz18 BK355.out 2).trans rfl;have hfz21_0:=zz17 BK355.out 0;have hfz21_1:=zz17 BK355.out 1;have hfz21_2:=zz17 BK355.out 2)|((with_reducible refine gate_builtin (b:=.append) (xs:=#[.tmp 17,.tmp 18]) rfl ?_);at_builtin;refine Kd.R_append (Kd.int .i64) (w0:=w) w.heap.size rfl (.tmp 17) (.tmp 18) 91 3 (.int .i64 0) 8 rfl Tryd.underlying91 info3 rfl (by decide) (by omega) (.slice (some ⟨go14,0,none⟩) x3_1.length co14) y360 30 [.int .i64 30] (fun _=>True) (fun _=>False) rfl rfl ?aP (fun _ hk=>hk.elim) ?aF ?aO ?aB ?aS ?aL ?_;(case aP=>exact rfl);(case aB=>exact (by repeat (first|(with_reducible first|exact HB.out|apply zz03|apply zz01|apply zz02|refine zz10 ?_ GE355.out)|exact HB.out)));(case aF=>exact (fun _ _=>trivial));(case aO=>exact (by (with_reducible repeat (first|apply zz05|apply zz04|apply zz06));exact HO_3.out));(case aS=>exact (zz22 (by repeat (first|(with_reducible first|exact HB.out|apply zz03|apply zz01|apply zz02|refine zz10 ?_ GE355.out)|exact HB.out))));(case aL=>have:=LMc16.out;omega);intro v362 w22 ho hb hg hat;rw [← Ny361.out] at ho;have n0_:=zz00 (blk_grown (g:=gb355) (o:=.cells #[.int .i64 a0_0,.int .i64 a0_1,.bool true] 111 (0,0)) (by (with_reducible repeat (first|refine zz07 ?_ _|refine zz09 ?_|refine zz08 ?_ _));exact BK355.out) hg (Kd.R_ne HO_3.out BK355.out (by decide)));have n1_:=zz00 (hb);have n2_:=zz00 (ho);clear BK355;clear HB;clear HO_3;have BK355:=n0_;have HB:=n1_;have HO363:=n2_;clear n0_ n1_ n2_;clear ho hb hg hat)|((with_reducible refine zz24 (N:=21) rfl ?_);refine Kd.R_lit (Kd.int .i64) _ 3 ?hg (N:=21) ?hd (xs:=([29,30,29,30,29,30,29] : List Int)) (inner:=[.int .i64 29,.int .i64 30,.int .i64 29,.int .i64 30,.int .i64 29,.int .i64 30,.int .i64 29]) (ok:=fun _=>True) (okp:=fun _=>True) ?hr ?hp (fun _ hk=>hk) trivial (Below.refl _ _) (Nat.le_refl _) (by simp) ?_;(case hd=>rfl);(case hg=>rfl);(case hr=>first|(go_simp;done)|(go_simp;rfl));(case hp=>exact (Reps.one (show Kd.M (Kd.int .i64) _ _ _ 29 [.int .i64 29] from rfl) (Reps.one (show Kd.M (Kd.int .i64) _ _ _ 30 [.int .i64 30] from rfl) (Reps.one (show Kd.M (Kd.int .i64) _ _ _ 29 [.int .i64 29] from rfl) (Reps.one (show Kd.M (Kd.int .i64) _ _ _ 30 [.int .i64 30] from rfl) (Reps.one (show Kd.M (Kd.int .i64) _ _ _ 29 [.int .i64 29] from rfl) (Reps.one (show Kd.M (Kd.int .i64) _ _ _ 30 [.int .i64 30] from rfl) (Reps.one (show Kd.M (Kd.int .i64) _ _ _ 29 [.int .i64 29] from rfl) (Reps.none _ _)))))))));intro v365 w23 ho24 hb hg_ hnew_;clear hg_ hnew_;(first|rw [← Ny364.out] at ho24|(simp only [Int.reduceToNat] at ho24;rw [← Ny364.out] at ho24));have n0_:=zz00 (zz20 (by (with_reducible repeat (first|apply zz05|apply zz04|apply zz06));exact HO363.out) (Kd.R_base ho24) hb);have n1_:=zz00 (Kd.R_lower (Kd.R_new' ho24 (Kd.R_lt (by (with_reducible repeat (first|apply zz05|apply zz04|apply zz06));exact HO363.out))) (zz22 (by repeat (first|(with_reducible first|exact HB.out|apply zz03|apply zz01|apply zz02|refine zz10 ?_ GE355.out)|exact HB.out))));have n2_:=zz00 (zz34 (g:=gb355) (o:=.cells #[.int .i64 a0_0,.int .i64 a0_1,.bool true] 111 (0,0)) (by (with_reducible repeat (first|refine zz07 ?_ _|refine zz09 ?_|refine zz08 ?_ _));exact BK355.out) hb);have n3_:=zz00 (zz21 (by repeat (first|(with_reducible first|exact HB.out|apply zz03|apply zz01|apply zz02|refine zz10 ?_ GE355.out)|exact HB.out)) hb);clear HO363;clear BK355;clear HB;have HO363:=n0_;have HO366:=n1_;have BK355:=n2_;have HB:=n3_;clear n0_ n1_ n2_ n3_;clear hb ho24;obtain ⟨Ao26,co26,eo26⟩:=Kd.R_slice HO366.out;subst eo26)|((with_reducible refine gate_builtin (b:=.append) (xs:=#[.tmp 20,.tmp 21]) rfl ?_);at_builtin;refine Kd.R_append_rows (Kd.int .i64) (w0:=w) w.heap.size rfl (.tmp 20) (.tmp 21) 91 3 (.int .i64 0) 8 rfl Tryd.underlying91 info3 rfl (by decide) (by omega) v362 y361 y364 _ _ _ (fun k_=>some k_ ≠ (.slice Ao26 y364.length co26 : Value).ownBlock) (fun _=>False) rfl rfl ?aO ?aR (fun _ _ h=>h) (fun _ h=>h.elim) ?aF ?aB ?aS ?aL ?_;(case aR=>repeat (first|exact (Kd.R_reads' HO366.out).2.2|(with_reducible refine Kd.C_alloc ?_ _)|(with_reducible refine Kd.C_drewN ?_ _)|(with_reducible refine Kd.C_drew ?_)));(case aB=>exact (by repeat (first|(with_reducible first|exact HB.out|apply zz03|apply zz01|apply zz02|refine zz10 ?_ GE355.out)|exact HB.out)));(case aF=>exact (fun k_ hk=>Kd.fresh' (Kd.R_lt (by (with_reducible repeat (first|apply zz05|apply zz04|apply zz06));exact HO366.out)) k_ hk));(case aO=>exact (by (with_reducible repeat (first|apply zz05|apply zz04|apply zz06));exact Kd.R_mono HO363.out (fun _ hk=>hk.2)));(case aS=>exact (zz22 (by repeat (first|(with_reducible first|exact HB.out|apply zz03|apply zz01|apply zz02|refine zz10 ?_ GE355.out)|exact HB.out))));(case aL=>have:=LMc17.out;omega);intro v368 w25 ho hb hg hat;rw [← Ny367.out] at ho;have n0_:=zz00 (blk_grown (g:=gb355) (o:=.cells #[.int .i64 a0_0,.int .i64 a0_1,.bool true] 111 (0,0)) (by (with_reducible repeat (first|refine zz07 ?_ _|refine zz09 ?_|refine zz08 ?_ _));exact BK355.out) hg (Kd.R_ne HO363.out BK355.out (by decide)));have n1_:=zz00 (Kd.R_after (ok:=(fun _=>True)) (by (with_reducible repeat (first|apply zz05|apply zz04|apply zz06));exact HO366.out) hg hat);have n2_:=zz00 (hb);have n3_:=zz00 (ho);clear BK355;clear HO366;clear HB;clear HO363;have BK355:=n0_;have HO366:=n1_;have HB:=n2_;have HO369:=n3_;clear n0_ n1_ n2_ n3_;clear ho hb hg hat))
        go_ret
        exact ⟨_,by first|rfl|(simp [errW_none,errW_some] <;> rfl)|(simp [*,errW_none,errW_some] <;> rfl),by (with_reducible repeat (first|apply zz05|apply zz04|apply zz06));exact Kd.R_mono HO369.out (fun _ hk=>trivial),by repeat (first|(with_reducible first|exact HB.out|apply zz03|apply zz01|apply zz02|refine zz10 ?_ GE355.out)|exact HB.out)⟩
       ·
        rw [if_neg c17] at H
        exact absurd H (by simp)
      ·
       rw [if_neg c16] at H
       exact absurd H (by simp)
     ·
      replace c15 := zz32.mpr c15
      subst c15
      have H1 : ((some (([29,30,29,30,29,30,29] : List Int) : List Int)).bind fun y370=>(if y360.length + y370.length < 17592186044416 then (some (y360 ++ y370)) else (none))) = some r:=by rw [if_neg (show ¬ (false = true) by decide)] at H;exact H
      clear H
      have H := H1
      clear H1
      obtain ⟨y370, hy370⟩ : ∃ y_ : List Int, y_ = (([29, 30, 29, 30, 29, 30, 29] : List Int)) := ⟨_, rfl⟩
      replace H : (if y360.length + y370.length < 17592186044416 then (some (y360 ++ y370)) else (none)) = some r:=by first|(rw [hy370];with_reducible exact H)|(have H2_:=(Option.bind_some _ _).symm.trans H;rw [hy370];with_reducible exact H2_)|(have H2_:=(Option.bind_some _ _).symm.trans H;with_reducible exact H2_)|with_reducible exact H|(rw [hy370];exact H)|exact H
      have Ny370 := zz00 hy370
      clear hy370
      by_cases c27 : y360.length + y370.length < 17592186044416
      ·
       rw [if_pos c27] at H
       have LMc27 := zz00 c27
       clear c27
       obtain ⟨y373, hy373⟩ : ∃ y_ : List Int, y_ = (y360 ++ y370) := ⟨_, rfl⟩
       replace H : (some y373) = some r:=by first|(rw [hy373];with_reducible exact H)|(have H2_:=(Option.bind_some _ _).symm.trans H;rw [hy373];with_reducible exact H2_)|(have H2_:=(Option.bind_some _ _).symm.trans H;with_reducible exact H2_)|with_reducible exact H|(rw [hy373];exact H)|exact H
       have Ny373 := zz00 hy373
       clear hy373
       obtain rfl := Option.some.inj H
       have hcz28_0 : wc.cell? ⟨gb355, 0, none⟩ = some (.int .i64 a0_0) := (zz18 BK355.out 0).trans rfl
       have hcz28_1 : wc.cell? ⟨gb355, 1, none⟩ = some (.int .i64 a0_1) := (zz18 BK355.out 1).trans rfl
       have hcz28_2 : wc.cell? ⟨gb355, 2, none⟩ = some (.bool false) := (zz18 BK355.out 2).trans rfl
       have hfz28_0 := zz17 BK355.out 0
       have hfz28_1 := zz17 BK355.out 1
       have hfz28_2 := zz17 BK355.out 2
       have p14 : 0 ≤ (2 : Int) := (by omega)
       have q14 : (2 : Int) < ((x3_1.length : Int) : Int) := zz31 (by first | (with_reducible assumption) | assumption)
       have qi14 : (2 < x3_1.length) = True := eq_true (by omega)
       obtain ⟨go14, co14, eo14, gb14, gl14, cl14, HG14⟩ := Kd.R_form HO_3.out (by omega)
       (first | cases eo14 | (injection eo14 with ea_ en_ ec_; (first | subst ea_ | (injection ea_ with ea_; subst ea_)); subst ec_; clear en_))
       have GB14 := zz00 gb14
       have GG14 := zz00 HG14
       clear gb14 gl14 HG14
       obtain ⟨hx14_0, hf14_0⟩ := Kd.R_celln 0 HO_3.out (2 : Int) p14 q14
       (try rw [show ((2 : Int)).toNat = 2 from rfl] at hx14_0)
       (try simp only [Nat.reduceMul, Nat.zero_mul, Nat.zero_add, Nat.reduceAdd] at hx14_0)
       (try rw [show ((2 : Int)).toNat = 2 from rfl] at hf14_0)
       (try simp only [Nat.reduceMul, Nat.zero_mul, Nat.zero_add, Nat.reduceAdd] at hf14_0)
       replace p14 := eq_true p14
       replace q14 := eq_true q14
       have HP29 := Kd.R_putg HO_3.out (2 : Int) 29
       go_wp2_with (first|((with_reducible refine gate_store (t:=3) (p:=14) rfl ?_);refine store_event (t:=3) (p:=14) (v:=?vo_w30) (w1:=(wc.setCell ⟨go14,(2 : Int).toNat,none⟩ (.int .i64 29))) ?hg ?ho ?hn ?hr ?_;(case ho=>rfl);(case hg=>rfl);(case hn=>rfl);(case hr=>first|(go_simp;done)|(go_simp;rfl));intro w30 hw;have hg : wc.grownBy w30 (some go14):=(by rw [hw];exact HP29.2);have hp_ : Kd.R (Kd.int .i64) 3 w30 w.heap.size (fun _=>True) (.slice (some ⟨go14,0,none⟩) x3_1.length co14) y360:=(by rw [hw,Ny360.out];exact HP29.1);clear HP29;have n0_:=zz00 (hp_);have n1_:=zz00 (blk_grown (g:=gb355) (o:=.cells #[.int .i64 a0_0,.int .i64 a0_1,.bool false] 111 (0,0)) (by (with_reducible repeat (first|refine zz07 ?_ _|refine zz09 ?_|refine zz08 ?_ _));exact BK355.out) hg (Kd.R_ne HO_3.out BK355.out (by decide)));have n2_:=zz00 ((by rw [hw];exact zz10 (HB.out) GB14.out : Below w.heap.size w w30));clear HO_3;clear BK355;clear HB;have HO_3:=n0_;have BK355:=n1_;have HB:=n2_;clear n0_ n1_ n2_;clear hg hw hp_;have hcz31_0 : w30.cell? ⟨gb355,0,none⟩ = some (.int .i64 a0_0):=(zz18 BK355.out 0).trans rfl;have hcz31_1 : w30.cell? ⟨gb355,1,none⟩ = some (.int .i64 a0_1):=(zz18 BK355.out 1).trans rfl;have hcz31_2 : w30.cell? ⟨gb355,2,none⟩ = some (.bool false):=(zz18 BK355.out 2).trans rfl;have hfz31_0:=zz17 BK355.out 0;have hfz31_1:=zz17 BK355.out 1;have hfz31_2:=zz17 BK355.out 2)|((with_reducible refine zz24 (N:=21) rfl ?_);refine Kd.R_lit (Kd.int .i64) _ 3 ?hg (N:=21) ?hd (xs:=([29,30,29,30,29,30,29] : List Int)) (inner:=[.int .i64 29,.int .i64 30,.int .i64 29,.int .i64 30,.int .i64 29,.int .i64 30,.int .i64 29]) (ok:=fun _=>True) (okp:=fun _=>True) ?hr ?hp (fun _ hk=>hk) trivial (Below.refl _ _) (Nat.le_refl _) (by simp) ?_;(case hd=>rfl);(case hg=>rfl);(case hr=>first|(go_simp;done)|(go_simp;rfl));(case hp=>exact (Reps.one (show Kd.M (Kd.int .i64) _ _ _ 29 [.int .i64 29] from rfl) (Reps.one (show Kd.M (Kd.int .i64) _ _ _ 30 [.int .i64 30] from rfl) (Reps.one (show Kd.M (Kd.int .i64) _ _ _ 29 [.int .i64 29] from rfl) (Reps.one (show Kd.M (Kd.int .i64) _ _ _ 30 [.int .i64 30] from rfl) (Reps.one (show Kd.M (Kd.int .i64) _ _ _ 29 [.int .i64 29] from rfl) (Reps.one (show Kd.M (Kd.int .i64) _ _ _ 30 [.int .i64 30] from rfl) (Reps.one (show Kd.M (Kd.int .i64) _ _ _ 29 [.int .i64 29] from rfl) (Reps.none _ _)))))))));intro v371 w32 ho33 hb hg_ hnew_;clear hg_ hnew_;(first|rw [← Ny370.out] at ho33|(simp only [Int.reduceToNat] at ho33;rw [← Ny370.out] at ho33));have n0_:=zz00 (zz20 (by (with_reducible repeat (first|apply zz05|apply zz04|apply zz06));exact HO_3.out) (Kd.R_base ho33) hb);have n1_:=zz00 (Kd.R_lower (Kd.R_new' ho33 (Kd.R_lt (by (with_reducible repeat (first|apply zz05|apply zz04|apply zz06));exact HO_3.out))) (zz22 (by repeat (first|(with_reducible first|exact HB.out|apply zz03|apply zz01|apply zz02|refine zz10 ?_ GE355.out)|exact HB.out))));have n2_:=zz00 (zz34 (g:=gb355) (o:=.cells #[.int .i64 a0_0,.int .i64 a0_1,.bool false] 111 (0,0)) (by (with_reducible repeat (first|refine zz07 ?_ _|refine zz09 ?_|refine zz08 ?_ _));exact BK355.out) hb);have n3_:=zz00 (zz21 (by repeat (first|(with_reducible first|exact HB.out|apply zz03|apply zz01|apply zz02|refine zz10 ?_ GE355.out)|exact HB.out)) hb);clear HO_3;clear BK355;clear HB;have HO_3:=n0_;have HO372:=n1_;have BK355:=n2_;have HB:=n3_;clear n0_ n1_ n2_ n3_;clear hb ho33;obtain ⟨Ao35,co35,eo35⟩:=Kd.R_slice HO372.out;subst eo35)|((with_reducible refine gate_builtin (b:=.append) (xs:=#[.tmp 20,.tmp 21]) rfl ?_);at_builtin;refine Kd.R_append_rows (Kd.int .i64) (w0:=w) w.heap.size rfl (.tmp 20) (.tmp 21) 91 3 (.int .i64 0) 8 rfl Tryd.underlying91 info3 rfl (by decide) (by omega) (.slice (some ⟨go14,0,none⟩) x3_1.length co14) y360 y370 _ _ _ (fun k_=>some k_ ≠ (.slice Ao35 y370.length co35 : Value).ownBlock) (fun _=>False) rfl rfl ?aO ?aR (fun _ _ h=>h) (fun _ h=>h.elim) ?aF ?aB ?aS ?aL ?_;(case aR=>repeat (first|exact (Kd.R_reads' HO372.out).2.2|(with_reducible refine Kd.C_alloc ?_ _)|(with_reducible refine Kd.C_drewN ?_ _)|(with_reducible refine Kd.C_drew ?_)));(case aB=>exact (by repeat (first|(with_reducible first|exact HB.out|apply zz03|apply zz01|apply zz02|refine zz10 ?_ GE355.out)|exact HB.out)));(case aF=>exact (fun k_ hk=>Kd.fresh' (Kd.R_lt (by (with_reducible repeat (first|apply zz05|apply zz04|apply zz06));exact HO372.out)) k_ hk));(case aO=>exact (by (with_reducible repeat (first|apply zz05|apply zz04|apply zz06));exact Kd.R_mono HO_3.out (fun _ hk=>hk.2)));(case aS=>exact (zz22 (by repeat (first|(with_reducible first|exact HB.out|apply zz03|apply zz01|apply zz02|refine zz10 ?_ GE355.out)|exact HB.out))));(case aL=>have:=LMc27.out;omega);intro v374 w34 ho hb hg hat;rw [← Ny373.out] at ho;have n0_:=zz00 (blk_grown (g:=gb355) (o:=.cells #[.int .i64 a0_0,.int .i64 a0_1,.bool false] 111 (0,0)) (by (with_reducible repeat (first|refine zz07 ?_ _|refine zz09 ?_|refine zz08 ?_ _));exact BK355.out) hg (Kd.R_ne HO_3.out BK355.out (by decide)));have n1_:=zz00 (Kd.R_after (ok:=(fun _=>True)) (by (with_reducible repeat (first|apply zz05|apply zz04|apply zz06));exact HO372.out) hg hat);have n2_:=zz00 (hb);have n3_:=zz00 (ho);clear BK355;clear HO372;clear HB;clear HO_3;have BK355:=n0_;have HO372:=n1_;have HB:=n2_;have HO375:=n3_;clear n0_ n1_ n2_ n3_;clear ho hb hg hat))
       go_ret
       exact ⟨_,by first|rfl|(simp [errW_none,errW_some] <;> rfl)|(simp [*,errW_none,errW_some] <;> rfl),by (with_reducible repeat (first|apply zz05|apply zz04|apply zz06));exact Kd.R_mono HO375.out (fun _ hk=>trivial),by repeat (first|(with_reducible first|exact HB.out|apply zz03|apply zz01|apply zz02|refine zz10 ?_ GE355.out)|exact HB.out)⟩
      ·
       rw [if_neg c27] at H
       exact absurd H (by simp)
    ·
     rw [if_neg c13] at H
     exact absurd H (by simp)
   ·
    rw [if_neg c12] at H
    have c12b0 : (a0_1 == 0) = false := zz27.mpr c12
    have c12b1 : (a0_1 != 0) = true := zz28.mpr c12
    by_cases c36 : a0_2 = true
    ·
     subst c36
     have H1 : (if x3_1.length < 17592186044416 then ((some (x3_1 ++ [30] : List Int)).bind fun y376=>((some (([29,30,29,30,29,30,29] : List Int) : List Int)).bind fun y379=>(if y376.length + y379.length < 17592186044416 then (some (y376 ++ y379)) else (none)))) else (none)) = some r:=by rw [if_pos rfl] at H;exact H
     clear H
     have H := H1
     clear H1
     by_cases c37 : x3_1.length < 17592186044416
     ·
      rw [if_pos c37] at H
      have LMc37 := zz00 c37
      clear c37
      obtain ⟨y376, hy376⟩ : ∃ y_ : List Int, y_ = (x3_1 ++ [30]) := ⟨_, rfl⟩
      replace H : ((some (([29,30,29,30,29,30,29] : List Int) : List Int)).bind fun y379=>(if y376.length + y379.length < 17592186044416 then (some (y376 ++ y379)) else (none))) = some r:=by first|(rw [hy376];with_reducible exact H)|(have H2_:=(Option.bind_some _ _).symm.trans H;rw [hy376];with_reducible exact H2_)|(have H2_:=(Option.bind_some _ _).symm.trans H;with_reducible exact H2_)|with_reducible exact H|(rw [hy376];exact H)|exact H
      have Ny376 := zz00 hy376
      clear hy376
      obtain ⟨y379, hy379⟩ : ∃ y_ : List Int, y_ = (([29, 30, 29, 30, 29, 30, 29] : List Int)) := ⟨_, rfl⟩
      replace H : (if y376.length + y379.length < 17592186044416 then (some (y376 ++ y379)) else (none)) = some r:=by first|(rw [hy379];with_reducible exact H)|(have H2_:=(Option.bind_some _ _).symm.trans H;rw [hy379];with_reducible exact H2_)|(have H2_:=(Option.bind_some _ _).symm.trans H;with_reducible exact H2_)|with_reducible exact H|(rw [hy379];exact H)|exact H
      have Ny379 := zz00 hy379
      clear hy379
      by_cases c38 : y376.length + y379.length < 17592186044416
      ·
       rw [if_pos c38] at H
       have LMc38 := zz00 c38
       clear c38
       obtain ⟨y382, hy382⟩ : ∃ y_ : List Int, y_ = (y376 ++ y379) := ⟨_, rfl⟩
       replace H : (some y382) = some r:=by first|(rw [hy382];with_reducible exact H)|(have H2_:=(Option.bind_some _ _).symm.trans H;rw [hy382];with_reducible exact H2_)|(have H2_:=(Option.bind_some _ _).symm.trans H;with_reducible exact H2_)|with_reducible exact H|(rw [hy382];exact H)|exact H
       have Ny382 := zz00 hy382
       clear hy382
       obtain rfl := Option.some.inj H
       have hcz39_0 : wc.cell? ⟨gb355, 0, none⟩ = some (.int .i64 a0_0) := (zz18 BK355.out 0).trans rfl
       have hcz39_1 : wc.cell? ⟨gb355, 1, none⟩ = some (.int .i64 a0_1) := (zz18 BK355.out 1).trans rfl
       have hcz39_2 : wc.cell? ⟨gb355, 2, none⟩ = some (.bool true) := (zz18 BK355.out 2).trans rfl
       have hfz39_0 := zz17 BK355.out 0
       have hfz39_1 := zz17 BK355.out 1
       have hfz39_2 := zz17 BK355.out 2
       go_wp2_with (first|((with_reducible refine gate_builtin (b:=.append) (xs:=#[.tmp 17,.tmp 18]) rfl ?_);at_builtin;refine Kd.R_append (Kd.int .i64) (w0:=w) w.heap.size rfl (.tmp 17) (.tmp 18) 91 3 (.int .i64 0) 8 rfl Tryd.underlying91 info3 rfl (by decide) (by omega) v357 x3_1 30 [.int .i64 30] (fun _=>True) (fun _=>False) rfl rfl ?aP (fun _ hk=>hk.elim) ?aF ?aO ?aB ?aS ?aL ?_;(case aP=>exact rfl);(case aB=>exact (by repeat (first|(with_reducible first|exact HB.out|apply zz03|apply zz01|apply zz02|refine zz10 ?_ GE355.out)|exact HB.out)));(case aF=>exact (fun _ _=>trivial));(case aO=>exact (by (with_reducible repeat (first|apply zz05|apply zz04|apply zz06));exact HO_3.out));(case aS=>exact (zz22 (by repeat (first|(with_reducible first|exact HB.out|apply zz03|apply zz01|apply zz02|refine zz10 ?_ GE355.out)|exact HB.out))));(case aL=>have:=LMc37.out;omega);intro v377 w40 ho hb hg hat;rw [← Ny376.out] at ho;have n0_:=zz00 (blk_grown (g:=gb355) (o:=.cells #[.int .i64 a0_0,.int .i64 a0_1,.bool true] 111 (0,0)) (by (with_reducible repeat (first|refine zz07 ?_ _|refine zz09 ?_|refine zz08 ?_ _));exact BK355.out) hg (Kd.R_ne HO_3.out BK355.out (by decide)));have n1_:=zz00 (hb);have n2_:=zz00 (ho);clear BK355;clear HB;clear HO_3;have BK355:=n0_;have HB:=n1_;have HO378:=n2_;clear n0_ n1_ n2_;clear ho hb hg hat)|((with_reducible refine zz24 (N:=21) rfl ?_);refine Kd.R_lit (Kd.int .i64) _ 3 ?hg (N:=21) ?hd (xs:=([29,30,29,30,29,30,29] : List Int)) (inner:=[.int .i64 29,.int .i64 30,.int .i64 29,.int .i64 30,.int .i64 29,.int .i64 30,.int .i64 29]) (ok:=fun _=>True) (okp:=fun _=>True) ?hr ?hp (fun _ hk=>hk) trivial (Below.refl _ _) (Nat.le_refl _) (by simp) ?_;(case hd=>rfl);(case hg=>rfl);(case hr=>first|(go_simp;done)|(go_simp;rfl));(case hp=>exact (Reps.one (show Kd.M (Kd.int .i64) _ _ _ 29 [.int .i64 29] from rfl) (Reps.one (show Kd.M (Kd.int .i64) _ _ _ 30 [.int .i64 30] from rfl) (Reps.one (show Kd.M (Kd.int .i64) _ _ _ 29 [.int .i64 29] from rfl) (Reps.one (show Kd.M (Kd.int .i64) _ _ _ 30 [.int .i64 30] from rfl) (Reps.one (show Kd.M (Kd.int .i64) _ _ _ 29 [.int .i64 29] from rfl) (Reps.one (show Kd.M (Kd.int .i64) _ _ _ 30 [.int .i64 30] from rfl) (Reps.one (show Kd.M (Kd.int .i64) _ _ _ 29 [.int .i64 29] from rfl) (Reps.none _ _)))))))));intro v380 w41 ho42 hb hg_ hnew_;clear hg_ hnew_;(first|rw [← Ny379.out] at ho42|(simp only [Int.reduceToNat] at ho42;rw [← Ny379.out] at ho42));have n0_:=zz00 (zz20 (by (with_reducible repeat (first|apply zz05|apply zz04|apply zz06));exact HO378.out) (Kd.R_base ho42) hb);have n1_:=zz00 (Kd.R_lower (Kd.R_new' ho42 (Kd.R_lt (by (with_reducible repeat (first|apply zz05|apply zz04|apply zz06));exact HO378.out))) (zz22 (by repeat (first|(with_reducible first|exact HB.out|apply zz03|apply zz01|apply zz02|refine zz10 ?_ GE355.out)|exact HB.out))));have n2_:=zz00 (zz34 (g:=gb355) (o:=.cells #[.int .i64 a0_0,.int .i64 a0_1,.bool true] 111 (0,0)) (by (with_reducible repeat (first|refine zz07 ?_ _|refine zz09 ?_|refine zz08 ?_ _));exact BK355.out) hb);have n3_:=zz00 (zz21 (by repeat (first|(with_reducible first|exact HB.out|apply zz03|apply zz01|apply zz02|refine zz10 ?_ GE355.out)|exact HB.out)) hb);clear HO378;clear BK355;clear HB;have HO378:=n0_;have HO381:=n1_;have BK355:=n2_;have HB:=n3_;clear n0_ n1_ n2_ n3_;clear hb ho42;obtain ⟨Ao44,co44,eo44⟩:=Kd.R_slice HO381.out;subst eo44)|((with_reducible refine gate_builtin (b:=.append) (xs:=#[.tmp 20,.tmp 21]) rfl ?_);at_builtin;refine Kd.R_append_rows (Kd.int .i64) (w0:=w) w.heap.size rfl (.tmp 20) (.tmp 21) 91 3 (.int .i64 0) 8 rfl Tryd.underlying91 info3 rfl (by decide) (by omega) v377 y376 y379 _ _ _ (fun k_=>some k_ ≠ (.slice Ao44 y379.length co44 : Value).ownBlock) (fun _=>False) rfl rfl ?aO ?aR (fun _ _ h=>h) (fun _ h=>h.elim) ?aF ?aB ?aS ?aL ?_;(case aR=>repeat (first|exact (Kd.R_reads' HO381.out).2.2|(with_reducible refine Kd.C_alloc ?_ _)|(with_reducible refine Kd.C_drewN ?_ _)|(with_reducible refine Kd.C_drew ?_)));(case aB=>exact (by repeat (first|(with_reducible first|exact HB.out|apply zz03|apply zz01|apply zz02|refine zz10 ?_ GE355.out)|exact HB.out)));(case aF=>exact (fun k_ hk=>Kd.fresh' (Kd.R_lt (by (with_reducible repeat (first|apply zz05|apply zz04|apply zz06));exact HO381.out)) k_ hk));(case aO=>exact (by (with_reducible repeat (first|apply zz05|apply zz04|apply zz06));exact Kd.R_mono HO378.out (fun _ hk=>hk.2)));(case aS=>exact (zz22 (by repeat (first|(with_reducible first|exact HB.out|apply zz03|apply zz01|apply zz02|refine zz10 ?_ GE355.out)|exact HB.out))));(case aL=>have:=LMc38.out;omega);intro v383 w43 ho hb hg hat;rw [← Ny382.out] at ho;have n0_:=zz00 (blk_grown (g:=gb355) (o:=.cells #[.int .i64 a0_0,.int .i64 a0_1,.bool true] 111 (0,0)) (by (with_reducible repeat (first|refine zz07 ?_ _|refine zz09 ?_|refine zz08 ?_ _));exact BK355.out) hg (Kd.R_ne HO378.out BK355.out (by decide)));have n1_:=zz00 (Kd.R_after (ok:=(fun _=>True)) (by (with_reducible repeat (first|apply zz05|apply zz04|apply zz06));exact HO381.out) hg hat);have n2_:=zz00 (hb);have n3_:=zz00 (ho);clear BK355;clear HO381;clear HB;clear HO378;have BK355:=n0_;have HO381:=n1_;have HB:=n2_;have HO384:=n3_;clear n0_ n1_ n2_ n3_;clear ho hb hg hat))
       go_ret
       exact ⟨_,by first|rfl|(simp [errW_none,errW_some] <;> rfl)|(simp [*,errW_none,errW_some] <;> rfl),by (with_reducible repeat (first|apply zz05|apply zz04|apply zz06));exact Kd.R_mono HO384.out (fun _ hk=>trivial),by repeat (first|(with_reducible first|exact HB.out|apply zz03|apply zz01|apply zz02|refine zz10 ?_ GE355.out)|exact HB.out)⟩
      ·
       rw [if_neg c38] at H
       exact absurd H (by simp)
     ·
      rw [if_neg c37] at H
      exact absurd H (by simp)
    ·
     replace c36 := zz32.mpr c36
     subst c36
     have H1 : ((some (([29,30,29,30,29,30,29] : List Int) : List Int)).bind fun y385=>(if x3_1.length + y385.length < 17592186044416 then (some (x3_1 ++ y385)) else (none))) = some r:=by rw [if_neg (show ¬ (false = true) by decide)] at H;exact H
     clear H
     have H := H1
     clear H1
     obtain ⟨y385, hy385⟩ : ∃ y_ : List Int, y_ = (([29, 30, 29, 30, 29, 30, 29] : List Int)) := ⟨_, rfl⟩
     replace H : (if x3_1.length + y385.length < 17592186044416 then (some (x3_1 ++ y385)) else (none)) = some r:=by first|(rw [hy385];with_reducible exact H)|(have H2_:=(Option.bind_some _ _).symm.trans H;rw [hy385];with_reducible exact H2_)|(have H2_:=(Option.bind_some _ _).symm.trans H;with_reducible exact H2_)|with_reducible exact H|(rw [hy385];exact H)|exact H
     have Ny385 := zz00 hy385
     clear hy385
     by_cases c45 : x3_1.length + y385.length < 17592186044416
     ·
      rw [if_pos c45] at H
      have LMc45 := zz00 c45
      clear c45
      obtain ⟨y388, hy388⟩ : ∃ y_ : List Int, y_ = (x3_1 ++ y385) := ⟨_, rfl⟩
      replace H : (some y388) = some r:=by first|(rw [hy388];with_reducible exact H)|(have H2_:=(Option.bind_some _ _).symm.trans H;rw [hy388];with_reducible exact H2_)|(have H2_:=(Option.bind_some _ _).symm.trans H;with_reducible exact H2_)|with_reducible exact H|(rw [hy388];exact H)|exact H
      have Ny388 := zz00 hy388
      clear hy388
      obtain rfl := Option.some.inj H
      have hcz46_0 : wc.cell? ⟨gb355, 0, none⟩ = some (.int .i64 a0_0) := (zz18 BK355.out 0).trans rfl
      have hcz46_1 : wc.cell? ⟨gb355, 1, none⟩ = some (.int .i64 a0_1) := (zz18 BK355.out 1).trans rfl
      have hcz46_2 : wc.cell? ⟨gb355, 2, none⟩ = some (.bool false) := (zz18 BK355.out 2).trans rfl
      have hfz46_0 := zz17 BK355.out 0
      have hfz46_1 := zz17 BK355.out 1
      have hfz46_2 := zz17 BK355.out 2
      go_wp2_with (first|((with_reducible refine zz24 (N:=21) rfl ?_);refine Kd.R_lit (Kd.int .i64) _ 3 ?hg (N:=21) ?hd (xs:=([29,30,29,30,29,30,29] : List Int)) (inner:=[.int .i64 29,.int .i64 30,.int .i64 29,.int .i64 30,.int .i64 29,.int .i64 30,.int .i64 29]) (ok:=fun _=>True) (okp:=fun _=>True) ?hr ?hp (fun _ hk=>hk) trivial (Below.refl _ _) (Nat.le_refl _) (by simp) ?_;(case hd=>rfl);(case hg=>rfl);(case hr=>first|(go_simp;done)|(go_simp;rfl));(case hp=>exact (Reps.one (show Kd.M (Kd.int .i64) _ _ _ 29 [.int .i64 29] from rfl) (Reps.one (show Kd.M (Kd.int .i64) _ _ _ 30 [.int .i64 30] from rfl) (Reps.one (show Kd.M (Kd.int .i64) _ _ _ 29 [.int .i64 29] from rfl) (Reps.one (show Kd.M (Kd.int .i64) _ _ _ 30 [.int .i64 30] from rfl) (Reps.one (show Kd.M (Kd.int .i64) _ _ _ 29 [.int .i64 29] from rfl) (Reps.one (show Kd.M (Kd.int .i64) _ _ _ 30 [.int .i64 30] from rfl) (Reps.one (show Kd.M (Kd.int .i64) _ _ _ 29 [.int .i64 29] from rfl) (Reps.none _ _)))))))));intro v386 w47 ho48 hb hg_ hnew_;clear hg_ hnew_;(first|rw [← Ny385.out] at ho48|(simp only [Int.reduceToNat] at ho48;rw [← Ny385.out] at ho48));have n0_:=zz00 (zz20 (by (with_reducible repeat (first|apply zz05|apply zz04|apply zz06));exact HO_3.out) (Kd.R_base ho48) hb);have n1_:=zz00 (Kd.R_lower (Kd.R_new' ho48 (Kd.R_lt (by (with_reducible repeat (first|apply zz05|apply zz04|apply zz06));exact HO_3.out))) (zz22 (by repeat (first|(with_reducible first|exact HB.out|apply zz03|apply zz01|apply zz02|refine zz10 ?_ GE355.out)|exact HB.out))));have n2_:=zz00 (zz34 (g:=gb355) (o:=.cells #[.int .i64 a0_0,.int .i64 a0_1,.bool false] 111 (0,0)) (by (with_reducible repeat (first|refine zz07 ?_ _|refine zz09 ?_|refine zz08 ?_ _));exact BK355.out) hb);have n3_:=zz00 (zz21 (by repeat (first|(with_reducible first|exact HB.out|apply zz03|apply zz01|apply zz02|refine zz10 ?_ GE355.out)|exact HB.out)) hb);clear HO_3;clear BK355;clear HB;have HO_3:=n0_;have HO387:=n1_;have BK355:=n2_;have HB:=n3_;clear n0_ n1_ n2_ n3_;clear hb ho48;obtain ⟨Ao50,co50,eo50⟩:=Kd.R_slice HO387.out;subst eo50)|((with_reducible refine gate_builtin (b:=.append) (xs:=#[.tmp 20,.tmp 21]) rfl ?_);at_builtin;refine Kd.R_append_rows (Kd.int .i64) (w0:=w) w.heap.size rfl (.tmp 20) (.tmp 21) 91 3 (.int .i64 0) 8 rfl Tryd.underlying91 info3 rfl (by decide) (by omega) v357 x3_1 y385 _ _ _ (fun k_=>some k_ ≠ (.slice Ao50 y385.length co50 : Value).ownBlock) (fun _=>False) rfl rfl ?aO ?aR (fun _ _ h=>h) (fun _ h=>h.elim) ?aF ?aB ?aS ?aL ?_;(case aR=>repeat (first|exact (Kd.R_reads' HO387.out).2.2|(with_reducible refine Kd.C_alloc ?_ _)|(with_reducible refine Kd.C_drewN ?_ _)|(with_reducible refine Kd.C_drew ?_)));(case aB=>exact (by repeat (first|(with_reducible first|exact HB.out|apply zz03|apply zz01|apply zz02|refine zz10 ?_ GE355.out)|exact HB.out)));(case aF=>exact (fun k_ hk=>Kd.fresh' (Kd.R_lt (by (with_reducible repeat (first|apply zz05|apply zz04|apply zz06));exact HO387.out)) k_ hk));(case aO=>exact (by (with_reducible repeat (first|apply zz05|apply zz04|apply zz06));exact Kd.R_mono HO_3.out (fun _ hk=>hk.2)));(case aS=>exact (zz22 (by repeat (first|(with_reducible first|exact HB.out|apply zz03|apply zz01|apply zz02|refine zz10 ?_ GE355.out)|exact HB.out))));(case aL=>have:=LMc45.out;omega);intro v389 w49 ho hb hg hat;rw [← Ny388.out] at ho;have n0_:=zz00 (blk_grown (g:=gb355) (o:=.cells #[.int .i64 a0_0,.int .i64 a0_1,.bool false] 111 (0,0)) (by (with_reducible repeat (first|refine zz07 ?_ _|refine zz09 ?_|refine zz08 ?_ _));exact BK355.out) hg (Kd.R_ne HO_3.out BK355.out (by decide)));have n1_:=zz00 (Kd.R_after (ok:=(fun _=>True)) (by (with_reducible repeat (first|apply zz05|apply zz04|apply zz06));exact HO387.out) hg hat);have n2_:=zz00 (hb);have n3_:=zz00 (ho);clear BK355;clear HO387;clear HB;clear HO_3;have BK355:=n0_;have HO387:=n1_;have HB:=n2_;have HO390:=n3_;clear n0_ n1_ n2_ n3_;clear ho hb hg hat))
      go_ret
      exact ⟨_,by first|rfl|(simp [errW_none,errW_some] <;> rfl)|(simp [*,errW_none,errW_some] <;> rfl),by (with_reducible repeat (first|apply zz05|apply zz04|apply zz06));exact Kd.R_mono HO390.out (fun _ hk=>trivial),by repeat (first|(with_reducible first|exact HB.out|apply zz03|apply zz01|apply zz02|refine zz10 ?_ GE355.out)|exact HB.out)⟩
     ·
      rw [if_neg c45] at H
      exact absurd H (by simp)

end Go.Proofs.YtflpddhoiafhcaaDoor.T
end

section
-- Written by wip/hprint.py of this repo (holes typed by hand, all else by a program) over the seat YtflpddhoiafhcaaDoor.
namespace Go.Proofs.YtflpddhoiafhcaaDoor.T
open Go.Proofs.YtflpddhoiafhcaaDoor.H
open Go.RowKit Go.Proofs.YtflpddhoiafhcaaDoorW.PrintWords Go.Proofs.YtflpddhoiafhcaaDoorW.PrintLast Go.Proofs.YtflpddhoiafhcaaDoorW.PrintMore
attribute [local go_sem] max2_int min2_int max_two min_two max_three min_three max_four min_four   -- for this text's walks alone
set_option linter.unusedVariables false
set_option linter.unusedSimpArgs false

theorem eqA111 (d : Nat) (w : World) (x0 y0 : Int) (x1 y1 : Int) (x2 y2 : Bool) :
    (Op.equalIn (d + 2) 111 (.agg #[.int .i64 x0, .int .i64 x1, .bool x2]) (.agg #[.int .i64 y0, .int .i64 y1, .bool y2])).run Tryd.prog w = .ok (x0 == y0 && (x1 == y1 && (x2 == y2))) w := by
  refine eqA_of Tryd.underlying111 (by kernel_rfl) ?_
  refine eqf_cons (by rfl) (by go_simp; rfl) (by go_simp; rfl) (by go_simp) ?_
  refine eqf_cons (by rfl) (by go_simp; rfl) (by go_simp; rfl) (by go_simp) ?_
  exact eqf_last (by rfl) (by go_simp; rfl) (by go_simp; rfl) (by go_simp)
end Go.Proofs.YtflpddhoiafhcaaDoor.T
end

section
-- Written by wip/hprint.py of this repo (holes typed by hand, all else by a program) over the seat YtflpddhoiafhcaaDoor.
namespace Go.Proofs.YtflpddhoiafhcaaDoor.T
open Go.Proofs.YtflpddhoiafhcaaDoor.H
open Go.RowKit Go.Proofs.YtflpddhoiafhcaaDoorW.PrintWords Go.Proofs.YtflpddhoiafhcaaDoorW.PrintLast Go.Proofs.YtflpddhoiafhcaaDoorW.PrintMore
attribute [local go_sem] max2_int min2_int max_two min_two max_three min_three max_four min_four   -- for this text's walks alone
set_option linter.unusedVariables false
set_option linter.unusedSimpArgs false

attribute [local go_sem high] eqA111
def r07_Type.f (a0 : Int) : Option (Int × Int × Bool × Bool) := if a0 < 1 then (some (0, 0, false, false)) else (if a0 > 14 then (some (0, 0, false, false)) else ((some (([1, 1, 2, 4, 4, 6, 6, 1, 1, 2, 4, 4, 6, 6] : List Int) : List Int)).bind fun y392 => ((some (([0, 2, 1, 1, 2, 0, 2, 0, 2, 1, 0, 2, 0, 2] : List Int) : List Int)).bind fun y395 => (if 0 ≤ (wrap64 (a0 - 1)) then (if (wrap64 (a0 - 1)) < (y392.length : Int) then (if (wrap64 (a0 - 1)) < (y395.length : Int) then (some (rd y392 (wrap64 (a0 - 1)), rd y395 (wrap64 (a0 - 1)), decide (a0 > 7), true)) else (none)) else (none)) else (none)))))
def r07_Type.T5 : Bool × List (List Nat × List Nat) := (true, [([], []), ([], []), ([1], [1]), ([0, 2], [0, 2]), ([3], [3]), ([], []), ([], []), ([6], [6]), ([5, 7], [5, 7]), ([8], [8]), ([], []), ([10], [10]), ([4, 9, 11], [4, 9, 11]), ([12, 0, 1, 2, 3, 4, 5, 6, 7, 8, 9, 10, 11, 12], [12]), ([13, 0, 1, 2, 3, 4, 5, 6, 7, 8, 9, 10, 11, 12, 13], [])])
def r07_Type.B5 : List Nat := [0, 0, 2, 7, 15, 0, 0, 64, 224, 480, 0, 1024, 4095, 8191, 16383]
theorem r07_Type.tab5 : rtab .any (opsOf Tryd.f197 5) = r07_Type.T5 := by kernel_rfl
theorem r07_Type.bits5 : waitsOk r07_Type.T5.2 r07_Type.B5 = true := by kernel_rfl
set_option maxHeartbeats 8000000 in
set_option maxRecDepth 100000 in
theorem r07_Type.calls (a0 : Int) (r1 : Int) (r2 : Int) (r3 : Bool) (r4 : Bool) (w : World) (h : r07_Type.f a0 = some (r1, r2, r3, r4)) :
  Calls Tryd.prog 197 #[.int .i64 a0] w fun e w' => e = .returned (.tuple #[.agg #[.int .i64 r1, .int .i64 r2, .bool r3], .bool r4]) ∧ Below w.heap.size w w' := by
 have hu111 := Tryd.underlying111
 have HB := zz00 (Below.refl w.heap.size w)
 have H : (if a0 < 1 then (some (0,0,false,false)) else (if a0 > 14 then (some (0,0,false,false)) else ((some (([1,1,2,4,4,6,6,1,1,2,4,4,6,6] : List Int) : List Int)).bind fun y392=>((some (([0,2,1,1,2,0,2,0,2,1,0,2,0,2] : List Int) : List Int)).bind fun y395=>(if 0 ≤ (wrap64 (a0 - 1)) then (if (wrap64 (a0 - 1)) < (y392.length : Int) then (if (wrap64 (a0 - 1)) < (y395.length : Int) then (some (rd y392 (wrap64 (a0 - 1)),rd y395 (wrap64 (a0 - 1)),decide (a0 > 7),true)) else (none)) else (none)) else (none)))))) = some (r1,r2,r3,r4):=h
 clear h
 by_cases c2 : a0 < 1
 ·
  rw [if_pos c2] at H
  have c2b0 : decide (a0 < 1) = true := decide_eq_true c2
  clear c2
  simp only [zz15, zz16] at H
  obtain ⟨rfl, rfl, rfl, rfl⟩ := H
  go_enter Tryd.func197, Tryd.ntmps197
  go_wp2_with (first|((with_reducible refine zz24 (N:=2) rfl ?_);refine zz30 ?hg (N:=2) ?hd (cs:=#[.int .i64 0,.int .i64 0,.bool false]) (t:=111) ?hr ?_;(case hd=>rfl);(case hg=>rfl);(case hr=>first|(go_simp;done)|(go_simp;rfl));intro gb391 hg w3 hbox hb;have n0_:=zz00 (zz21 (by repeat (first|(with_reducible first|exact HB.out|apply zz03|apply zz01|apply zz02)|exact HB.out)) hb);have n1_:=zz00 (hbox);have n2_:=zz00 ((by rw [hg];exact (zz22 (by repeat (first|(with_reducible first|exact HB.out|apply zz03|apply zz01|apply zz02)|exact HB.out))) : w.heap.size ≤ gb391));have n3_:=zz00 ((by rw [hg];exact (zz22 (by repeat (first|(with_reducible first|exact HB.out|apply zz03|apply zz01|apply zz02)|exact HB.out))) : w.heap.size ≤ gb391));clear HB;have HB:=n0_;have BK391:=n1_;have GW391:=n2_;have GE391:=n3_;clear n0_ n1_ n2_ n3_;clear hb hbox hg;have hcz4_0 : w3.cell? ⟨gb391,0,none⟩ = some (.int .i64 0):=(zz18 BK391.out 0).trans rfl;have hcz4_1 : w3.cell? ⟨gb391,1,none⟩ = some (.int .i64 0):=(zz18 BK391.out 1).trans rfl;have hcz4_2 : w3.cell? ⟨gb391,2,none⟩ = some (.bool false):=(zz18 BK391.out 2).trans rfl;have hfz4_0:=zz17 BK391.out 0;have hfz4_1:=zz17 BK391.out 1;have hfz4_2:=zz17 BK391.out 2))
  refine bodyPost_ret (results_ct rfl _ _ gb391 111 #[.int .i64 0,.int .i64 0,.bool false] (0,0) _ rfl (by (with_reducible repeat (first|refine zz07 ?_ _|refine zz09 ?_|refine zz08 ?_ _));refine zz35 (cs:=#[.int .i64 0,.int .i64 0,.bool false]) ?_ 2 _ rfl;(with_reducible repeat (first|refine zz07 ?_ _|refine zz09 ?_|refine zz08 ?_ _));refine zz35 (cs:=#[.int .i64 0,.int .i64 0,.bool false]) ?_ 1 _ rfl;(with_reducible repeat (first|refine zz07 ?_ _|refine zz09 ?_|refine zz08 ?_ _));refine zz35 (cs:=#[.int .i64 0,.int .i64 0,.bool false]) ?_ 0 _ rfl;(with_reducible repeat (first|refine zz07 ?_ _|refine zz09 ?_|refine zz08 ?_ _));exact BK391.out) Tryd.underlying111 rfl (by kernel_rfl)) rfl ?_
  exact ⟨by first|rfl|(simp [errW_none,errW_some] <;> rfl)|(simp [*,errW_none,errW_some] <;> rfl),by repeat (first|(with_reducible first|exact HB.out|apply zz03|apply zz01|apply zz02|refine zz10 ?_ GE391.out)|exact HB.out)⟩
 ·
  rw [if_neg c2] at H
  have c2b0 : decide (a0 < 1) = false := decide_eq_false c2
  clear c2
  by_cases c5 : a0 > 14
  ·
   rw [if_pos c5] at H
   have c5b0 : decide (14 < a0) = true := decide_eq_true c5
   clear c5
   simp only [zz15, zz16] at H
   obtain ⟨rfl, rfl, rfl, rfl⟩ := H
   go_enter Tryd.func197, Tryd.ntmps197
   go_wp2_with (first|((with_reducible refine zz24 (N:=2) rfl ?_);refine zz30 ?hg (N:=2) ?hd (cs:=#[.int .i64 0,.int .i64 0,.bool false]) (t:=111) ?hr ?_;(case hd=>rfl);(case hg=>rfl);(case hr=>first|(go_simp;done)|(go_simp;rfl));intro gb391 hg w6 hbox hb;have n0_:=zz00 (zz21 (by repeat (first|(with_reducible first|exact HB.out|apply zz03|apply zz01|apply zz02)|exact HB.out)) hb);have n1_:=zz00 (hbox);have n2_:=zz00 ((by rw [hg];exact (zz22 (by repeat (first|(with_reducible first|exact HB.out|apply zz03|apply zz01|apply zz02)|exact HB.out))) : w.heap.size ≤ gb391));have n3_:=zz00 ((by rw [hg];exact (zz22 (by repeat (first|(with_reducible first|exact HB.out|apply zz03|apply zz01|apply zz02)|exact HB.out))) : w.heap.size ≤ gb391));clear HB;have HB:=n0_;have BK391:=n1_;have GW391:=n2_;have GE391:=n3_;clear n0_ n1_ n2_ n3_;clear hb hbox hg;have hcz7_0 : w6.cell? ⟨gb391,0,none⟩ = some (.int .i64 0):=(zz18 BK391.out 0).trans rfl;have hcz7_1 : w6.cell? ⟨gb391,1,none⟩ = some (.int .i64 0):=(zz18 BK391.out 1).trans rfl;have hcz7_2 : w6.cell? ⟨gb391,2,none⟩ = some (.bool false):=(zz18 BK391.out 2).trans rfl;have hfz7_0:=zz17 BK391.out 0;have hfz7_1:=zz17 BK391.out 1;have hfz7_2:=zz17 BK391.out 2))
   refine bodyPost_ret (results_ct rfl _ _ gb391 111 #[.int .i64 0,.int .i64 0,.bool false] (0,0) _ rfl (by (with_reducible repeat (first|refine zz07 ?_ _|refine zz09 ?_|refine zz08 ?_ _));refine zz35 (cs:=#[.int .i64 0,.int .i64 0,.bool false]) ?_ 2 _ rfl;(with_reducible repeat (first|refine zz07 ?_ _|refine zz09 ?_|refine zz08 ?_ _));refine zz35 (cs:=#[.int .i64 0,.int .i64 0,.bool false]) ?_ 1 _ rfl;(with_reducible repeat (first|refine zz07 ?_ _|refine zz09 ?_|refine zz08 ?_ _));refine zz35 (cs:=#[.int .i64 0,.int .i64 0,.bool false]) ?_ 0 _ rfl;(with_reducible repeat (first|refine zz07 ?_ _|refine zz09 ?_|refine zz08 ?_ _));exact BK391.out) Tryd.underlying111 rfl (by kernel_rfl)) rfl ?_
   exact ⟨by first|rfl|(simp [errW_none,errW_some] <;> rfl)|(simp [*,errW_none,errW_some] <;> rfl),by repeat (first|(with_reducible first|exact HB.out|apply zz03|apply zz01|apply zz02|refine zz10 ?_ GE391.out)|exact HB.out)⟩
  ·
   rw [if_neg c5] at H
   have c5b0 : decide (14 < a0) = false := decide_eq_false c5
   clear c5
   obtain ⟨y392, hy392⟩ : ∃ y_ : List Int, y_ = (([1, 1, 2, 4, 4, 6, 6, 1, 1, 2, 4, 4, 6, 6] : List Int)) := ⟨_, rfl⟩
   replace H : ((some (([0,2,1,1,2,0,2,0,2,1,0,2,0,2] : List Int) : List Int)).bind fun y395=>(if 0 ≤ (wrap64 (a0 - 1)) then (if (wrap64 (a0 - 1)) < (y392.length : Int) then (if (wrap64 (a0 - 1)) < (y395.length : Int) then (some (rd y392 (wrap64 (a0 - 1)),rd y395 (wrap64 (a0 - 1)),decide (a0 > 7),true)) else (none)) else (none)) else (none))) = some (r1,r2,r3,r4):=by first|(rw [hy392];with_reducible exact H)|(have H2_:=(Option.bind_some _ _).symm.trans H;rw [hy392];with_reducible exact H2_)|(have H2_:=(Option.bind_some _ _).symm.trans H;with_reducible exact H2_)|with_reducible exact H|(rw [hy392];exact H)|exact H
   have Ny392 := zz00 hy392
   clear hy392
   obtain ⟨y395, hy395⟩ : ∃ y_ : List Int, y_ = (([0, 2, 1, 1, 2, 0, 2, 0, 2, 1, 0, 2, 0, 2] : List Int)) := ⟨_, rfl⟩
   replace H : (if 0 ≤ (wrap64 (a0 - 1)) then (if (wrap64 (a0 - 1)) < (y392.length : Int) then (if (wrap64 (a0 - 1)) < (y395.length : Int) then (some (rd y392 (wrap64 (a0 - 1)),rd y395 (wrap64 (a0 - 1)),decide (a0 > 7),true)) else (none)) else (none)) else (none)) = some (r1,r2,r3,r4):=by first|(rw [hy395];with_reducible exact H)|(have H2_:=(Option.bind_some _ _).symm.trans H;rw [hy395];with_reducible exact H2_)|(have H2_:=(Option.bind_some _ _).symm.trans H;with_reducible exact H2_)|with_reducible exact H|(rw [hy395];exact H)|exact H
   have Ny395 := zz00 hy395
   clear hy395
   obtain ⟨ji8, hji8⟩ : ∃ j_ : Int, (wrap64 (a0 - 1)) = j_ := ⟨_, rfl⟩
   replace H : (if 0 ≤ (ji8) then (if (ji8) < (y392.length : Int) then (if (ji8) < (y395.length : Int) then (some (rd y392 (ji8),rd y395 (ji8),decide (a0 > 7),true)) else (none)) else (none)) else (none)) = some (r1,r2,r3,r4):=by first|(rw [hji8] at H;exact H)|(simp only [hji8] at H ⊢;exact H)
   have hji8w : (IntKind.i64.wrap (a0 - 1)) = ji8 := (i64_w _).trans hji8
   by_cases c9 : 0 ≤ (ji8)
   ·
    rw [if_pos c9] at H
    have c9b0 : decide (0 ≤ (ji8)) = true := decide_eq_true c9
    clear c9
    by_cases c10 : (ji8) < (y392.length : Int)
    ·
     rw [if_pos c10] at H
     have c10b0 : decide ((ji8) < (y392.length : Int)) = true := decide_eq_true c10
     clear c10
     by_cases c11 : (ji8) < (y395.length : Int)
     ·
      rw [if_pos c11] at H
      have c11b0 : decide ((ji8) < (y395.length : Int)) = true := decide_eq_true c11
      clear c11
      simp only [zz15, zz16] at H
      obtain ⟨rfl, rfl, rfl, rfl⟩ := H
      go_enter Tryd.func197, Tryd.ntmps197
      try go_wp2_with (first|((with_reducible refine zz24 (N:=2) rfl ?_);refine zz30 ?hg (N:=2) ?hd (cs:=#[.int .i64 0,.int .i64 0,.bool false]) (t:=111) ?hr ?_;(case hd=>rfl);(case hg=>rfl);(case hr=>first|(go_simp;done)|(go_simp;rfl));intro gb391 hg w12 hbox hb;have n0_:=zz00 (zz21 (by repeat (first|(with_reducible first|exact HB.out|apply zz03|apply zz01|apply zz02)|exact HB.out)) hb);have n1_:=zz00 (hbox);have n2_:=zz00 ((by rw [hg];exact (zz22 (by repeat (first|(with_reducible first|exact HB.out|apply zz03|apply zz01|apply zz02)|exact HB.out))) : w.heap.size ≤ gb391));have n3_:=zz00 ((by rw [hg];exact (zz22 (by repeat (first|(with_reducible first|exact HB.out|apply zz03|apply zz01|apply zz02)|exact HB.out))) : w.heap.size ≤ gb391));clear HB;have HB:=n0_;have BK391:=n1_;have GW391:=n2_;have GE391:=n3_;clear n0_ n1_ n2_ n3_;clear hb hbox hg)|((with_reducible refine zz24 (N:=13) rfl ?_);refine Kd.R_lit (Kd.int .i64) _ 3 ?hg (N:=13) ?hd (xs:=([1,1,2,4,4,6,6,1,1,2,4,4,6,6] : List Int)) (inner:=[.int .i64 1,.int .i64 1,.int .i64 2,.int .i64 4,.int .i64 4,.int .i64 6,.int .i64 6,.int .i64 1,.int .i64 1,.int .i64 2,.int .i64 4,.int .i64 4,.int .i64 6,.int .i64 6]) (ok:=fun _=>True) (okp:=fun _=>True) ?hr ?hp (fun _ hk=>hk) trivial (Below.refl _ _) (Nat.le_refl _) (by simp) ?_;(case hd=>rfl);(case hg=>rfl);(case hr=>first|(go_simp;done)|(go_simp;rfl));(case hp=>exact (Reps.one (show Kd.M (Kd.int .i64) _ _ _ 1 [.int .i64 1] from rfl) (Reps.one (show Kd.M (Kd.int .i64) _ _ _ 1 [.int .i64 1] from rfl) (Reps.one (show Kd.M (Kd.int .i64) _ _ _ 2 [.int .i64 2] from rfl) (Reps.one (show Kd.M (Kd.int .i64) _ _ _ 4 [.int .i64 4] from rfl) (Reps.one (show Kd.M (Kd.int .i64) _ _ _ 4 [.int .i64 4] from rfl) (Reps.one (show Kd.M (Kd.int .i64) _ _ _ 6 [.int .i64 6] from rfl) (Reps.one (show Kd.M (Kd.int .i64) _ _ _ 6 [.int .i64 6] from rfl) (Reps.one (show Kd.M (Kd.int .i64) _ _ _ 1 [.int .i64 1] from rfl) (Reps.one (show Kd.M (Kd.int .i64) _ _ _ 1 [.int .i64 1] from rfl) (Reps.one (show Kd.M (Kd.int .i64) _ _ _ 2 [.int .i64 2] from rfl) (Reps.one (show Kd.M (Kd.int .i64) _ _ _ 4 [.int .i64 4] from rfl) (Reps.one (show Kd.M (Kd.int .i64) _ _ _ 4 [.int .i64 4] from rfl) (Reps.one (show Kd.M (Kd.int .i64) _ _ _ 6 [.int .i64 6] from rfl) (Reps.one (show Kd.M (Kd.int .i64) _ _ _ 6 [.int .i64 6] from rfl) (Reps.none _ _))))))))))))))));intro v393 w13 ho14 hb hg_ hnew_;clear hg_ hnew_;(first|rw [← Ny392.out] at ho14|(simp only [Int.reduceToNat] at ho14;rw [← Ny392.out] at ho14));have n0_:=zz00 (Kd.R_lower ho14 (zz22 (by repeat (first|(with_reducible first|exact HB.out|apply zz03|apply zz01|apply zz02|refine zz10 ?_ GE391.out)|exact HB.out))));have n1_:=zz00 (zz34 (g:=gb391) (o:=.cells #[.int .i64 0,.int .i64 0,.bool false] 111 (0,0)) (by (with_reducible repeat (first|refine zz07 ?_ _|refine zz09 ?_|refine zz08 ?_ _));exact BK391.out) hb);have n2_:=zz00 (zz21 (by repeat (first|(with_reducible first|exact HB.out|apply zz03|apply zz01|apply zz02|refine zz10 ?_ GE391.out)|exact HB.out)) hb);clear BK391;clear HB;have HO394:=n0_;have BK391:=n1_;have HB:=n2_;clear n0_ n1_ n2_;clear hb ho14)|((with_reducible refine zz24 (N:=14) rfl ?_);refine Kd.R_lit (Kd.int .i64) _ 3 ?hg (N:=14) ?hd (xs:=([0,2,1,1,2,0,2,0,2,1,0,2,0,2] : List Int)) (inner:=[.int .i64 0,.int .i64 2,.int .i64 1,.int .i64 1,.int .i64 2,.int .i64 0,.int .i64 2,.int .i64 0,.int .i64 2,.int .i64 1,.int .i64 0,.int .i64 2,.int .i64 0,.int .i64 2]) (ok:=fun _=>True) (okp:=fun _=>True) ?hr ?hp (fun _ hk=>hk) trivial (Below.refl _ _) (Nat.le_refl _) (by simp) ?_;(case hd=>rfl);(case hg=>rfl);(case hr=>first|(go_simp;done)|(go_simp;rfl));(case hp=>exact (Reps.one (show Kd.M (Kd.int .i64) _ _ _ 0 [.int .i64 0] from rfl) (Reps.one (show Kd.M (Kd.int .i64) _ _ _ 2 [.int .i64 2] from rfl) (Reps.one (show Kd.M (Kd.int .i64) _ _ _ 1 [.int .i64 1] from rfl) (Reps.one (show Kd.M (Kd.int .i64) _ _ _ 1 [.int .i64 1] from rfl) (Reps.one (show Kd.M (Kd.int .i64) _ _ _ 2 [.int .i64 2] from rfl) (Reps.one (show Kd.M (Kd.int .i64) _ _ _ 0 [.int .i64 0] from rfl) (Reps.one (show Kd.M (Kd.int .i64) _ _ _ 2 [.int .i64 2] from rfl) (Reps.one (show Kd.M (Kd.int .i64) _ _ _ 0 [.int .i64 0] from rfl) (Reps.one (show Kd.M (Kd.int .i64) _ _ _ 2 [.int .i64 2] from rfl) (Reps.one (show Kd.M (Kd.int .i64) _ _ _ 1 [.int .i64 1] from rfl) (Reps.one (show Kd.M (Kd.int .i64) _ _ _ 0 [.int .i64 0] from rfl) (Reps.one (show Kd.M (Kd.int .i64) _ _ _ 2 [.int .i64 2] from rfl) (Reps.one (show Kd.M (Kd.int .i64) _ _ _ 0 [.int .i64 0] from rfl) (Reps.one (show Kd.M (Kd.int .i64) _ _ _ 2 [.int .i64 2] from rfl) (Reps.none _ _))))))))))))))));intro v396 w15 ho16 hb hg_ hnew_;clear hg_ hnew_;(first|rw [← Ny395.out] at ho16|(simp only [Int.reduceToNat] at ho16;rw [← Ny395.out] at ho16));have n0_:=zz00 (zz20 (by (with_reducible repeat (first|apply zz05|apply zz04|apply zz06));exact HO394.out) (Kd.R_base ho16) hb);have n1_:=zz00 (Kd.R_lower (Kd.R_new' ho16 (Kd.R_lt (by (with_reducible repeat (first|apply zz05|apply zz04|apply zz06));exact HO394.out))) (zz22 (by repeat (first|(with_reducible first|exact HB.out|apply zz03|apply zz01|apply zz02|refine zz10 ?_ GE391.out)|exact HB.out))));have n2_:=zz00 (zz34 (g:=gb391) (o:=.cells #[.int .i64 0,.int .i64 0,.bool false] 111 (0,0)) (by (with_reducible repeat (first|refine zz07 ?_ _|refine zz09 ?_|refine zz08 ?_ _));exact BK391.out) hb);have n3_:=zz00 (zz21 (by repeat (first|(with_reducible first|exact HB.out|apply zz03|apply zz01|apply zz02|refine zz10 ?_ GE391.out)|exact HB.out)) hb);clear HO394;clear BK391;clear HB;have HO394:=n0_;have HO397:=n1_;have BK391:=n2_;have HB:=n3_;clear n0_ n1_ n2_ n3_;clear hb ho16))
      have n0_ := zz00 (zz06 HO394.out)
      have n1_ := zz00 (zz06 HO397.out)
      have n2_ := zz00 (zz09 BK391.out)
      have n3_ := zz00 (zz02 HB.out)
      clear HO394
      clear HO397
      clear BK391
      clear HB
      have HO394 := n0_
      have HO397 := n1_
      have BK391 := n2_
      have HB := n3_
      clear n0_ n1_ n2_ n3_
      obtain ⟨Ao18, co18, eo18⟩ := Kd.R_slice HO394.out
      (first | subst eo18 | (injection eo18 with f1_ f2_ f3_; have f4_ := f1_.symm; have f5_ := f3_.symm; clear f1_ f2_ f3_; subst f4_; subst f5_))
      have p398 : 0 ≤ ((ji8) : Int) := zz31 (by first | (with_reducible assumption) | assumption)
      have q398 : (ji8) < (y392.length : Int) := zz31 (by first | (with_reducible assumption) | assumption)
      obtain ⟨ad398, e398, hx398_0⟩ := Kd.at_int (Kd.R_reads' HO394.out).2.2 (ji8) p398 q398
      cases e398
      replace p398 := eq_true p398
      replace q398 := eq_true q398
      obtain ⟨Ao19, co19, eo19⟩ := Kd.R_slice HO397.out
      (first | subst eo19 | (injection eo19 with f1_ f2_ f3_; have f4_ := f1_.symm; have f5_ := f3_.symm; clear f1_ f2_ f3_; subst f4_; subst f5_))
      have p399 : 0 ≤ ((ji8) : Int) := zz31 (by first | (with_reducible assumption) | assumption)
      have q399 : (ji8) < (y395.length : Int) := zz31 (by first | (with_reducible assumption) | assumption)
      obtain ⟨ad399, e399, hx399_0⟩ := Kd.at_int (Kd.R_reads' HO397.out).2.2 (ji8) p399 q399
      cases e399
      replace p399 := eq_true p399
      replace q399 := eq_true q399
      refine start_ (n:=15) (S:=fun w'=>w'.cell? (ad398.add ((ji8)).toNat) = some (.int .i64 (rd y392 (ji8))) ∧ w'.cell? (ad399.add ((ji8)).toNat) = some (.int .i64 (rd y395 (ji8)))) (ds:=[]) #[false,false,false,false,false,false,false,false,false,false,false,false,false,false,false] (by kernel_rfl) rfl rfl ⟨hx398_0,hx399_0⟩ (fun hHeld=>?_);refine with_tabW r07_Type.tab5 r07_Type.bits5 (fun HT_ HW_=>?_)
      generalize w15.drew = w17 at HO394 HO397 BK391 HB hx398_0 hx399_0 hHeld ⊢
      refine pure_ (i:=0) (N:=some 15) (v:=?_) (a':=?_) #[true,false,false,false,false,false,false,false,false,false,false,false,false,false,false] rfl rfl (any_of HT_.out (by kernel_rfl)) (fun _ _ _ h=>h) (Or.inl ⟨by rfl,?_⟩) ?_ ?_
      rotate_left
      ·
       intro w'
       go_simp
       with_reducible rfl
      rotate_left
      ·
       simp only [Act.put,zz11,zz12,zz13,i64_w,i32_w]
       rfl
      refine pure_ (i:=1) (N:=some 16) (v:=?_) (a':=?_) #[true,true,false,false,false,false,false,false,false,false,false,false,false,false,false] rfl rfl (any_of HT_.out (by kernel_rfl)) (fun _ _ _ h=>h) (Or.inl ⟨by rfl,?_⟩) ?_ ?_
      rotate_left
      ·
       intro w'
       go_simp
       with_reducible rfl
      rotate_left
      ·
       simp only [Act.put,zz11,zz12,zz13,i64_w,i32_w]
       rfl
      refine pure_ (i:=2) (N:=some 17) (v:=?_) (a':=?_) #[true,true,true,false,false,false,false,false,false,false,false,false,false,false,false] rfl rfl (any_of HT_.out (by kernel_rfl)) (fun _ _ _ h=>h) (Or.inl ⟨by rfl,?_⟩) ?_ ?_
      rotate_left
      ·
       intro w'
       go_simp
       with_reducible rfl
      rotate_left
      ·
       simp only [Act.put,zz11,zz12,zz13,i64_w,i32_w]
       rfl
      refine pure_ (i:=3) (N:=some 18) (v:=?_) (a':=?_) #[true,true,true,true,false,false,false,false,false,false,false,false,false,false,false] rfl rfl (any_of HT_.out (by kernel_rfl)) (fun _ _ _ h=>h) (Or.inl ⟨by rfl,?_⟩) ?_ ?_
      rotate_left
      ·
       intro w'
       go_simp
       with_reducible rfl
      rotate_left
      ·
       simp only [Act.put,zz11,zz12,zz13,i64_w,i32_w]
       rfl
      refine pure_ (i:=5) (N:=some 20) (v:=?_) (a':=?_) #[true,true,true,true,false,true,false,false,false,false,false,false,false,false,false] rfl rfl (any_of HT_.out (by kernel_rfl)) (fun _ _ _ h=>h) (Or.inl ⟨by rfl,?_⟩) ?_ ?_
      rotate_left
      ·
       intro w'
       go_simp
       with_reducible rfl
      rotate_left
      ·
       simp only [Act.put,zz11,zz12,zz13,i64_w,i32_w]
       rfl
      refine pure_ (i:=6) (N:=some 21) (v:=?_) (a':=?_) #[true,true,true,true,false,true,true,false,false,false,false,false,false,false,false] rfl rfl (any_of HT_.out (by kernel_rfl)) (fun _ _ _ h=>h) (Or.inl ⟨by rfl,?_⟩) ?_ ?_
      rotate_left
      ·
       intro w'
       go_simp
       with_reducible rfl
      rotate_left
      ·
       simp only [Act.put,zz11,zz12,zz13,i64_w,i32_w]
       rfl
      refine pure_ (i:=7) (N:=some 22) (v:=?_) (a':=?_) #[true,true,true,true,false,true,true,true,false,false,false,false,false,false,false] rfl rfl (any_of HT_.out (by kernel_rfl)) (fun _ _ _ h=>h) (Or.inl ⟨by rfl,?_⟩) ?_ ?_
      rotate_left
      ·
       intro w'
       go_simp
       with_reducible rfl
      rotate_left
      ·
       simp only [Act.put,zz11,zz12,zz13,i64_w,i32_w]
       rfl
      refine pure_ (i:=8) (N:=some 23) (v:=?_) (a':=?_) #[true,true,true,true,false,true,true,true,true,false,false,false,false,false,false] rfl rfl (any_of HT_.out (by kernel_rfl)) (fun _ _ _ h=>h) (Or.inl ⟨by rfl,?_⟩) ?_ ?_
      rotate_left
      ·
       intro w'
       go_simp
       with_reducible rfl
      rotate_left
      ·
       simp only [Act.put,zz11,zz12,zz13,i64_w,i32_w]
       rfl
      refine pure_ (i:=10) (N:=some 25) (v:=?_) (a':=?_) #[true,true,true,true,false,true,true,true,true,false,true,false,false,false,false] rfl rfl (any_of HT_.out (by kernel_rfl)) (fun _ _ _ h=>h) (Or.inl ⟨by rfl,?_⟩) ?_ ?_
      rotate_left
      ·
       intro w'
       go_simp
       with_reducible rfl
      rotate_left
      ·
       simp only [Act.put,zz11,zz12,zz13,i64_w,i32_w]
       rfl
      refine pure_ (i:=11) (N:=some 26) (v:=?_) (a':=?_) #[true,true,true,true,false,true,true,true,true,false,true,true,false,false,false] rfl rfl (any_of HT_.out (by kernel_rfl)) (fun _ _ _ h=>h) (Or.inl ⟨by rfl,?_⟩) ?_ ?_
      rotate_left
      ·
       intro w'
       go_simp
       with_reducible rfl
      rotate_left
      ·
       simp only [Act.put,zz11,zz12,zz13,i64_w,i32_w]
       rfl
      refine take_ (i:=4) (N:=some 19) (v:=?_) (a':=?_) #[true,true,true,true,true,true,true,true,true,false,true,true,false,false,false] rfl rfl (take_ofW HT_.out HW_.out (by kernel_rfl)) (fun _ _ _ h=>h) (Or.inl ⟨by rfl,?_⟩) hHeld ?_ ?_
      rotate_left
      ·
       rintro w' ⟨s0, s1⟩
       go_simp
       with_reducible rfl
      rotate_left
      ·
       simp only [Act.put,zz11,zz12,zz13,i64_w,i32_w]
       rfl
      refine take_ (i:=9) (N:=some 24) (v:=?_) (a':=?_) #[true,true,true,true,true,true,true,true,true,true,true,true,false,false,false] rfl rfl (take_ofW HT_.out HW_.out (by kernel_rfl)) (fun _ _ _ h=>h) (Or.inl ⟨by rfl,?_⟩) hHeld ?_ ?_
      rotate_left
      ·
       rintro w' ⟨s0, s1⟩
       go_simp
       with_reducible rfl
      rotate_left
      ·
       simp only [Act.put,zz11,zz12,zz13,i64_w,i32_w]
       rfl
      refine pure_ (i:=12) (N:=some 27) (v:=?_) (a':=?_) #[true,true,true,true,true,true,true,true,true,true,true,true,true,false,false] rfl rfl (any_of HT_.out (by kernel_rfl)) (fun _ _ _ h=>h) (Or.inl ⟨by rfl,?_⟩) ?_ ?_
      rotate_left
      ·
       intro w'
       go_simp
       with_reducible rfl
      rotate_left
      ·
       simp only [Act.put,zz11,zz12,zz13,i64_w,i32_w]
       rfl
      refine one_ (i:=13) (N:=none) #[true,true,true,true,true,true,true,true,true,true,true,true,true,true,false] rfl rfl (one_of HT_.out (by kernel_rfl)) (by decide) (fun K hK=>?_)
      have hs20 : w17.cell? ⟨gb391, 0, none⟩ = some (.int .i64 0) := (zz18 BK391.out 0).trans rfl
      have hfs20 := zz17 BK391.out 0
      have hs21 : w17.cell? ⟨gb391, 1, none⟩ = some (.int .i64 0) := (zz18 BK391.out 1).trans rfl
      have hfs21 := zz17 BK391.out 1
      have hs22 : w17.cell? ⟨gb391, 2, none⟩ = some (.bool false) := (zz18 BK391.out 2).trans rfl
      have hfs22 := zz17 BK391.out 2
      refine skip_ (w1 := ?_) (by rfl) rfl ?_ ?_
      rotate_left
      ·
       go_simp
       rfl
      refine hK.out _ _ ⟨((cell_far (p:=⟨gb391,_,none⟩) (by first|exact Kd.own_blk (Kd.R_ne HO394.out BK391.out (by decide))|(rw [add_block];exact Kd.own_blk (Kd.R_ne HO394.out BK391.out (by decide)))|(show (Addr.add _ _).block ≠ _;rw [add_block];exact Kd.own_blk (Kd.R_ne HO394.out BK391.out (by decide)))|(dsimp only;exact Kd.own_blk (Kd.R_ne HO394.out BK391.out (by decide)))) _).trans (((cell_far (p:=⟨gb391,_,none⟩) (by first|exact Kd.own_blk (Kd.R_ne HO394.out BK391.out (by decide))|(rw [add_block];exact Kd.own_blk (Kd.R_ne HO394.out BK391.out (by decide)))|(show (Addr.add _ _).block ≠ _;rw [add_block];exact Kd.own_blk (Kd.R_ne HO394.out BK391.out (by decide)))|(dsimp only;exact Kd.own_blk (Kd.R_ne HO394.out BK391.out (by decide)))) _).trans (((cell_far (p:=⟨gb391,_,none⟩) (by first|exact Kd.own_blk (Kd.R_ne HO394.out BK391.out (by decide))|(rw [add_block];exact Kd.own_blk (Kd.R_ne HO394.out BK391.out (by decide)))|(show (Addr.add _ _).block ≠ _;rw [add_block];exact Kd.own_blk (Kd.R_ne HO394.out BK391.out (by decide)))|(dsimp only;exact Kd.own_blk (Kd.R_ne HO394.out BK391.out (by decide)))) _).trans (hHeld.1)))))),((cell_far (p:=⟨gb391,_,none⟩) (by first|exact Kd.own_blk (Kd.R_ne HO397.out BK391.out (by decide))|(rw [add_block];exact Kd.own_blk (Kd.R_ne HO397.out BK391.out (by decide)))|(show (Addr.add _ _).block ≠ _;rw [add_block];exact Kd.own_blk (Kd.R_ne HO397.out BK391.out (by decide)))|(dsimp only;exact Kd.own_blk (Kd.R_ne HO397.out BK391.out (by decide)))) _).trans (((cell_far (p:=⟨gb391,_,none⟩) (by first|exact Kd.own_blk (Kd.R_ne HO397.out BK391.out (by decide))|(rw [add_block];exact Kd.own_blk (Kd.R_ne HO397.out BK391.out (by decide)))|(show (Addr.add _ _).block ≠ _;rw [add_block];exact Kd.own_blk (Kd.R_ne HO397.out BK391.out (by decide)))|(dsimp only;exact Kd.own_blk (Kd.R_ne HO397.out BK391.out (by decide)))) _).trans (((cell_far (p:=⟨gb391,_,none⟩) (by first|exact Kd.own_blk (Kd.R_ne HO397.out BK391.out (by decide))|(rw [add_block];exact Kd.own_blk (Kd.R_ne HO397.out BK391.out (by decide)))|(show (Addr.add _ _).block ≠ _;rw [add_block];exact Kd.own_blk (Kd.R_ne HO397.out BK391.out (by decide)))|(dsimp only;exact Kd.own_blk (Kd.R_ne HO397.out BK391.out (by decide)))) _).trans (hHeld.2))))))⟩ (fun hHeld=>?_)
      clear hK K
      refine pure_ (i:=14) (N:=some 3) (v:=?_) (a':=?_) #[true,true,true,true,true,true,true,true,true,true,true,true,true,true,true] rfl rfl (any_of HT_.out (by kernel_rfl)) (fun _ _ _ h=>h) (Or.inl ⟨by rfl,?_⟩) ?_ ?_
      rotate_left
      ·
       intro w'
       go_simp
       with_reducible rfl
      rotate_left
      ·
       simp only [Act.put,zz11,zz12,zz13,i64_w,i32_w]
       rfl
      refine done_ (done_of HT_.out (by kernel_rfl)) ?_
      try go_wp2
      refine bodyPost_ret (results_ct rfl _ _ gb391 111 #[.int .i64 (rd y392 (ji8)),.int .i64 (rd y395 (ji8)),.bool (decide (a0 > 7))] (0,0) _ rfl (by (with_reducible repeat (first|refine zz07 ?_ _|refine zz09 ?_|refine zz08 ?_ _));refine zz35 (cs:=#[.int .i64 (rd y392 (ji8)),.int .i64 (rd y395 (ji8)),.bool false]) ?_ 2 _ rfl;(with_reducible repeat (first|refine zz07 ?_ _|refine zz09 ?_|refine zz08 ?_ _));refine zz35 (cs:=#[.int .i64 (rd y392 (ji8)),.int .i64 0,.bool false]) ?_ 1 _ rfl;(with_reducible repeat (first|refine zz07 ?_ _|refine zz09 ?_|refine zz08 ?_ _));refine zz35 (cs:=#[.int .i64 0,.int .i64 0,.bool false]) ?_ 0 _ rfl;(with_reducible repeat (first|refine zz07 ?_ _|refine zz09 ?_|refine zz08 ?_ _));exact BK391.out) Tryd.underlying111 rfl (by kernel_rfl)) rfl ?_
      exact ⟨by first|rfl|(simp [errW_none,errW_some] <;> rfl)|(simp only [← hji8];first|rfl|(simp [errW_none,errW_some] <;> rfl))|(simp [*,errW_none,errW_some] <;> rfl),by repeat (first|(with_reducible first|exact HB.out|apply zz03|apply zz01|apply zz02|refine zz10 ?_ GE391.out)|exact HB.out)⟩
     ·
      rw [if_neg c11] at H
      exact absurd H (by simp)
    ·
     rw [if_neg c10] at H
     exact absurd H (by simp)
   ·
    rw [if_neg c9] at H
    exact absurd H (by simp)

def r07_Number.l0 : Nat → Int → Int → Int → Bool → Option (Int)
  | 0, _, _, _, _ => none
  | k + 1, x3, x401000, x401001, x401002 => if x3 ≤ 14 then ((r07_Type.f x3).bind fun bt401 => (if (bt401.1 == x401000 && (bt401.2.1 == x401001 && (bt401.2.2.1 == x401002))) = true then (some x3) else (r07_Number.l0 k (wrap64 (x3 + 1)) x401000 x401001 x401002))) else (some 0)
def r07_Number.f (k : Nat) (a0_0 : Int) (a0_1 : Int) (a0_2 : Bool) : Option (Int) := r07_Number.l0 k 1 a0_0 a0_1 a0_2
theorem r07_Number.mono_l : ∀ k, (∀ y0 y1 y2 y3, LeO (r07_Number.l0 k y0 y1 y2 y3) (r07_Number.l0 (k + 1) y0 y1 y2 y3))
 | 0 => fun _ _ _ _ r h => by simp [r07_Number.l0] at h
 | k + 1 => by
  have ih0 := r07_Number.mono_l k
  ·
   intro y0 y1 y2 y3
   unfold r07_Number.l0
   repeat' first
   | (with_reducible exact ih0 _ _ _ _)
   | (with_reducible exact LeO.refl _)
   | (with_reducible exact LeO.none _)
   | (with_reducible refine LeO.ite ?_ ?_)
   | (with_reducible refine LeO.bind ?_ (fun _ => ?_))
   | exact ih0 _ _ _ _
   | exact LeO.none _
   | refine LeO.ite ?_ ?_
   | refine LeO.bind ?_ (fun _ => ?_)
theorem r07_Number.mono : ∀ a0 a1 a2 k, LeO (r07_Number.f k a0 a1 a2) (r07_Number.f (k + 1) a0 a1 a2) := by
 intro a0 a1 a2 k
 have ih0 := r07_Number.mono_l k
 unfold r07_Number.f
 repeat' first
   | (with_reducible exact ih0 _ _ _ _)
   | (with_reducible exact LeO.refl _)
   | (with_reducible exact LeO.none _)
   | (with_reducible refine LeO.ite ?_ ?_)
   | (with_reducible refine LeO.bind ?_ (fun _ => ?_))
   | exact ih0 _ _ _ _
   | exact LeO.none _
   | refine LeO.ite ?_ ?_
   | refine LeO.bind ?_ (fun _ => ?_)
set_option maxHeartbeats 8000000 in
set_option maxRecDepth 100000 in
theorem r07_Number.calls (k : Nat) (a0_0 : Int) (a0_1 : Int) (a0_2 : Bool) (r : Int) (w : World) (h : r07_Number.f k a0_0 a0_1 a0_2 = some r) :
  Calls Tryd.prog 186 #[.agg #[.int .i64 a0_0, .int .i64 a0_1, .bool a0_2]] w fun e w' => e = .returned (.int .i64 r) ∧ Below w.heap.size w w' := by
 have hu111 := Tryd.underlying111
 have HB := zz00 (Below.refl w.heap.size w)
 have H : (r07_Number.l0 k 1 a0_0 a0_1 a0_2) = some r := h
 clear h
 have H' := zz00 H
 clear H
 go_enter Tryd.func186, Tryd.ntmps186
 go_wp2_with (first|((with_reducible refine zz24 (N:=1) rfl ?_);refine zz30 ?hg (N:=1) ?hd (cs:=#[.int .i64 a0_0,.int .i64 a0_1,.bool a0_2]) (t:=111) ?hr ?_;(case hd=>rfl);(case hg=>rfl);(case hr=>first|(go_simp;done)|(go_simp;rfl));intro gb400 hg w2 hbox hb;have n0_:=zz00 (zz21 (by repeat (first|(with_reducible first|exact HB.out|apply zz03|apply zz01|apply zz02)|exact HB.out)) hb);have n1_:=zz00 (hbox);have n2_:=zz00 ((by rw [hg];exact (zz22 (by repeat (first|(with_reducible first|exact HB.out|apply zz03|apply zz01|apply zz02)|exact HB.out))) : w.heap.size ≤ gb400));have n3_:=zz00 ((by rw [hg];exact (zz22 (by repeat (first|(with_reducible first|exact HB.out|apply zz03|apply zz01|apply zz02)|exact HB.out))) : w.heap.size ≤ gb400));clear HB;have HB:=n0_;have BK400:=n1_;have GW400:=n2_;have GE400:=n3_;clear n0_ n1_ n2_ n3_;clear hb hbox hg))
 go_loopg [3] k (fun kq v3 w'=>∃ (x3_1 : Int),v3 = .int .i64 x3_1 ∧ Aside0 (r07_Number.l0 kq x3_1 a0_0 a0_1 a0_2 = some r) ∧ Aside0 (kq ≤ k) ∧ Aside0 (w'.heap[gb400]? = some (.cells #[.int .i64 a0_0,.int .i64 a0_1,.bool a0_2] 111 (0,0))) ∧ Aside0 (Below w.heap.size w w'))
 case atStart=>exact ⟨(1),(by first|rfl|(simp;done)|(simp [*];done)),H',⟨Nat.le_refl _⟩,⟨by (with_reducible repeat (first|refine zz07 ?_ _|refine zz09 ?_|refine zz08 ?_ _));exact BK400.out⟩,⟨by repeat (first|(with_reducible first|exact HB.out|apply zz03|apply zz01|apply zz02|refine zz10 ?_ GE400.out)|exact HB.out)⟩⟩
 case round =>
  clear H'
  try clear c1
  try clear p2
  obtain ⟨x3_1, rfl, HA, HK1, BK400, HB⟩ := hrel
  cases gk with
  | zero => exact absurd HA.out (by simp [r07_Number.l0])
  | succ k1 =>
   have H := HA.out
   clear HA
   simp only [r07_Number.l0] at H
   by_cases c3 : x3_1 ≤ 14
   ·
    rw [if_pos c3] at H
    have c3b0 : decide (x3_1 ≤ 14) = true := decide_eq_true c3
    clear c3
    replace H := zz14.mp H
    obtain ⟨⟨t401, t402, t403, t404⟩, A40, H⟩ := H
    replace H : (if (t401 == a0_0 && (t402 == a0_1 && (t403 == a0_2))) = true then (some x3_1) else (r07_Number.l0 k1 (wrap64 (x3_1 + 1)) a0_0 a0_1 a0_2)) = some r := H
    have A4 := zz00 A40
    clear A40
    by_cases c5 : (t401 == a0_0 && (t402 == a0_1 && (t403 == a0_2))) = true
    ·
     rw [if_pos c5] at H
     have c5b0 : (t401 == a0_0 && (t402 == a0_1 && (t403 == a0_2))) = true := c5
     (try (have c5b1 : decide (t401 = a0_0 && (t402 == a0_1 && (t403 == a0_2))) = true := by simpa using c5))
     (try (have c5b2 : (t401 == a0_0 && (t402 == a0_1 && (t403 == a0_2))) = true := by simpa using c5))
     clear c5
     obtain rfl := Option.some.inj H
     go_wp2_with (first|((with_reducible refine zz23 (f:=197) rfl ?_);refine zz25 (some 12) rfl rfl Tryd.func197 (by kernel_rfl) rfl #[.int .i64 x3_1] rfl (by (try simp only [List.map_toArray,List.map_cons,List.map_nil]);first|done|rfl|(simp only [List.length_drop,List.length_take];rfl)) ?_;(with_reducible refine (r07_Type.calls x3_1 t401 t402 t403 t404 _ A4.out).mono ?_);rintro e w6 ⟨rfl,hb⟩;refine ⟨_,rfl,?_⟩;have n0_:=zz00 (zz34 (g:=gb400) (o:=.cells #[.int .i64 a0_0,.int .i64 a0_1,.bool a0_2] 111 (0,0)) (by (with_reducible repeat (first|refine zz07 ?_ _|refine zz09 ?_|refine zz08 ?_ _));exact BK400.out) hb);have n1_:=zz00 (zz21 (by repeat (first|(with_reducible first|exact HB.out|apply zz03|apply zz01|apply zz02|refine zz10 ?_ GE400.out)|exact HB.out)) hb);clear BK400;clear HB;have BK400:=n0_;have HB:=n1_;clear n0_ n1_;(try clear hb);(try clear hb2);(try clear hk);(try clear hi))|((with_reducible refine zz24 (N:=4) rfl ?_);refine zz30 ?hg (N:=4) ?hd (cs:=#[.int .i64 0,.int .i64 0,.bool false]) (t:=111) ?hr ?_;(case hd=>rfl);(case hg=>rfl);(case hr=>first|(go_simp;done)|(go_simp;rfl));intro gb405 hg w7 hbox hb;have n0_:=zz00 (zz34 (g:=gb400) (o:=.cells #[.int .i64 a0_0,.int .i64 a0_1,.bool a0_2] 111 (0,0)) (by (with_reducible repeat (first|refine zz07 ?_ _|refine zz09 ?_|refine zz08 ?_ _));exact BK400.out) hb);have n1_:=zz00 (zz21 (by repeat (first|(with_reducible first|exact HB.out|apply zz03|apply zz01|apply zz02|refine zz10 ?_ GE400.out)|exact HB.out)) hb);have n2_:=zz00 (hbox);have n3_:=zz00 ((by rw [hg];exact (zz22 (by repeat (first|(with_reducible first|exact HB.out|apply zz03|apply zz01|apply zz02|refine zz10 ?_ GE400.out)|exact HB.out))) : w.heap.size ≤ gb405));have n4_:=zz00 ((by rw [hg];exact (zz22 (by repeat (first|(with_reducible first|exact HB.out|apply zz03|apply zz01|apply zz02|refine zz10 ?_ GE400.out)|exact HB.out))) : w.heap.size ≤ gb405));have n5_:=zz00 ((by rw [hg];exact Nat.ne_of_lt (blk_lt (g:=gb400) (o:=.cells #[.int .i64 a0_0,.int .i64 a0_1,.bool a0_2] 111 (0,0)) (by (with_reducible repeat (first|refine zz07 ?_ _|refine zz09 ?_|refine zz08 ?_ _));exact BK400.out)) : gb400 ≠ gb405));have n6_:=zz00 ((by rw [hg];exact Nat.ne_of_gt (blk_lt (g:=gb400) (o:=.cells #[.int .i64 a0_0,.int .i64 a0_1,.bool a0_2] 111 (0,0)) (by (with_reducible repeat (first|refine zz07 ?_ _|refine zz09 ?_|refine zz08 ?_ _));exact BK400.out)) : gb405 ≠ gb400));clear BK400;clear HB;have BK400:=n0_;have HB:=n1_;have BK405:=n2_;have GW405:=n3_;have GE405:=n4_;have NB400_405:=n5_;have NB405_400:=n6_;clear n0_ n1_ n2_ n3_ n4_ n5_ n6_;clear hb hbox hg;have hnb8:=NB405_400.out;have hnc8:=NB400_405.out;have hcz9_0 : w7.cell? ⟨gb405,0,none⟩ = some (.int .i64 0):=(zz18 BK405.out 0).trans rfl;have hcz9_1 : w7.cell? ⟨gb405,1,none⟩ = some (.int .i64 0):=(zz18 BK405.out 1).trans rfl;have hcz9_2 : w7.cell? ⟨gb405,2,none⟩ = some (.bool false):=(zz18 BK405.out 2).trans rfl;have hfz9_0:=zz17 BK405.out 0;have hfz9_1:=zz17 BK405.out 1;have hfz9_2:=zz17 BK405.out 2;have hcz10_0 : w7.cell? ⟨gb400,0,none⟩ = some (.int .i64 a0_0):=(zz18 BK400.out 0).trans rfl;have hcz10_1 : w7.cell? ⟨gb400,1,none⟩ = some (.int .i64 a0_1):=(zz18 BK400.out 1).trans rfl;have hcz10_2 : w7.cell? ⟨gb400,2,none⟩ = some (.bool a0_2):=(zz18 BK400.out 2).trans rfl;have hfz10_0:=zz17 BK400.out 0;have hfz10_1:=zz17 BK400.out 1;have hfz10_2:=zz17 BK400.out 2))
     go_ret
     exact ⟨by first|rfl|(simp [errW_none,errW_some] <;> rfl)|(simp [*,errW_none,errW_some] <;> rfl),by repeat (first|(with_reducible first|exact HB.out|apply zz03|apply zz01|apply zz02|refine zz10 ?_ GE400.out|refine zz10 ?_ GE405.out)|exact HB.out)⟩
    ·
     rw [if_neg c5] at H
     have c5b0 : (t401 == a0_0 && (t402 == a0_1 && (t403 == a0_2))) = false := by simpa using c5
     (try (have c5b1 : decide (t401 = a0_0 && (t402 == a0_1 && (t403 == a0_2))) = false := by simpa using c5))
     (try (have c5b2 : (t401 == a0_0 && (t402 == a0_1 && (t403 == a0_2))) = false := by simpa using c5))
     (try (have c5b3 : ¬ (t401 = a0_0 && (t402 == a0_1 && (t403 == a0_2))) := by simpa using c5))
     clear c5
     have H' := zz00 H
     clear H
     go_wp2_with (first|((with_reducible refine zz23 (f:=197) rfl ?_);refine zz25 (some 12) rfl rfl Tryd.func197 (by kernel_rfl) rfl #[.int .i64 x3_1] rfl (by (try simp only [List.map_toArray,List.map_cons,List.map_nil]);first|done|rfl|(simp only [List.length_drop,List.length_take];rfl)) ?_;(with_reducible refine (r07_Type.calls x3_1 t401 t402 t403 t404 _ A4.out).mono ?_);rintro e w11 ⟨rfl,hb⟩;refine ⟨_,rfl,?_⟩;have n0_:=zz00 (zz34 (g:=gb400) (o:=.cells #[.int .i64 a0_0,.int .i64 a0_1,.bool a0_2] 111 (0,0)) (by (with_reducible repeat (first|refine zz07 ?_ _|refine zz09 ?_|refine zz08 ?_ _));exact BK400.out) hb);have n1_:=zz00 (zz21 (by repeat (first|(with_reducible first|exact HB.out|apply zz03|apply zz01|apply zz02|refine zz10 ?_ GE400.out)|exact HB.out)) hb);clear BK400;clear HB;have BK400:=n0_;have HB:=n1_;clear n0_ n1_;(try clear hb);(try clear hb2);(try clear hk);(try clear hi))|((with_reducible refine zz24 (N:=4) rfl ?_);refine zz30 ?hg (N:=4) ?hd (cs:=#[.int .i64 0,.int .i64 0,.bool false]) (t:=111) ?hr ?_;(case hd=>rfl);(case hg=>rfl);(case hr=>first|(go_simp;done)|(go_simp;rfl));intro gb405 hg w12 hbox hb;have n0_:=zz00 (zz34 (g:=gb400) (o:=.cells #[.int .i64 a0_0,.int .i64 a0_1,.bool a0_2] 111 (0,0)) (by (with_reducible repeat (first|refine zz07 ?_ _|refine zz09 ?_|refine zz08 ?_ _));exact BK400.out) hb);have n1_:=zz00 (zz21 (by repeat (first|(with_reducible first|exact HB.out|apply zz03|apply zz01|apply zz02|refine zz10 ?_ GE400.out)|exact HB.out)) hb);have n2_:=zz00 (hbox);have n3_:=zz00 ((by rw [hg];exact (zz22 (by repeat (first|(with_reducible first|exact HB.out|apply zz03|apply zz01|apply zz02|refine zz10 ?_ GE400.out)|exact HB.out))) : w.heap.size ≤ gb405));have n4_:=zz00 ((by rw [hg];exact (zz22 (by repeat (first|(with_reducible first|exact HB.out|apply zz03|apply zz01|apply zz02|refine zz10 ?_ GE400.out)|exact HB.out))) : w.heap.size ≤ gb405));have n5_:=zz00 ((by rw [hg];exact Nat.ne_of_lt (blk_lt (g:=gb400) (o:=.cells #[.int .i64 a0_0,.int .i64 a0_1,.bool a0_2] 111 (0,0)) (by (with_reducible repeat (first|refine zz07 ?_ _|refine zz09 ?_|refine zz08 ?_ _));exact BK400.out)) : gb400 ≠ gb405));have n6_:=zz00 ((by rw [hg];exact Nat.ne_of_gt (blk_lt (g:=gb400) (o:=.cells #[.int .i64 a0_0,.int .i64 a0_1,.bool a0_2] 111 (0,0)) (by (with_reducible repeat (first|refine zz07 ?_ _|refine zz09 ?_|refine zz08 ?_ _));exact BK400.out)) : gb405 ≠ gb400));clear BK400;clear HB;have BK400:=n0_;have HB:=n1_;have BK405:=n2_;have GW405:=n3_;have GE405:=n4_;have NB400_405:=n5_;have NB405_400:=n6_;clear n0_ n1_ n2_ n3_ n4_ n5_ n6_;clear hb hbox hg;have hnb13:=NB405_400.out;have hnc13:=NB400_405.out;have hcz14_0 : w12.cell? ⟨gb405,0,none⟩ = some (.int .i64 0):=(zz18 BK405.out 0).trans rfl;have hcz14_1 : w12.cell? ⟨gb405,1,none⟩ = some (.int .i64 0):=(zz18 BK405.out 1).trans rfl;have hcz14_2 : w12.cell? ⟨gb405,2,none⟩ = some (.bool false):=(zz18 BK405.out 2).trans rfl;have hfz14_0:=zz17 BK405.out 0;have hfz14_1:=zz17 BK405.out 1;have hfz14_2:=zz17 BK405.out 2;have hcz15_0 : w12.cell? ⟨gb400,0,none⟩ = some (.int .i64 a0_0):=(zz18 BK400.out 0).trans rfl;have hcz15_1 : w12.cell? ⟨gb400,1,none⟩ = some (.int .i64 a0_1):=(zz18 BK400.out 1).trans rfl;have hcz15_2 : w12.cell? ⟨gb400,2,none⟩ = some (.bool a0_2):=(zz18 BK400.out 2).trans rfl;have hfz15_0:=zz17 BK400.out 0;have hfz15_1:=zz17 BK400.out 1;have hfz15_2:=zz17 BK400.out 2))
     go_roundg k1
     case measure => have := HK1.out; omega
     case rel=>exact ⟨(wrap64 (x3_1 + 1)),(by first|rfl|(simp;done)|(simp [*];done)),H',⟨by have:=HK1.out;omega⟩,⟨by (with_reducible repeat (first|refine zz07 ?_ _|refine zz09 ?_|refine zz08 ?_ _));refine zz33 ?_ NB400_405.out _;(with_reducible repeat (first|refine zz07 ?_ _|refine zz09 ?_|refine zz08 ?_ _));refine zz33 ?_ NB400_405.out _;(with_reducible repeat (first|refine zz07 ?_ _|refine zz09 ?_|refine zz08 ?_ _));refine zz33 ?_ NB400_405.out _;(with_reducible repeat (first|refine zz07 ?_ _|refine zz09 ?_|refine zz08 ?_ _));exact BK400.out⟩,⟨by repeat (first|(with_reducible first|exact HB.out|apply zz03|apply zz01|apply zz02|refine zz10 ?_ GE400.out|refine zz10 ?_ GE405.out)|exact HB.out)⟩⟩
   ·
    rw [if_neg c3] at H
    have c3b0 : decide (x3_1 ≤ 14) = false := decide_eq_false c3
    clear c3
    obtain rfl := Option.some.inj H
    go_wp2
    go_ret
    exact ⟨by first|rfl|(simp [errW_none,errW_some] <;> rfl)|(simp [*,errW_none,errW_some] <;> rfl),by repeat (first|(with_reducible first|exact HB.out|apply zz03|apply zz01|apply zz02|refine zz10 ?_ GE400.out)|exact HB.out)⟩

def r08_is.f (k : Nat) (a0_0 : Int) (a0_1 : Int) (a0_2 : Bool) (a1 : Int) : Option (Bool) := (r07_Number.f k a0_0 a0_1 a0_2).bind fun t407 => (if t407 > 0 then (if a1 ≥ 1 then ((r08_lengths.f k a0_0 a0_1 a0_2).bind fun t408 => (some (decide (a1 ≤ (t408.length : Int))))) else (some false)) else (some false))
theorem r08_is.mono : ∀ a0 a1 a2 a3 k, LeO (r08_is.f k a0 a1 a2 a3) (r08_is.f (k + 1) a0 a1 a2 a3) := by
 intro a0 a1 a2 a3 k
 unfold r08_is.f
 repeat' first
   | (with_reducible exact r07_Number.mono _ _ _ _)
   | (with_reducible exact r08_lengths.mono _ _ _ _)
   | (with_reducible exact LeO.refl _)
   | (with_reducible exact LeO.none _)
   | (with_reducible refine LeO.ite ?_ ?_)
   | (with_reducible refine LeO.bind ?_ (fun _ => ?_))
   | exact r07_Number.mono _ _ _ _
   | exact r08_lengths.mono _ _ _ _
   | exact LeO.none _
   | refine LeO.ite ?_ ?_
   | refine LeO.bind ?_ (fun _ => ?_)
set_option maxHeartbeats 8000000 in
set_option maxRecDepth 100000 in
theorem r08_is.calls (k : Nat) (a0_0 : Int) (a0_1 : Int) (a0_2 : Bool) (a1 : Int) (r : Bool) (w : World) (h : r08_is.f k a0_0 a0_1 a0_2 a1 = some r) :
  Calls Tryd.prog 165 #[.agg #[.int .i64 a0_0, .int .i64 a0_1, .bool a0_2], .int .i64 a1] w fun e w' => e = .returned (.bool r) ∧ Below w.heap.size w w' := by
 have hu111 := Tryd.underlying111
 have HB := zz00 (Below.refl w.heap.size w)
 have H : ((r07_Number.f k a0_0 a0_1 a0_2).bind fun t407=>(if t407 > 0 then (if a1 ≥ 1 then ((r08_lengths.f k a0_0 a0_1 a0_2).bind fun t408=>(some (decide (a1 ≤ (t408.length : Int))))) else (some false)) else (some false))) = some r:=h
 clear h
 replace H := zz14.mp H
 obtain ⟨t407, A30, H⟩ := H
 replace H : (if t407 > 0 then (if a1 ≥ 1 then ((r08_lengths.f k a0_0 a0_1 a0_2).bind fun t408=>(some (decide (a1 ≤ (t408.length : Int))))) else (some false)) else (some false)) = some r:=H
 have A3 := zz00 A30
 clear A30
 by_cases c4 : t407 > 0
 ·
  rw [if_pos c4] at H
  have c4b0 : decide (0 < t407) = true := decide_eq_true c4
  clear c4
  by_cases c5 : a1 ≥ 1
  ·
   rw [if_pos c5] at H
   have c5b0 : decide (1 ≤ a1) = true := decide_eq_true c5
   clear c5
   replace H := zz14.mp H
   obtain ⟨t408, A60, H⟩ := H
   replace H : (some (decide (a1 ≤ (t408.length : Int)))) = some r := H
   have A6 := zz00 A60
   clear A60
   obtain rfl := Option.some.inj H
   go_enter Tryd.func165, Tryd.ntmps165
   go_wp2_with (first|((with_reducible refine zz24 (N:=2) rfl ?_);(try (refine gate_guard (by rfl) ?_;dsimp only));refine zz30 ?hg (N:=2) ?hd (cs:=#[.int .i64 a0_0,.int .i64 a0_1,.bool a0_2]) (t:=111) ?hr ?_;(case hd=>rfl);(case hg=>rfl);(case hr=>first|(go_simp;done)|(go_simp;rfl));intro gb406 hg w7 hbox hb;have n0_:=zz00 (zz21 (by repeat (first|(with_reducible first|exact HB.out|apply zz03|apply zz01|apply zz02)|exact HB.out)) hb);have n1_:=zz00 (hbox);have n2_:=zz00 ((by rw [hg];exact (zz22 (by repeat (first|(with_reducible first|exact HB.out|apply zz03|apply zz01|apply zz02)|exact HB.out))) : w.heap.size ≤ gb406));have n3_:=zz00 ((by rw [hg];exact (zz22 (by repeat (first|(with_reducible first|exact HB.out|apply zz03|apply zz01|apply zz02)|exact HB.out))) : w.heap.size ≤ gb406));clear HB;have HB:=n0_;have BK406:=n1_;have GW406:=n2_;have GE406:=n3_;clear n0_ n1_ n2_ n3_;clear hb hbox hg;have hcz8_0 : w7.cell? ⟨gb406,0,none⟩ = some (.int .i64 a0_0):=(zz18 BK406.out 0).trans rfl;have hcz8_1 : w7.cell? ⟨gb406,1,none⟩ = some (.int .i64 a0_1):=(zz18 BK406.out 1).trans rfl;have hcz8_2 : w7.cell? ⟨gb406,2,none⟩ = some (.bool a0_2):=(zz18 BK406.out 2).trans rfl;have hfz8_0:=zz17 BK406.out 0;have hfz8_1:=zz17 BK406.out 1;have hfz8_2:=zz17 BK406.out 2)|((with_reducible refine zz23 (f:=186) rfl ?_);refine zz25 (some 6) rfl rfl Tryd.func186 (by kernel_rfl) rfl #[.agg #[.int .i64 a0_0,.int .i64 a0_1,.bool a0_2]] rfl (by (try simp only [List.map_toArray,List.map_cons,List.map_nil]);first|done|rfl|(simp only [List.length_drop,List.length_take];rfl)) ?_;(with_reducible refine (r07_Number.calls k a0_0 a0_1 a0_2 t407 _ A3.out).mono ?_);rintro e w9 ⟨rfl,hb⟩;refine ⟨_,rfl,?_⟩;have n0_:=zz00 (zz34 (g:=gb406) (o:=.cells #[.int .i64 a0_0,.int .i64 a0_1,.bool a0_2] 111 (0,0)) (by (with_reducible repeat (first|refine zz07 ?_ _|refine zz09 ?_|refine zz08 ?_ _));exact BK406.out) hb);have n1_:=zz00 (zz21 (by repeat (first|(with_reducible first|exact HB.out|apply zz03|apply zz01|apply zz02|refine zz10 ?_ GE406.out)|exact HB.out)) hb);clear BK406;clear HB;have BK406:=n0_;have HB:=n1_;clear n0_ n1_;(try clear hb);(try clear hb2);(try clear hk);(try clear hi);have hcz10_0 : w9.cell? ⟨gb406,0,none⟩ = some (.int .i64 a0_0):=(zz18 BK406.out 0).trans rfl;have hcz10_1 : w9.cell? ⟨gb406,1,none⟩ = some (.int .i64 a0_1):=(zz18 BK406.out 1).trans rfl;have hcz10_2 : w9.cell? ⟨gb406,2,none⟩ = some (.bool a0_2):=(zz18 BK406.out 2).trans rfl;have hfz10_0:=zz17 BK406.out 0;have hfz10_1:=zz17 BK406.out 1;have hfz10_2:=zz17 BK406.out 2)|(go_at_call 166;(with_reducible refine (r08_lengths.calls k a0_0 a0_1 a0_2 t408 _ A6.out).mono ?_);rintro e w11 ⟨v409,rfl,ho0,hb⟩;have n0_:=zz00 (Kd.R_lower ho0 (zz22 (by repeat (first|(with_reducible first|exact HB.out|apply zz03|apply zz01|apply zz02|refine zz10 ?_ GE406.out)|exact HB.out))));have n1_:=zz00 (zz34 (g:=gb406) (o:=.cells #[.int .i64 a0_0,.int .i64 a0_1,.bool a0_2] 111 (0,0)) (by (with_reducible repeat (first|refine zz07 ?_ _|refine zz09 ?_|refine zz08 ?_ _));exact BK406.out) hb);have n2_:=zz00 (zz21 (by repeat (first|(with_reducible first|exact HB.out|apply zz03|apply zz01|apply zz02|refine zz10 ?_ GE406.out)|exact HB.out)) hb);clear BK406;clear HB;have HO410:=n0_;have BK406:=n1_;have HB:=n2_;clear n0_ n1_ n2_;(try clear hb);(try clear hb2);(try clear hk);(try clear hi);(try clear ho0);obtain ⟨Ao12,co12,eo12⟩:=Kd.R_slice HO410.out;subst eo12))
   go_ret
   exact ⟨by first|rfl|(simp [errW_none,errW_some] <;> rfl)|(simp [*,errW_none,errW_some] <;> rfl),by repeat (first|(with_reducible first|exact HB.out|apply zz03|apply zz01|apply zz02|refine zz10 ?_ GE406.out)|exact HB.out)⟩
  ·
   rw [if_neg c5] at H
   have c5b0 : decide (1 ≤ a1) = false := decide_eq_false c5
   clear c5
   obtain rfl := Option.some.inj H
   go_enter Tryd.func165, Tryd.ntmps165
   go_wp2_with (first|((with_reducible refine zz24 (N:=2) rfl ?_);(try (refine gate_guard (by rfl) ?_;dsimp only));refine zz30 ?hg (N:=2) ?hd (cs:=#[.int .i64 a0_0,.int .i64 a0_1,.bool a0_2]) (t:=111) ?hr ?_;(case hd=>rfl);(case hg=>rfl);(case hr=>first|(go_simp;done)|(go_simp;rfl));intro gb406 hg w13 hbox hb;have n0_:=zz00 (zz21 (by repeat (first|(with_reducible first|exact HB.out|apply zz03|apply zz01|apply zz02)|exact HB.out)) hb);have n1_:=zz00 (hbox);have n2_:=zz00 ((by rw [hg];exact (zz22 (by repeat (first|(with_reducible first|exact HB.out|apply zz03|apply zz01|apply zz02)|exact HB.out))) : w.heap.size ≤ gb406));have n3_:=zz00 ((by rw [hg];exact (zz22 (by repeat (first|(with_reducible first|exact HB.out|apply zz03|apply zz01|apply zz02)|exact HB.out))) : w.heap.size ≤ gb406));clear HB;have HB:=n0_;have BK406:=n1_;have GW406:=n2_;have GE406:=n3_;clear n0_ n1_ n2_ n3_;clear hb hbox hg;have hcz14_0 : w13.cell? ⟨gb406,0,none⟩ = some (.int .i64 a0_0):=(zz18 BK406.out 0).trans rfl;have hcz14_1 : w13.cell? ⟨gb406,1,none⟩ = some (.int .i64 a0_1):=(zz18 BK406.out 1).trans rfl;have hcz14_2 : w13.cell? ⟨gb406,2,none⟩ = some (.bool a0_2):=(zz18 BK406.out 2).trans rfl;have hfz14_0:=zz17 BK406.out 0;have hfz14_1:=zz17 BK406.out 1;have hfz14_2:=zz17 BK406.out 2)|((with_reducible refine zz23 (f:=186) rfl ?_);refine zz25 (some 6) rfl rfl Tryd.func186 (by kernel_rfl) rfl #[.agg #[.int .i64 a0_0,.int .i64 a0_1,.bool a0_2]] rfl (by (try simp only [List.map_toArray,List.map_cons,List.map_nil]);first|done|rfl|(simp only [List.length_drop,List.length_take];rfl)) ?_;(with_reducible refine (r07_Number.calls k a0_0 a0_1 a0_2 t407 _ A3.out).mono ?_);rintro e w15 ⟨rfl,hb⟩;refine ⟨_,rfl,?_⟩;have n0_:=zz00 (zz34 (g:=gb406) (o:=.cells #[.int .i64 a0_0,.int .i64 a0_1,.bool a0_2] 111 (0,0)) (by (with_reducible repeat (first|refine zz07 ?_ _|refine zz09 ?_|refine zz08 ?_ _));exact BK406.out) hb);have n1_:=zz00 (zz21 (by repeat (first|(with_reducible first|exact HB.out|apply zz03|apply zz01|apply zz02|refine zz10 ?_ GE406.out)|exact HB.out)) hb);clear BK406;clear HB;have BK406:=n0_;have HB:=n1_;clear n0_ n1_;(try clear hb);(try clear hb2);(try clear hk);(try clear hi)))
   go_ret
   exact ⟨by first|rfl|(simp [errW_none,errW_some] <;> rfl)|(simp [*,errW_none,errW_some] <;> rfl),by repeat (first|(with_reducible first|exact HB.out|apply zz03|apply zz01|apply zz02|refine zz10 ?_ GE406.out)|exact HB.out)⟩
 ·
  rw [if_neg c4] at H
  have c4b0 : decide (0 < t407) = false := decide_eq_false c4
  clear c4
  obtain rfl := Option.some.inj H
  go_enter Tryd.func165, Tryd.ntmps165
  go_wp2_with (first|((with_reducible refine zz24 (N:=2) rfl ?_);(try (refine gate_guard (by rfl) ?_;dsimp only));refine zz30 ?hg (N:=2) ?hd (cs:=#[.int .i64 a0_0,.int .i64 a0_1,.bool a0_2]) (t:=111) ?hr ?_;(case hd=>rfl);(case hg=>rfl);(case hr=>first|(go_simp;done)|(go_simp;rfl));intro gb406 hg w16 hbox hb;have n0_:=zz00 (zz21 (by repeat (first|(with_reducible first|exact HB.out|apply zz03|apply zz01|apply zz02)|exact HB.out)) hb);have n1_:=zz00 (hbox);have n2_:=zz00 ((by rw [hg];exact (zz22 (by repeat (first|(with_reducible first|exact HB.out|apply zz03|apply zz01|apply zz02)|exact HB.out))) : w.heap.size ≤ gb406));have n3_:=zz00 ((by rw [hg];exact (zz22 (by repeat (first|(with_reducible first|exact HB.out|apply zz03|apply zz01|apply zz02)|exact HB.out))) : w.heap.size ≤ gb406));clear HB;have HB:=n0_;have BK406:=n1_;have GW406:=n2_;have GE406:=n3_;clear n0_ n1_ n2_ n3_;clear hb hbox hg;have hcz17_0 : w16.cell? ⟨gb406,0,none⟩ = some (.int .i64 a0_0):=(zz18 BK406.out 0).trans rfl;have hcz17_1 : w16.cell? ⟨gb406,1,none⟩ = some (.int .i64 a0_1):=(zz18 BK406.out 1).trans rfl;have hcz17_2 : w16.cell? ⟨gb406,2,none⟩ = some (.bool a0_2):=(zz18 BK406.out 2).trans rfl;have hfz17_0:=zz17 BK406.out 0;have hfz17_1:=zz17 BK406.out 1;have hfz17_2:=zz17 BK406.out 2)|((with_reducible refine zz23 (f:=186) rfl ?_);refine zz25 (some 6) rfl rfl Tryd.func186 (by kernel_rfl) rfl #[.agg #[.int .i64 a0_0,.int .i64 a0_1,.bool a0_2]] rfl (by (try simp only [List.map_toArray,List.map_cons,List.map_nil]);first|done|rfl|(simp only [List.length_drop,List.length_take];rfl)) ?_;(with_reducible refine (r07_Number.calls k a0_0 a0_1 a0_2 t407 _ A3.out).mono ?_);rintro e w18 ⟨rfl,hb⟩;refine ⟨_,rfl,?_⟩;have n0_:=zz00 (zz34 (g:=gb406) (o:=.cells #[.int .i64 a0_0,.int .i64 a0_1,.bool a0_2] 111 (0,0)) (by (with_reducible repeat (first|refine zz07 ?_ _|refine zz09 ?_|refine zz08 ?_ _));exact BK406.out) hb);have n1_:=zz00 (zz21 (by repeat (first|(with_reducible first|exact HB.out|apply zz03|apply zz01|apply zz02|refine zz10 ?_ GE406.out)|exact HB.out)) hb);clear BK406;clear HB;have BK406:=n0_;have HB:=n1_;clear n0_ n1_;(try clear hb);(try clear hb2);(try clear hk);(try clear hi)))
  go_ret
  exact ⟨by first|rfl|(simp [errW_none,errW_some] <;> rfl)|(simp [*,errW_none,errW_some] <;> rfl),by repeat (first|(with_reducible first|exact HB.out|apply zz03|apply zz01|apply zz02|refine zz10 ?_ GE406.out)|exact HB.out)⟩

def r08_Days.f (k : Nat) (a0_0 : Int) (a0_1 : Int) (a0_2 : Bool) (a1 : Int) : Option (Int) := (r08_is.f k a0_0 a0_1 a0_2 a1).bind fun t412 => (if t412 = true then ((r08_lengths.f k a0_0 a0_1 a0_2).bind fun t413 => (if 0 ≤ (wrap64 (a1 - 1)) then (if (wrap64 (a1 - 1)) < (t413.length : Int) then (some (rd t413 (wrap64 (a1 - 1)))) else (none)) else (none))) else (some 0))
theorem r08_Days.mono : ∀ a0 a1 a2 a3 k, LeO (r08_Days.f k a0 a1 a2 a3) (r08_Days.f (k + 1) a0 a1 a2 a3) := by
 intro a0 a1 a2 a3 k
 unfold r08_Days.f
 repeat' first
   | (with_reducible exact r08_is.mono _ _ _ _ _)
   | (with_reducible exact r08_lengths.mono _ _ _ _)
   | (with_reducible exact LeO.refl _)
   | (with_reducible exact LeO.none _)
   | (with_reducible refine LeO.ite ?_ ?_)
   | (with_reducible refine LeO.bind ?_ (fun _ => ?_))
   | exact r08_is.mono _ _ _ _ _
   | exact r08_lengths.mono _ _ _ _
   | exact LeO.none _
   | refine LeO.ite ?_ ?_
   | refine LeO.bind ?_ (fun _ => ?_)
set_option maxHeartbeats 8000000 in
set_option maxRecDepth 100000 in
theorem r08_Days.calls (k : Nat) (a0_0 : Int) (a0_1 : Int) (a0_2 : Bool) (a1 : Int) (r : Int) (w : World) (h : r08_Days.f k a0_0 a0_1 a0_2 a1 = some r) :
  Calls Tryd.prog 185 #[.agg #[.int .i64 a0_0, .int .i64 a0_1, .bool a0_2], .int .i64 a1] w fun e w' => e = .returned (.int .i64 r) ∧ Below w.heap.size w w' := by
 have hu111 := Tryd.underlying111
 have HB := zz00 (Below.refl w.heap.size w)
 have H : ((r08_is.f k a0_0 a0_1 a0_2 a1).bind fun t412=>(if t412 = true then ((r08_lengths.f k a0_0 a0_1 a0_2).bind fun t413=>(if 0 ≤ (wrap64 (a1 - 1)) then (if (wrap64 (a1 - 1)) < (t413.length : Int) then (some (rd t413 (wrap64 (a1 - 1)))) else (none)) else (none))) else (some 0))) = some r:=h
 clear h
 replace H := zz14.mp H
 obtain ⟨t412, A30, H⟩ := H
 replace H : (if t412 = true then ((r08_lengths.f k a0_0 a0_1 a0_2).bind fun t413=>(if 0 ≤ (wrap64 (a1 - 1)) then (if (wrap64 (a1 - 1)) < (t413.length : Int) then (some (rd t413 (wrap64 (a1 - 1)))) else (none)) else (none))) else (some 0)) = some r:=H
 have A3 := zz00 A30
 clear A30
 by_cases c4 : t412 = true
 ·
  subst c4
  have H1 : ((r08_lengths.f k a0_0 a0_1 a0_2).bind fun t413=>(if 0 ≤ (wrap64 (a1 - 1)) then (if (wrap64 (a1 - 1)) < (t413.length : Int) then (some (rd t413 (wrap64 (a1 - 1)))) else (none)) else (none))) = some r:=by rw [if_pos rfl] at H;exact H
  clear H
  have H := H1
  clear H1
  replace H := zz14.mp H
  obtain ⟨t413, A50, H⟩ := H
  replace H : (if 0 ≤ (wrap64 (a1 - 1)) then (if (wrap64 (a1 - 1)) < (t413.length : Int) then (some (rd t413 (wrap64 (a1 - 1)))) else (none)) else (none)) = some r := H
  have A5 := zz00 A50
  clear A50
  obtain ⟨ji6, hji6⟩ : ∃ j_ : Int, (wrap64 (a1 - 1)) = j_ := ⟨_, rfl⟩
  replace H : (if 0 ≤ (ji6) then (if (ji6) < (t413.length : Int) then (some (rd t413 (ji6))) else (none)) else (none)) = some r:=by first|(rw [hji6] at H;exact H)|(simp only [hji6] at H ⊢;exact H)
  (try rw [hji6] at A3)
  (try rw [hji6] at A5)
  have hji6w : (IntKind.i64.wrap (a1 - 1)) = ji6 := (i64_w _).trans hji6
  by_cases c7 : 0 ≤ (ji6)
  ·
   rw [if_pos c7] at H
   have c7b0 : decide (0 ≤ (ji6)) = true := decide_eq_true c7
   clear c7
   by_cases c8 : (ji6) < (t413.length : Int)
   ·
    rw [if_pos c8] at H
    have c8b0 : decide ((ji6) < (t413.length : Int)) = true := decide_eq_true c8
    clear c8
    obtain rfl := Option.some.inj H
    go_enter Tryd.func185, Tryd.ntmps185
    go_wp2_with (first|((with_reducible refine zz24 (N:=2) rfl ?_);refine zz30 ?hg (N:=2) ?hd (cs:=#[.int .i64 a0_0,.int .i64 a0_1,.bool a0_2]) (t:=111) ?hr ?_;(case hd=>rfl);(case hg=>rfl);(case hr=>first|(go_simp;done)|(go_simp;rfl));intro gb411 hg w9 hbox hb;have n0_:=zz00 (zz21 (by repeat (first|(with_reducible first|exact HB.out|apply zz03|apply zz01|apply zz02)|exact HB.out)) hb);have n1_:=zz00 (hbox);have n2_:=zz00 ((by rw [hg];exact (zz22 (by repeat (first|(with_reducible first|exact HB.out|apply zz03|apply zz01|apply zz02)|exact HB.out))) : w.heap.size ≤ gb411));have n3_:=zz00 ((by rw [hg];exact (zz22 (by repeat (first|(with_reducible first|exact HB.out|apply zz03|apply zz01|apply zz02)|exact HB.out))) : w.heap.size ≤ gb411));clear HB;have HB:=n0_;have BK411:=n1_;have GW411:=n2_;have GE411:=n3_;clear n0_ n1_ n2_ n3_;clear hb hbox hg;have hcz10_0 : w9.cell? ⟨gb411,0,none⟩ = some (.int .i64 a0_0):=(zz18 BK411.out 0).trans rfl;have hcz10_1 : w9.cell? ⟨gb411,1,none⟩ = some (.int .i64 a0_1):=(zz18 BK411.out 1).trans rfl;have hcz10_2 : w9.cell? ⟨gb411,2,none⟩ = some (.bool a0_2):=(zz18 BK411.out 2).trans rfl;have hfz10_0:=zz17 BK411.out 0;have hfz10_1:=zz17 BK411.out 1;have hfz10_2:=zz17 BK411.out 2)|((with_reducible refine zz23 (f:=165) rfl ?_);refine zz25 (some 7) rfl rfl Tryd.func165 (by kernel_rfl) rfl #[.agg #[.int .i64 a0_0,.int .i64 a0_1,.bool a0_2],.int .i64 a1] rfl (by (try simp only [List.map_toArray,List.map_cons,List.map_nil]);first|done|rfl|(simp only [List.length_drop,List.length_take];rfl)) ?_;(with_reducible refine (r08_is.calls k a0_0 a0_1 a0_2 a1 true _ A3.out).mono ?_);rintro e w11 ⟨rfl,hb⟩;refine ⟨_,rfl,?_⟩;have n0_:=zz00 (zz34 (g:=gb411) (o:=.cells #[.int .i64 a0_0,.int .i64 a0_1,.bool a0_2] 111 (0,0)) (by (with_reducible repeat (first|refine zz07 ?_ _|refine zz09 ?_|refine zz08 ?_ _));exact BK411.out) hb);have n1_:=zz00 (zz21 (by repeat (first|(with_reducible first|exact HB.out|apply zz03|apply zz01|apply zz02|refine zz10 ?_ GE411.out)|exact HB.out)) hb);clear BK411;clear HB;have BK411:=n0_;have HB:=n1_;clear n0_ n1_;(try clear hb);(try clear hb2);(try clear hk);(try clear hi);have hcz12_0 : w11.cell? ⟨gb411,0,none⟩ = some (.int .i64 a0_0):=(zz18 BK411.out 0).trans rfl;have hcz12_1 : w11.cell? ⟨gb411,1,none⟩ = some (.int .i64 a0_1):=(zz18 BK411.out 1).trans rfl;have hcz12_2 : w11.cell? ⟨gb411,2,none⟩ = some (.bool a0_2):=(zz18 BK411.out 2).trans rfl;have hfz12_0:=zz17 BK411.out 0;have hfz12_1:=zz17 BK411.out 1;have hfz12_2:=zz17 BK411.out 2)|((with_reducible refine zz23 (f:=166) rfl ?_);refine zz25 (some 10) rfl rfl Tryd.func166 (by kernel_rfl) rfl #[.agg #[.int .i64 a0_0,.int .i64 a0_1,.bool a0_2]] rfl (by (try simp only [List.map_toArray,List.map_cons,List.map_nil]);first|done|rfl|(simp only [List.length_drop,List.length_take];rfl)) ?_;(with_reducible refine (r08_lengths.calls k a0_0 a0_1 a0_2 t413 _ A5.out).mono ?_);rintro e w13 ⟨v414,rfl,ho0,hb⟩;refine ⟨_,rfl,?_⟩;have n0_:=zz00 (Kd.R_lower ho0 (zz22 (by repeat (first|(with_reducible first|exact HB.out|apply zz03|apply zz01|apply zz02|refine zz10 ?_ GE411.out)|exact HB.out))));have n1_:=zz00 (zz34 (g:=gb411) (o:=.cells #[.int .i64 a0_0,.int .i64 a0_1,.bool a0_2] 111 (0,0)) (by (with_reducible repeat (first|refine zz07 ?_ _|refine zz09 ?_|refine zz08 ?_ _));exact BK411.out) hb);have n2_:=zz00 (zz21 (by repeat (first|(with_reducible first|exact HB.out|apply zz03|apply zz01|apply zz02|refine zz10 ?_ GE411.out)|exact HB.out)) hb);clear BK411;clear HB;have HO415:=n0_;have BK411:=n1_;have HB:=n2_;clear n0_ n1_ n2_;(try clear hb);(try clear hb2);(try clear hk);(try clear hi);(try clear ho0);obtain ⟨Ao14,co14,eo14⟩:=Kd.R_slice HO415.out;subst eo14;have p416 : 0 ≤ ((ji6) : Int):=zz31 (by first|(with_reducible assumption)|assumption);have q416 : (ji6) < (t413.length : Int):=zz31 (by first|(with_reducible assumption)|assumption);obtain ⟨ad416,e416,hx416_0⟩:=Kd.at_int (Kd.R_reads' HO415.out).2.2 (ji6) p416 q416;cases e416;replace p416:=eq_true p416;replace q416:=eq_true q416))
    go_ret
    exact ⟨by first|rfl|(simp [errW_none,errW_some] <;> rfl)|(simp only [← hji6];first|rfl|(simp [errW_none,errW_some] <;> rfl))|(simp [*,errW_none,errW_some] <;> rfl),by repeat (first|(with_reducible first|exact HB.out|apply zz03|apply zz01|apply zz02|refine zz10 ?_ GE411.out)|exact HB.out)⟩
   ·
    rw [if_neg c8] at H
    exact absurd H (by simp)
  ·
   rw [if_neg c7] at H
   exact absurd H (by simp)
 ·
  replace c4 := zz32.mpr c4
  subst c4
  have H1 : (some 0) = some r := by rw [if_neg (show ¬ (false = true) by decide)] at H; exact H
  clear H
  have H := H1
  clear H1
  obtain rfl := Option.some.inj H
  go_enter Tryd.func185, Tryd.ntmps185
  go_wp2_with (first|((with_reducible refine zz24 (N:=2) rfl ?_);refine zz30 ?hg (N:=2) ?hd (cs:=#[.int .i64 a0_0,.int .i64 a0_1,.bool a0_2]) (t:=111) ?hr ?_;(case hd=>rfl);(case hg=>rfl);(case hr=>first|(go_simp;done)|(go_simp;rfl));intro gb411 hg w15 hbox hb;have n0_:=zz00 (zz21 (by repeat (first|(with_reducible first|exact HB.out|apply zz03|apply zz01|apply zz02)|exact HB.out)) hb);have n1_:=zz00 (hbox);have n2_:=zz00 ((by rw [hg];exact (zz22 (by repeat (first|(with_reducible first|exact HB.out|apply zz03|apply zz01|apply zz02)|exact HB.out))) : w.heap.size ≤ gb411));have n3_:=zz00 ((by rw [hg];exact (zz22 (by repeat (first|(with_reducible first|exact HB.out|apply zz03|apply zz01|apply zz02)|exact HB.out))) : w.heap.size ≤ gb411));clear HB;have HB:=n0_;have BK411:=n1_;have GW411:=n2_;have GE411:=n3_;clear n0_ n1_ n2_ n3_;clear hb hbox hg;have hcz16_0 : w15.cell? ⟨gb411,0,none⟩ = some (.int .i64 a0_0):=(zz18 BK411.out 0).trans rfl;have hcz16_1 : w15.cell? ⟨gb411,1,none⟩ = some (.int .i64 a0_1):=(zz18 BK411.out 1).trans rfl;have hcz16_2 : w15.cell? ⟨gb411,2,none⟩ = some (.bool a0_2):=(zz18 BK411.out 2).trans rfl;have hfz16_0:=zz17 BK411.out 0;have hfz16_1:=zz17 BK411.out 1;have hfz16_2:=zz17 BK411.out 2)|((with_reducible refine zz23 (f:=165) rfl ?_);refine zz25 (some 7) rfl rfl Tryd.func165 (by kernel_rfl) rfl #[.agg #[.int .i64 a0_0,.int .i64 a0_1,.bool a0_2],.int .i64 a1] rfl (by (try simp only [List.map_toArray,List.map_cons,List.map_nil]);first|done|rfl|(simp only [List.length_drop,List.length_take];rfl)) ?_;(with_reducible refine (r08_is.calls k a0_0 a0_1 a0_2 a1 false _ A3.out).mono ?_);rintro e w17 ⟨rfl,hb⟩;refine ⟨_,rfl,?_⟩;have n0_:=zz00 (zz34 (g:=gb411) (o:=.cells #[.int .i64 a0_0,.int .i64 a0_1,.bool a0_2] 111 (0,0)) (by (with_reducible repeat (first|refine zz07 ?_ _|refine zz09 ?_|refine zz08 ?_ _));exact BK411.out) hb);have n1_:=zz00 (zz21 (by repeat (first|(with_reducible first|exact HB.out|apply zz03|apply zz01|apply zz02|refine zz10 ?_ GE411.out)|exact HB.out)) hb);clear BK411;clear HB;have BK411:=n0_;have HB:=n1_;clear n0_ n1_;(try clear hb);(try clear hb2);(try clear hk);(try clear hi)))
  go_ret
  exact ⟨by first|rfl|(simp [errW_none,errW_some] <;> rfl)|(simp [*,errW_none,errW_some] <;> rfl),by repeat (first|(with_reducible first|exact HB.out|apply zz03|apply zz01|apply zz02|refine zz10 ?_ GE411.out)|exact HB.out)⟩

def r10_Last.f (k : Nat) (a0 : Int) (a1_0 : Int) (a1_1 : Bool) : Option (Int × Int) := (r07_Of.f k a0).bind fun bt418 => (if bt418.2.2.2 = 0 then ((r09_Place.f k bt418.2.2.1 a1_0 a1_1).bind fun bt423 => (if bt423.2 = true then ((r08_Days.f k bt418.1 bt418.2.1 bt418.2.2.1 bt423.1).bind fun t425 => (some (t425, 0))) else (some (0, 3)))) else (some (0, bt418.2.2.2)))
set_option maxHeartbeats 8000000 in
set_option maxRecDepth 100000 in
theorem r10_Last.calls (k : Nat) (a0 : Int) (a1_0 : Int) (a1_1 : Bool) (r1 : Int) (r2 : Int) (w : World) (h : r10_Last.f k a0 a1_0 a1_1 = some (r1, r2)) :
  Calls Tryd.prog 163 #[.int .i64 a0, .agg #[.int .i64 a1_0, .bool a1_1]] w fun e w' => e = .returned (.tuple #[.int .i64 r1, .int .i64 r2]) ∧ Below w.heap.size w w' := by
 have hu23 := Tryd.underlying23
 have hu111 := Tryd.underlying111
 have HB := zz00 (Below.refl w.heap.size w)
 have H : ((r07_Of.f k a0).bind fun bt418=>(if bt418.2.2.2 = 0 then ((r09_Place.f k bt418.2.2.1 a1_0 a1_1).bind fun bt423=>(if bt423.2 = true then ((r08_Days.f k bt418.1 bt418.2.1 bt418.2.2.1 bt423.1).bind fun t425=>(some (t425,0))) else (some (0,3)))) else (some (0,bt418.2.2.2)))) = some (r1,r2):=h
 clear h
 replace H := zz14.mp H
 obtain ⟨⟨t418, t419, t420, t421⟩, A30, H⟩ := H
 replace H : (if t421 = 0 then ((r09_Place.f k t420 a1_0 a1_1).bind fun bt423=>(if bt423.2 = true then ((r08_Days.f k t418 t419 t420 bt423.1).bind fun t425=>(some (t425,0))) else (some (0,3)))) else (some (0,t421))) = some (r1,r2):=H
 have A3 := zz00 A30
 clear A30
 by_cases c4 : t421 = 0
 ·
  rw [if_pos c4] at H
  have c4b0 : (t421 == 0) = true := zz29.mpr c4
  have c4b1 : (t421 != 0) = false := zz26.mpr c4
  clear c4
  replace H := zz14.mp H
  obtain ⟨⟨t423, t424⟩, A50, H⟩ := H
  replace H : (if t424 = true then ((r08_Days.f k t418 t419 t420 t423).bind fun t425 => (some (t425, 0))) else (some (0, 3))) = some (r1, r2) := H
  have A5 := zz00 A50
  clear A50
  by_cases c6 : t424 = true
  ·
   subst c6
   have H1 : ((r08_Days.f k t418 t419 t420 t423).bind fun t425 => (some (t425, 0))) = some (r1, r2) := by rw [if_pos rfl] at H; exact H
   clear H
   have H := H1
   clear H1
   replace H := zz14.mp H
   obtain ⟨t425, A70, H⟩ := H
   replace H : (some (t425, 0)) = some (r1, r2) := H
   have A7 := zz00 A70
   clear A70
   simp only [zz15, zz16] at H
   obtain ⟨rfl, rfl⟩ := H
   go_enter Tryd.func163, Tryd.ntmps163
   go_wp2_with (first|((with_reducible refine zz24 (N:=3) rfl ?_);refine zz30 ?hg (N:=3) ?hd (cs:=#[.int .i64 a1_0,.bool a1_1]) (t:=23) ?hr ?_;(case hd=>rfl);(case hg=>rfl);(case hr=>first|(go_simp;done)|(go_simp;rfl));intro gb417 hg w8 hbox hb;have n0_:=zz00 (zz21 (by repeat (first|(with_reducible first|exact HB.out|apply zz03|apply zz01|apply zz02)|exact HB.out)) hb);have n1_:=zz00 (hbox);have n2_:=zz00 ((by rw [hg];exact (zz22 (by repeat (first|(with_reducible first|exact HB.out|apply zz03|apply zz01|apply zz02)|exact HB.out))) : w.heap.size ≤ gb417));have n3_:=zz00 ((by rw [hg];exact (zz22 (by repeat (first|(with_reducible first|exact HB.out|apply zz03|apply zz01|apply zz02)|exact HB.out))) : w.heap.size ≤ gb417));clear HB;have HB:=n0_;have BK417:=n1_;have GW417:=n2_;have GE417:=n3_;clear n0_ n1_ n2_ n3_;clear hb hbox hg)|((with_reducible refine zz23 (f:=127) rfl ?_);refine zz25 (some 12) rfl rfl Tryd.func127 (by kernel_rfl) rfl #[.int .i64 a0] rfl (by (try simp only [List.map_toArray,List.map_cons,List.map_nil]);first|done|rfl|(simp only [List.length_drop,List.length_take];rfl)) ?_;(with_reducible refine (r07_Of.calls k a0 t418 t419 t420 t421 _ A3.out).mono ?_);rintro e w9 ⟨rfl,hb⟩;refine ⟨_,rfl,?_⟩;have n0_:=zz00 (zz34 (g:=gb417) (o:=.cells #[.int .i64 a1_0,.bool a1_1] 23 (0,0)) (by (with_reducible repeat (first|refine zz07 ?_ _|refine zz09 ?_|refine zz08 ?_ _));exact BK417.out) hb);have n1_:=zz00 (zz21 (by repeat (first|(with_reducible first|exact HB.out|apply zz03|apply zz01|apply zz02|refine zz10 ?_ GE417.out)|exact HB.out)) hb);clear BK417;clear HB;have BK417:=n0_;have HB:=n1_;clear n0_ n1_;(try clear hb);(try clear hb2);(try clear hk);(try clear hi))|((with_reducible refine zz24 (N:=6) rfl ?_);refine zz30 ?hg (N:=6) ?hd (cs:=#[.int .i64 0,.int .i64 0,.bool false]) (t:=111) ?hr ?_;(case hd=>rfl);(case hg=>rfl);(case hr=>first|(go_simp;done)|(go_simp;rfl));intro gb422 hg w10 hbox hb;have n0_:=zz00 (zz34 (g:=gb417) (o:=.cells #[.int .i64 a1_0,.bool a1_1] 23 (0,0)) (by (with_reducible repeat (first|refine zz07 ?_ _|refine zz09 ?_|refine zz08 ?_ _));exact BK417.out) hb);have n1_:=zz00 (zz21 (by repeat (first|(with_reducible first|exact HB.out|apply zz03|apply zz01|apply zz02|refine zz10 ?_ GE417.out)|exact HB.out)) hb);have n2_:=zz00 (hbox);have n3_:=zz00 ((by rw [hg];exact (zz22 (by repeat (first|(with_reducible first|exact HB.out|apply zz03|apply zz01|apply zz02|refine zz10 ?_ GE417.out)|exact HB.out))) : w.heap.size ≤ gb422));have n4_:=zz00 ((by rw [hg];exact (zz22 (by repeat (first|(with_reducible first|exact HB.out|apply zz03|apply zz01|apply zz02|refine zz10 ?_ GE417.out)|exact HB.out))) : w.heap.size ≤ gb422));have n5_:=zz00 ((by rw [hg];exact Nat.ne_of_lt (blk_lt (g:=gb417) (o:=.cells #[.int .i64 a1_0,.bool a1_1] 23 (0,0)) (by (with_reducible repeat (first|refine zz07 ?_ _|refine zz09 ?_|refine zz08 ?_ _));exact BK417.out)) : gb417 ≠ gb422));have n6_:=zz00 ((by rw [hg];exact Nat.ne_of_gt (blk_lt (g:=gb417) (o:=.cells #[.int .i64 a1_0,.bool a1_1] 23 (0,0)) (by (with_reducible repeat (first|refine zz07 ?_ _|refine zz09 ?_|refine zz08 ?_ _));exact BK417.out)) : gb422 ≠ gb417));clear BK417;clear HB;have BK417:=n0_;have HB:=n1_;have BK422:=n2_;have GW422:=n3_;have GE422:=n4_;have NB417_422:=n5_;have NB422_417:=n6_;clear n0_ n1_ n2_ n3_ n4_ n5_ n6_;clear hb hbox hg;have hnb11:=NB422_417.out;have hnc11:=NB417_422.out;have hcz12_0 : w10.cell? ⟨gb422,0,none⟩ = some (.int .i64 0):=(zz18 BK422.out 0).trans rfl;have hcz12_1 : w10.cell? ⟨gb422,1,none⟩ = some (.int .i64 0):=(zz18 BK422.out 1).trans rfl;have hcz12_2 : w10.cell? ⟨gb422,2,none⟩ = some (.bool false):=(zz18 BK422.out 2).trans rfl;have hfz12_0:=zz17 BK422.out 0;have hfz12_1:=zz17 BK422.out 1;have hfz12_2:=zz17 BK422.out 2;have hcz13_0 : w10.cell? ⟨gb417,0,none⟩ = some (.int .i64 a1_0):=(zz18 BK417.out 0).trans rfl;have hcz13_1 : w10.cell? ⟨gb417,1,none⟩ = some (.bool a1_1):=(zz18 BK417.out 1).trans rfl;have hfz13_0:=zz17 BK417.out 0;have hfz13_1:=zz17 BK417.out 1)|((with_reducible refine zz23 (f:=25) rfl ?_);refine zz25 (some 22) rfl rfl Tryd.func25 (by kernel_rfl) rfl #[.bool t420,.agg #[.int .i64 a1_0,.bool a1_1]] rfl (by (try simp only [List.map_toArray,List.map_cons,List.map_nil]);first|done|rfl|(simp only [List.length_drop,List.length_take];rfl)) ?_;(with_reducible refine (r09_Place.calls k t420 a1_0 a1_1 t423 true _ A5.out).mono ?_);rintro e w14 ⟨rfl,hb⟩;refine ⟨_,rfl,?_⟩;have n0_:=zz00 (zz34 (g:=gb417) (o:=.cells #[.int .i64 a1_0,.bool a1_1] 23 (0,0)) (by (with_reducible repeat (first|refine zz07 ?_ _|refine zz09 ?_|refine zz08 ?_ _));refine zz33 ?_ NB417_422.out _;(with_reducible repeat (first|refine zz07 ?_ _|refine zz09 ?_|refine zz08 ?_ _));refine zz33 ?_ NB417_422.out _;(with_reducible repeat (first|refine zz07 ?_ _|refine zz09 ?_|refine zz08 ?_ _));refine zz33 ?_ NB417_422.out _;(with_reducible repeat (first|refine zz07 ?_ _|refine zz09 ?_|refine zz08 ?_ _));exact BK417.out) hb);have n1_:=zz00 (zz34 (g:=gb422) (o:=.cells #[.int .i64 t418,.int .i64 t419,.bool t420] 111 (0,0)) (by (with_reducible repeat (first|refine zz07 ?_ _|refine zz09 ?_|refine zz08 ?_ _));refine zz35 (cs:=#[.int .i64 t418,.int .i64 t419,.bool false]) ?_ 2 _ rfl;(with_reducible repeat (first|refine zz07 ?_ _|refine zz09 ?_|refine zz08 ?_ _));refine zz35 (cs:=#[.int .i64 t418,.int .i64 0,.bool false]) ?_ 1 _ rfl;(with_reducible repeat (first|refine zz07 ?_ _|refine zz09 ?_|refine zz08 ?_ _));refine zz35 (cs:=#[.int .i64 0,.int .i64 0,.bool false]) ?_ 0 _ rfl;(with_reducible repeat (first|refine zz07 ?_ _|refine zz09 ?_|refine zz08 ?_ _));exact BK422.out) hb);have n2_:=zz00 (zz21 (by repeat (first|(with_reducible first|exact HB.out|apply zz03|apply zz01|apply zz02|refine zz10 ?_ GE417.out|refine zz10 ?_ GE422.out)|exact HB.out)) hb);clear BK417;clear BK422;clear HB;have BK417:=n0_;have BK422:=n1_;have HB:=n2_;clear n0_ n1_ n2_;(try clear hb);(try clear hb2);(try clear hk);(try clear hi);have hcz15_0 : w14.cell? ⟨gb422,0,none⟩ = some (.int .i64 t418):=(zz18 BK422.out 0).trans rfl;have hcz15_1 : w14.cell? ⟨gb422,1,none⟩ = some (.int .i64 t419):=(zz18 BK422.out 1).trans rfl;have hcz15_2 : w14.cell? ⟨gb422,2,none⟩ = some (.bool t420):=(zz18 BK422.out 2).trans rfl;have hfz15_0:=zz17 BK422.out 0;have hfz15_1:=zz17 BK422.out 1;have hfz15_2:=zz17 BK422.out 2)|((with_reducible refine zz23 (f:=185) rfl ?_);refine zz25 (some 29) rfl rfl Tryd.func185 (by kernel_rfl) rfl #[.agg #[.int .i64 t418,.int .i64 t419,.bool t420],.int .i64 t423] rfl (by (try simp only [List.map_toArray,List.map_cons,List.map_nil]);first|done|rfl|(simp only [List.length_drop,List.length_take];rfl)) ?_;(with_reducible refine (r08_Days.calls k t418 t419 t420 t423 t425 _ A7.out).mono ?_);rintro e w16 ⟨rfl,hb⟩;refine ⟨_,rfl,?_⟩;have n0_:=zz00 (zz34 (g:=gb417) (o:=.cells #[.int .i64 a1_0,.bool a1_1] 23 (0,0)) (by (with_reducible repeat (first|refine zz07 ?_ _|refine zz09 ?_|refine zz08 ?_ _));exact BK417.out) hb);have n1_:=zz00 (zz34 (g:=gb422) (o:=.cells #[.int .i64 t418,.int .i64 t419,.bool t420] 111 (0,0)) (by (with_reducible repeat (first|refine zz07 ?_ _|refine zz09 ?_|refine zz08 ?_ _));exact BK422.out) hb);have n2_:=zz00 (zz21 (by repeat (first|(with_reducible first|exact HB.out|apply zz03|apply zz01|apply zz02|refine zz10 ?_ GE417.out|refine zz10 ?_ GE422.out)|exact HB.out)) hb);clear BK417;clear BK422;clear HB;have BK417:=n0_;have BK422:=n1_;have HB:=n2_;clear n0_ n1_ n2_;(try clear hb);(try clear hb2);(try clear hk);(try clear hi)))
   go_ret2
   exact ⟨by first|rfl|(simp [errW_none,errW_some] <;> rfl)|(simp [*,errW_none,errW_some] <;> rfl),by repeat (first|(with_reducible first|exact HB.out|apply zz03|apply zz01|apply zz02|refine zz10 ?_ GE417.out|refine zz10 ?_ GE422.out)|exact HB.out)⟩
  ·
   replace c6 := zz32.mpr c6
   subst c6
   have H1 : (some (0, 3)) = some (r1, r2) := by rw [if_neg (show ¬ (false = true) by decide)] at H; exact H
   clear H
   have H := H1
   clear H1
   simp only [zz15, zz16] at H
   obtain ⟨rfl, rfl⟩ := H
   go_enter Tryd.func163, Tryd.ntmps163
   go_wp2_with (first|((with_reducible refine zz24 (N:=3) rfl ?_);refine zz30 ?hg (N:=3) ?hd (cs:=#[.int .i64 a1_0,.bool a1_1]) (t:=23) ?hr ?_;(case hd=>rfl);(case hg=>rfl);(case hr=>first|(go_simp;done)|(go_simp;rfl));intro gb417 hg w17 hbox hb;have n0_:=zz00 (zz21 (by repeat (first|(with_reducible first|exact HB.out|apply zz03|apply zz01|apply zz02)|exact HB.out)) hb);have n1_:=zz00 (hbox);have n2_:=zz00 ((by rw [hg];exact (zz22 (by repeat (first|(with_reducible first|exact HB.out|apply zz03|apply zz01|apply zz02)|exact HB.out))) : w.heap.size ≤ gb417));have n3_:=zz00 ((by rw [hg];exact (zz22 (by repeat (first|(with_reducible first|exact HB.out|apply zz03|apply zz01|apply zz02)|exact HB.out))) : w.heap.size ≤ gb417));clear HB;have HB:=n0_;have BK417:=n1_;have GW417:=n2_;have GE417:=n3_;clear n0_ n1_ n2_ n3_;clear hb hbox hg)|((with_reducible refine zz23 (f:=127) rfl ?_);refine zz25 (some 12) rfl rfl Tryd.func127 (by kernel_rfl) rfl #[.int .i64 a0] rfl (by (try simp only [List.map_toArray,List.map_cons,List.map_nil]);first|done|rfl|(simp only [List.length_drop,List.length_take];rfl)) ?_;(with_reducible refine (r07_Of.calls k a0 t418 t419 t420 t421 _ A3.out).mono ?_);rintro e w18 ⟨rfl,hb⟩;refine ⟨_,rfl,?_⟩;have n0_:=zz00 (zz34 (g:=gb417) (o:=.cells #[.int .i64 a1_0,.bool a1_1] 23 (0,0)) (by (with_reducible repeat (first|refine zz07 ?_ _|refine zz09 ?_|refine zz08 ?_ _));exact BK417.out) hb);have n1_:=zz00 (zz21 (by repeat (first|(with_reducible first|exact HB.out|apply zz03|apply zz01|apply zz02|refine zz10 ?_ GE417.out)|exact HB.out)) hb);clear BK417;clear HB;have BK417:=n0_;have HB:=n1_;clear n0_ n1_;(try clear hb);(try clear hb2);(try clear hk);(try clear hi))|((with_reducible refine zz24 (N:=6) rfl ?_);refine zz30 ?hg (N:=6) ?hd (cs:=#[.int .i64 0,.int .i64 0,.bool false]) (t:=111) ?hr ?_;(case hd=>rfl);(case hg=>rfl);(case hr=>first|(go_simp;done)|(go_simp;rfl));intro gb422 hg w19 hbox hb;have n0_:=zz00 (zz34 (g:=gb417) (o:=.cells #[.int .i64 a1_0,.bool a1_1] 23 (0,0)) (by (with_reducible repeat (first|refine zz07 ?_ _|refine zz09 ?_|refine zz08 ?_ _));exact BK417.out) hb);have n1_:=zz00 (zz21 (by repeat (first|(with_reducible first|exact HB.out|apply zz03|apply zz01|apply zz02|refine zz10 ?_ GE417.out)|exact HB.out)) hb);have n2_:=zz00 (hbox);have n3_:=zz00 ((by rw [hg];exact (zz22 (by repeat (first|(with_reducible first|exact HB.out|apply zz03|apply zz01|apply zz02|refine zz10 ?_ GE417.out)|exact HB.out))) : w.heap.size ≤ gb422));have n4_:=zz00 ((by rw [hg];exact (zz22 (by repeat (first|(with_reducible first|exact HB.out|apply zz03|apply zz01|apply zz02|refine zz10 ?_ GE417.out)|exact HB.out))) : w.heap.size ≤ gb422));have n5_:=zz00 ((by rw [hg];exact Nat.ne_of_lt (blk_lt (g:=gb417) (o:=.cells #[.int .i64 a1_0,.bool a1_1] 23 (0,0)) (by (with_reducible repeat (first|refine zz07 ?_ _|refine zz09 ?_|refine zz08 ?_ _));exact BK417.out)) : gb417 ≠ gb422));have n6_:=zz00 ((by rw [hg];exact Nat.ne_of_gt (blk_lt (g:=gb417) (o:=.cells #[.int .i64 a1_0,.bool a1_1] 23 (0,0)) (by (with_reducible repeat (first|refine zz07 ?_ _|refine zz09 ?_|refine zz08 ?_ _));exact BK417.out)) : gb422 ≠ gb417));clear BK417;clear HB;have BK417:=n0_;have HB:=n1_;have BK422:=n2_;have GW422:=n3_;have GE422:=n4_;have NB417_422:=n5_;have NB422_417:=n6_;clear n0_ n1_ n2_ n3_ n4_ n5_ n6_;clear hb hbox hg;have hnb20:=NB422_417.out;have hnc20:=NB417_422.out;have hcz21_0 : w19.cell? ⟨gb422,0,none⟩ = some (.int .i64 0):=(zz18 BK422.out 0).trans rfl;have hcz21_1 : w19.cell? ⟨gb422,1,none⟩ = some (.int .i64 0):=(zz18 BK422.out 1).trans rfl;have hcz21_2 : w19.cell? ⟨gb422,2,none⟩ = some (.bool false):=(zz18 BK422.out 2).trans rfl;have hfz21_0:=zz17 BK422.out 0;have hfz21_1:=zz17 BK422.out 1;have hfz21_2:=zz17 BK422.out 2;have hcz22_0 : w19.cell? ⟨gb417,0,none⟩ = some (.int .i64 a1_0):=(zz18 BK417.out 0).trans rfl;have hcz22_1 : w19.cell? ⟨gb417,1,none⟩ = some (.bool a1_1):=(zz18 BK417.out 1).trans rfl;have hfz22_0:=zz17 BK417.out 0;have hfz22_1:=zz17 BK417.out 1)|((with_reducible refine zz23 (f:=25) rfl ?_);refine zz25 (some 22) rfl rfl Tryd.func25 (by kernel_rfl) rfl #[.bool t420,.agg #[.int .i64 a1_0,.bool a1_1]] rfl (by (try simp only [List.map_toArray,List.map_cons,List.map_nil]);first|done|rfl|(simp only [List.length_drop,List.length_take];rfl)) ?_;(with_reducible refine (r09_Place.calls k t420 a1_0 a1_1 t423 false _ A5.out).mono ?_);rintro e w23 ⟨rfl,hb⟩;refine ⟨_,rfl,?_⟩;have n0_:=zz00 (zz34 (g:=gb417) (o:=.cells #[.int .i64 a1_0,.bool a1_1] 23 (0,0)) (by (with_reducible repeat (first|refine zz07 ?_ _|refine zz09 ?_|refine zz08 ?_ _));refine zz33 ?_ NB417_422.out _;(with_reducible repeat (first|refine zz07 ?_ _|refine zz09 ?_|refine zz08 ?_ _));refine zz33 ?_ NB417_422.out _;(with_reducible repeat (first|refine zz07 ?_ _|refine zz09 ?_|refine zz08 ?_ _));refine zz33 ?_ NB417_422.out _;(with_reducible repeat (first|refine zz07 ?_ _|refine zz09 ?_|refine zz08 ?_ _));exact BK417.out) hb);have n1_:=zz00 (zz34 (g:=gb422) (o:=.cells #[.int .i64 t418,.int .i64 t419,.bool t420] 111 (0,0)) (by (with_reducible repeat (first|refine zz07 ?_ _|refine zz09 ?_|refine zz08 ?_ _));refine zz35 (cs:=#[.int .i64 t418,.int .i64 t419,.bool false]) ?_ 2 _ rfl;(with_reducible repeat (first|refine zz07 ?_ _|refine zz09 ?_|refine zz08 ?_ _));refine zz35 (cs:=#[.int .i64 t418,.int .i64 0,.bool false]) ?_ 1 _ rfl;(with_reducible repeat (first|refine zz07 ?_ _|refine zz09 ?_|refine zz08 ?_ _));refine zz35 (cs:=#[.int .i64 0,.int .i64 0,.bool false]) ?_ 0 _ rfl;(with_reducible repeat (first|refine zz07 ?_ _|refine zz09 ?_|refine zz08 ?_ _));exact BK422.out) hb);have n2_:=zz00 (zz21 (by repeat (first|(with_reducible first|exact HB.out|apply zz03|apply zz01|apply zz02|refine zz10 ?_ GE417.out|refine zz10 ?_ GE422.out)|exact HB.out)) hb);clear BK417;clear BK422;clear HB;have BK417:=n0_;have BK422:=n1_;have HB:=n2_;clear n0_ n1_ n2_;(try clear hb);(try clear hb2);(try clear hk);(try clear hi)))
   go_ret2
   exact ⟨by first|rfl|(simp [errW_none,errW_some] <;> rfl)|(simp [*,errW_none,errW_some] <;> rfl),by repeat (first|(with_reducible first|exact HB.out|apply zz03|apply zz01|apply zz02|refine zz10 ?_ GE417.out|refine zz10 ?_ GE422.out)|exact HB.out)⟩
 ·
  rw [if_neg c4] at H
  have c4b0 : (t421 == 0) = false := zz27.mpr c4
  have c4b1 : (t421 != 0) = true := zz28.mpr c4
  simp only [zz15, zz16] at H
  obtain ⟨rfl, rfl⟩ := H
  go_enter Tryd.func163, Tryd.ntmps163
  go_wp2_with (first|((with_reducible refine zz24 (N:=3) rfl ?_);refine zz30 ?hg (N:=3) ?hd (cs:=#[.int .i64 a1_0,.bool a1_1]) (t:=23) ?hr ?_;(case hd=>rfl);(case hg=>rfl);(case hr=>first|(go_simp;done)|(go_simp;rfl));intro gb417 hg w24 hbox hb;have n0_:=zz00 (zz21 (by repeat (first|(with_reducible first|exact HB.out|apply zz03|apply zz01|apply zz02)|exact HB.out)) hb);have n1_:=zz00 (hbox);have n2_:=zz00 ((by rw [hg];exact (zz22 (by repeat (first|(with_reducible first|exact HB.out|apply zz03|apply zz01|apply zz02)|exact HB.out))) : w.heap.size ≤ gb417));have n3_:=zz00 ((by rw [hg];exact (zz22 (by repeat (first|(with_reducible first|exact HB.out|apply zz03|apply zz01|apply zz02)|exact HB.out))) : w.heap.size ≤ gb417));clear HB;have HB:=n0_;have BK417:=n1_;have GW417:=n2_;have GE417:=n3_;clear n0_ n1_ n2_ n3_;clear hb hbox hg)|((with_reducible refine zz23 (f:=127) rfl ?_);refine zz25 (some 12) rfl rfl Tryd.func127 (by kernel_rfl) rfl #[.int .i64 a0] rfl (by (try simp only [List.map_toArray,List.map_cons,List.map_nil]);first|done|rfl|(simp only [List.length_drop,List.length_take];rfl)) ?_;(with_reducible refine (r07_Of.calls k a0 t418 t419 t420 t421 _ A3.out).mono ?_);rintro e w25 ⟨rfl,hb⟩;refine ⟨_,rfl,?_⟩;have n0_:=zz00 (zz34 (g:=gb417) (o:=.cells #[.int .i64 a1_0,.bool a1_1] 23 (0,0)) (by (with_reducible repeat (first|refine zz07 ?_ _|refine zz09 ?_|refine zz08 ?_ _));exact BK417.out) hb);have n1_:=zz00 (zz21 (by repeat (first|(with_reducible first|exact HB.out|apply zz03|apply zz01|apply zz02|refine zz10 ?_ GE417.out)|exact HB.out)) hb);clear BK417;clear HB;have BK417:=n0_;have HB:=n1_;clear n0_ n1_;(try clear hb);(try clear hb2);(try clear hk);(try clear hi))|((with_reducible refine zz24 (N:=6) rfl ?_);refine zz30 ?hg (N:=6) ?hd (cs:=#[.int .i64 0,.int .i64 0,.bool false]) (t:=111) ?hr ?_;(case hd=>rfl);(case hg=>rfl);(case hr=>first|(go_simp;done)|(go_simp;rfl));intro gb422 hg w26 hbox hb;have n0_:=zz00 (zz34 (g:=gb417) (o:=.cells #[.int .i64 a1_0,.bool a1_1] 23 (0,0)) (by (with_reducible repeat (first|refine zz07 ?_ _|refine zz09 ?_|refine zz08 ?_ _));exact BK417.out) hb);have n1_:=zz00 (zz21 (by repeat (first|(with_reducible first|exact HB.out|apply zz03|apply zz01|apply zz02|refine zz10 ?_ GE417.out)|exact HB.out)) hb);have n2_:=zz00 (hbox);have n3_:=zz00 ((by rw [hg];exact (zz22 (by repeat (first|(with_reducible first|exact HB.out|apply zz03|apply zz01|apply zz02|refine zz10 ?_ GE417.out)|exact HB.out))) : w.heap.size ≤ gb422));have n4_:=zz00 ((by rw [hg];exact (zz22 (by repeat (first|(with_reducible first|exact HB.out|apply zz03|apply zz01|apply zz02|refine zz10 ?_ GE417.out)|exact HB.out))) : w.heap.size ≤ gb422));have n5_:=zz00 ((by rw [hg];exact Nat.ne_of_lt (blk_lt (g:=gb417) (o:=.cells #[.int .i64 a1_0,.bool a1_1] 23 (0,0)) (by (with_reducible repeat (first|refine zz07 ?_ _|refine zz09 ?_|refine zz08 ?_ _));exact BK417.out)) : gb417 ≠ gb422));have n6_:=zz00 ((by rw [hg];exact Nat.ne_of_gt (blk_lt (g:=gb417) (o:=.cells #[.int .i64 a1_0,.bool a1_1] 23 (0,0)) (by (with_reducible repeat (first|refine zz07 ?_ _|refine zz09 ?_|refine zz08 ?_ _));exact BK417.out)) : gb422 ≠ gb417));clear BK417;clear HB;have BK417:=n0_;have HB:=n1_;have BK422:=n2_;have GW422:=n3_;have GE422:=n4_;have NB417_422:=n5_;have NB422_417:=n6_;clear n0_ n1_ n2_ n3_ n4_ n5_ n6_;clear hb hbox hg;have hnb27:=NB422_417.out;have hnc27:=NB417_422.out;have hcz28_0 : w26.cell? ⟨gb422,0,none⟩ = some (.int .i64 0):=(zz18 BK422.out 0).trans rfl;have hcz28_1 : w26.cell? ⟨gb422,1,none⟩ = some (.int .i64 0):=(zz18 BK422.out 1).trans rfl;have hcz28_2 : w26.cell? ⟨gb422,2,none⟩ = some (.bool false):=(zz18 BK422.out 2).trans rfl;have hfz28_0:=zz17 BK422.out 0;have hfz28_1:=zz17 BK422.out 1;have hfz28_2:=zz17 BK422.out 2))
  go_ret2
  exact ⟨by first|rfl|(simp [errW_none,errW_some] <;> rfl)|(simp [*,errW_none,errW_some] <;> rfl),by repeat (first|(with_reducible first|exact HB.out|apply zz03|apply zz01|apply zz02|refine zz10 ?_ GE417.out|refine zz10 ?_ GE422.out)|exact HB.out)⟩

def r10_Check.f (k : Nat) (a0_0 : Int) (a0_1 : Int) (a0_2 : Bool) (a0_3 : Int) : Option (Int) := (r10_Last.f k a0_0 a0_1 a0_2).bind fun bt427 => (if bt427.2 = 0 then (if a0_3 < 1 then (some 4) else (if a0_3 > bt427.1 then (some 4) else (some 0))) else (some bt427.2))
set_option maxHeartbeats 8000000 in
set_option maxRecDepth 100000 in
theorem r10_Check.calls (k : Nat) (a0_0 : Int) (a0_1 : Int) (a0_2 : Bool) (a0_3 : Int) (r : Int) (w : World) (h : r10_Check.f k a0_0 a0_1 a0_2 a0_3 = some r) :
  Calls Tryd.prog 126 #[.agg #[.int .i64 a0_0, .int .i64 a0_1, .bool a0_2, .int .i64 a0_3]] w fun e w' => e = .returned (.int .i64 r) ∧ Below w.heap.size w w' := by
 have hu77 := Tryd.underlying77
 have hu23 := Tryd.underlying23
 have HB := zz00 (Below.refl w.heap.size w)
 have H : ((r10_Last.f k a0_0 a0_1 a0_2).bind fun bt427=>(if bt427.2 = 0 then (if a0_3 < 1 then (some 4) else (if a0_3 > bt427.1 then (some 4) else (some 0))) else (some bt427.2))) = some r:=h
 clear h
 replace H := zz14.mp H
 obtain ⟨⟨t427, t428⟩, A20, H⟩ := H
 replace H : (if t428 = 0 then (if a0_3 < 1 then (some 4) else (if a0_3 > t427 then (some 4) else (some 0))) else (some t428)) = some r := H
 have A2 := zz00 A20
 clear A20
 by_cases c3 : t428 = 0
 ·
  rw [if_pos c3] at H
  have c3b0 : (t428 == 0) = true := zz29.mpr c3
  have c3b1 : (t428 != 0) = false := zz26.mpr c3
  clear c3
  by_cases c4 : a0_3 < 1
  ·
   rw [if_pos c4] at H
   have c4b0 : decide (a0_3 < 1) = true := decide_eq_true c4
   clear c4
   obtain rfl := Option.some.inj H
   go_enter Tryd.func126, Tryd.ntmps126
   go_wp2_with (first|((with_reducible refine zz24 (N:=1) rfl ?_);refine zz30 ?hg (N:=1) ?hd (cs:=#[.int .i64 a0_0,.int .i64 a0_1,.bool a0_2,.int .i64 a0_3]) (t:=77) ?hr ?_;(case hd=>rfl);(case hg=>rfl);(case hr=>first|(go_simp;done)|(go_simp;rfl));intro gb426 hg w5 hbox hb;have n0_:=zz00 (zz21 (by repeat (first|(with_reducible first|exact HB.out|apply zz03|apply zz01|apply zz02)|exact HB.out)) hb);have n1_:=zz00 (hbox);have n2_:=zz00 ((by rw [hg];exact (zz22 (by repeat (first|(with_reducible first|exact HB.out|apply zz03|apply zz01|apply zz02)|exact HB.out))) : w.heap.size ≤ gb426));have n3_:=zz00 ((by rw [hg];exact (zz22 (by repeat (first|(with_reducible first|exact HB.out|apply zz03|apply zz01|apply zz02)|exact HB.out))) : w.heap.size ≤ gb426));clear HB;have HB:=n0_;have BK426:=n1_;have GW426:=n2_;have GE426:=n3_;clear n0_ n1_ n2_ n3_;clear hb hbox hg;have hcz6_0 : w5.cell? ⟨gb426,0,none⟩ = some (.int .i64 a0_0):=(zz18 BK426.out 0).trans rfl;have hcz6_1 : w5.cell? ⟨gb426,1,none⟩ = some (.int .i64 a0_1):=(zz18 BK426.out 1).trans rfl;have hcz6_2 : w5.cell? ⟨gb426,2,none⟩ = some (.bool a0_2):=(zz18 BK426.out 2).trans rfl;have hcz6_3 : w5.cell? ⟨gb426,3,none⟩ = some (.int .i64 a0_3):=(zz18 BK426.out 3).trans rfl;have hfz6_0:=zz17 BK426.out 0;have hfz6_1:=zz17 BK426.out 1;have hfz6_2:=zz17 BK426.out 2;have hfz6_3:=zz17 BK426.out 3)|((with_reducible refine zz23 (f:=163) rfl ?_);refine zz25 (some 10) rfl rfl Tryd.func163 (by kernel_rfl) rfl #[.int .i64 a0_0,.agg #[.int .i64 a0_1,.bool a0_2]] rfl (by (try simp only [List.map_toArray,List.map_cons,List.map_nil]);first|done|rfl|(simp only [List.length_drop,List.length_take];rfl)) ?_;(with_reducible refine (r10_Last.calls k a0_0 a0_1 a0_2 t427 t428 _ A2.out).mono ?_);rintro e w7 ⟨rfl,hb⟩;refine ⟨_,rfl,?_⟩;have n0_:=zz00 (zz34 (g:=gb426) (o:=.cells #[.int .i64 a0_0,.int .i64 a0_1,.bool a0_2,.int .i64 a0_3] 77 (0,0)) (by (with_reducible repeat (first|refine zz07 ?_ _|refine zz09 ?_|refine zz08 ?_ _));exact BK426.out) hb);have n1_:=zz00 (zz21 (by repeat (first|(with_reducible first|exact HB.out|apply zz03|apply zz01|apply zz02|refine zz10 ?_ GE426.out)|exact HB.out)) hb);clear BK426;clear HB;have BK426:=n0_;have HB:=n1_;clear n0_ n1_;(try clear hb);(try clear hb2);(try clear hk);(try clear hi);have hcz8_0 : w7.cell? ⟨gb426,0,none⟩ = some (.int .i64 a0_0):=(zz18 BK426.out 0).trans rfl;have hcz8_1 : w7.cell? ⟨gb426,1,none⟩ = some (.int .i64 a0_1):=(zz18 BK426.out 1).trans rfl;have hcz8_2 : w7.cell? ⟨gb426,2,none⟩ = some (.bool a0_2):=(zz18 BK426.out 2).trans rfl;have hcz8_3 : w7.cell? ⟨gb426,3,none⟩ = some (.int .i64 a0_3):=(zz18 BK426.out 3).trans rfl;have hfz8_0:=zz17 BK426.out 0;have hfz8_1:=zz17 BK426.out 1;have hfz8_2:=zz17 BK426.out 2;have hfz8_3:=zz17 BK426.out 3))
   go_ret
   exact ⟨by first|rfl|(simp [errW_none,errW_some] <;> rfl)|(simp [*,errW_none,errW_some] <;> rfl),by repeat (first|(with_reducible first|exact HB.out|apply zz03|apply zz01|apply zz02|refine zz10 ?_ GE426.out)|exact HB.out)⟩
  ·
   rw [if_neg c4] at H
   have c4b0 : decide (a0_3 < 1) = false := decide_eq_false c4
   clear c4
   by_cases c9 : a0_3 > t427
   ·
    rw [if_pos c9] at H
    have c9b0 : decide (t427 < a0_3) = true := decide_eq_true c9
    clear c9
    obtain rfl := Option.some.inj H
    go_enter Tryd.func126, Tryd.ntmps126
    go_wp2_with (first|((with_reducible refine zz24 (N:=1) rfl ?_);refine zz30 ?hg (N:=1) ?hd (cs:=#[.int .i64 a0_0,.int .i64 a0_1,.bool a0_2,.int .i64 a0_3]) (t:=77) ?hr ?_;(case hd=>rfl);(case hg=>rfl);(case hr=>first|(go_simp;done)|(go_simp;rfl));intro gb426 hg w10 hbox hb;have n0_:=zz00 (zz21 (by repeat (first|(with_reducible first|exact HB.out|apply zz03|apply zz01|apply zz02)|exact HB.out)) hb);have n1_:=zz00 (hbox);have n2_:=zz00 ((by rw [hg];exact (zz22 (by repeat (first|(with_reducible first|exact HB.out|apply zz03|apply zz01|apply zz02)|exact HB.out))) : w.heap.size ≤ gb426));have n3_:=zz00 ((by rw [hg];exact (zz22 (by repeat (first|(with_reducible first|exact HB.out|apply zz03|apply zz01|apply zz02)|exact HB.out))) : w.heap.size ≤ gb426));clear HB;have HB:=n0_;have BK426:=n1_;have GW426:=n2_;have GE426:=n3_;clear n0_ n1_ n2_ n3_;clear hb hbox hg;have hcz11_0 : w10.cell? ⟨gb426,0,none⟩ = some (.int .i64 a0_0):=(zz18 BK426.out 0).trans rfl;have hcz11_1 : w10.cell? ⟨gb426,1,none⟩ = some (.int .i64 a0_1):=(zz18 BK426.out 1).trans rfl;have hcz11_2 : w10.cell? ⟨gb426,2,none⟩ = some (.bool a0_2):=(zz18 BK426.out 2).trans rfl;have hcz11_3 : w10.cell? ⟨gb426,3,none⟩ = some (.int .i64 a0_3):=(zz18 BK426.out 3).trans rfl;have hfz11_0:=zz17 BK426.out 0;have hfz11_1:=zz17 BK426.out 1;have hfz11_2:=zz17 BK426.out 2;have hfz11_3:=zz17 BK426.out 3)|((with_reducible refine zz23 (f:=163) rfl ?_);refine zz25 (some 10) rfl rfl Tryd.func163 (by kernel_rfl) rfl #[.int .i64 a0_0,.agg #[.int .i64 a0_1,.bool a0_2]] rfl (by (try simp only [List.map_toArray,List.map_cons,List.map_nil]);first|done|rfl|(simp only [List.length_drop,List.length_take];rfl)) ?_;(with_reducible refine (r10_Last.calls k a0_0 a0_1 a0_2 t427 t428 _ A2.out).mono ?_);rintro e w12 ⟨rfl,hb⟩;refine ⟨_,rfl,?_⟩;have n0_:=zz00 (zz34 (g:=gb426) (o:=.cells #[.int .i64 a0_0,.int .i64 a0_1,.bool a0_2,.int .i64 a0_3] 77 (0,0)) (by (with_reducible repeat (first|refine zz07 ?_ _|refine zz09 ?_|refine zz08 ?_ _));exact BK426.out) hb);have n1_:=zz00 (zz21 (by repeat (first|(with_reducible first|exact HB.out|apply zz03|apply zz01|apply zz02|refine zz10 ?_ GE426.out)|exact HB.out)) hb);clear BK426;clear HB;have BK426:=n0_;have HB:=n1_;clear n0_ n1_;(try clear hb);(try clear hb2);(try clear hk);(try clear hi);have hcz13_0 : w12.cell? ⟨gb426,0,none⟩ = some (.int .i64 a0_0):=(zz18 BK426.out 0).trans rfl;have hcz13_1 : w12.cell? ⟨gb426,1,none⟩ = some (.int .i64 a0_1):=(zz18 BK426.out 1).trans rfl;have hcz13_2 : w12.cell? ⟨gb426,2,none⟩ = some (.bool a0_2):=(zz18 BK426.out 2).trans rfl;have hcz13_3 : w12.cell? ⟨gb426,3,none⟩ = some (.int .i64 a0_3):=(zz18 BK426.out 3).trans rfl;have hfz13_0:=zz17 BK426.out 0;have hfz13_1:=zz17 BK426.out 1;have hfz13_2:=zz17 BK426.out 2;have hfz13_3:=zz17 BK426.out 3))
    go_ret
    exact ⟨by first|rfl|(simp [errW_none,errW_some] <;> rfl)|(simp [*,errW_none,errW_some] <;> rfl),by repeat (first|(with_reducible first|exact HB.out|apply zz03|apply zz01|apply zz02|refine zz10 ?_ GE426.out)|exact HB.out)⟩
   ·
    rw [if_neg c9] at H
    have c9b0 : decide (t427 < a0_3) = false := decide_eq_false c9
    clear c9
    obtain rfl := Option.some.inj H
    go_enter Tryd.func126, Tryd.ntmps126
    go_wp2_with (first|((with_reducible refine zz24 (N:=1) rfl ?_);refine zz30 ?hg (N:=1) ?hd (cs:=#[.int .i64 a0_0,.int .i64 a0_1,.bool a0_2,.int .i64 a0_3]) (t:=77) ?hr ?_;(case hd=>rfl);(case hg=>rfl);(case hr=>first|(go_simp;done)|(go_simp;rfl));intro gb426 hg w14 hbox hb;have n0_:=zz00 (zz21 (by repeat (first|(with_reducible first|exact HB.out|apply zz03|apply zz01|apply zz02)|exact HB.out)) hb);have n1_:=zz00 (hbox);have n2_:=zz00 ((by rw [hg];exact (zz22 (by repeat (first|(with_reducible first|exact HB.out|apply zz03|apply zz01|apply zz02)|exact HB.out))) : w.heap.size ≤ gb426));have n3_:=zz00 ((by rw [hg];exact (zz22 (by repeat (first|(with_reducible first|exact HB.out|apply zz03|apply zz01|apply zz02)|exact HB.out))) : w.heap.size ≤ gb426));clear HB;have HB:=n0_;have BK426:=n1_;have GW426:=n2_;have GE426:=n3_;clear n0_ n1_ n2_ n3_;clear hb hbox hg;have hcz15_0 : w14.cell? ⟨gb426,0,none⟩ = some (.int .i64 a0_0):=(zz18 BK426.out 0).trans rfl;have hcz15_1 : w14.cell? ⟨gb426,1,none⟩ = some (.int .i64 a0_1):=(zz18 BK426.out 1).trans rfl;have hcz15_2 : w14.cell? ⟨gb426,2,none⟩ = some (.bool a0_2):=(zz18 BK426.out 2).trans rfl;have hcz15_3 : w14.cell? ⟨gb426,3,none⟩ = some (.int .i64 a0_3):=(zz18 BK426.out 3).trans rfl;have hfz15_0:=zz17 BK426.out 0;have hfz15_1:=zz17 BK426.out 1;have hfz15_2:=zz17 BK426.out 2;have hfz15_3:=zz17 BK426.out 3)|((with_reducible refine zz23 (f:=163) rfl ?_);refine zz25 (some 10) rfl rfl Tryd.func163 (by kernel_rfl) rfl #[.int .i64 a0_0,.agg #[.int .i64 a0_1,.bool a0_2]] rfl (by (try simp only [List.map_toArray,List.map_cons,List.map_nil]);first|done|rfl|(simp only [List.length_drop,List.length_take];rfl)) ?_;(with_reducible refine (r10_Last.calls k a0_0 a0_1 a0_2 t427 t428 _ A2.out).mono ?_);rintro e w16 ⟨rfl,hb⟩;refine ⟨_,rfl,?_⟩;have n0_:=zz00 (zz34 (g:=gb426) (o:=.cells #[.int .i64 a0_0,.int .i64 a0_1,.bool a0_2,.int .i64 a0_3] 77 (0,0)) (by (with_reducible repeat (first|refine zz07 ?_ _|refine zz09 ?_|refine zz08 ?_ _));exact BK426.out) hb);have n1_:=zz00 (zz21 (by repeat (first|(with_reducible first|exact HB.out|apply zz03|apply zz01|apply zz02|refine zz10 ?_ GE426.out)|exact HB.out)) hb);clear BK426;clear HB;have BK426:=n0_;have HB:=n1_;clear n0_ n1_;(try clear hb);(try clear hb2);(try clear hk);(try clear hi);have hcz17_0 : w16.cell? ⟨gb426,0,none⟩ = some (.int .i64 a0_0):=(zz18 BK426.out 0).trans rfl;have hcz17_1 : w16.cell? ⟨gb426,1,none⟩ = some (.int .i64 a0_1):=(zz18 BK426.out 1).trans rfl;have hcz17_2 : w16.cell? ⟨gb426,2,none⟩ = some (.bool a0_2):=(zz18 BK426.out 2).trans rfl;have hcz17_3 : w16.cell? ⟨gb426,3,none⟩ = some (.int .i64 a0_3):=(zz18 BK426.out 3).trans rfl;have hfz17_0:=zz17 BK426.out 0;have hfz17_1:=zz17 BK426.out 1;have hfz17_2:=zz17 BK426.out 2;have hfz17_3:=zz17 BK426.out 3))
    go_ret
    exact ⟨by first|rfl|(simp [errW_none,errW_some] <;> rfl)|(simp [*,errW_none,errW_some] <;> rfl),by repeat (first|(with_reducible first|exact HB.out|apply zz03|apply zz01|apply zz02|refine zz10 ?_ GE426.out)|exact HB.out)⟩
 ·
  rw [if_neg c3] at H
  have c3b0 : (t428 == 0) = false := zz27.mpr c3
  have c3b1 : (t428 != 0) = true := zz28.mpr c3
  obtain rfl := Option.some.inj H
  go_enter Tryd.func126, Tryd.ntmps126
  go_wp2_with (first|((with_reducible refine zz24 (N:=1) rfl ?_);refine zz30 ?hg (N:=1) ?hd (cs:=#[.int .i64 a0_0,.int .i64 a0_1,.bool a0_2,.int .i64 a0_3]) (t:=77) ?hr ?_;(case hd=>rfl);(case hg=>rfl);(case hr=>first|(go_simp;done)|(go_simp;rfl));intro gb426 hg w18 hbox hb;have n0_:=zz00 (zz21 (by repeat (first|(with_reducible first|exact HB.out|apply zz03|apply zz01|apply zz02)|exact HB.out)) hb);have n1_:=zz00 (hbox);have n2_:=zz00 ((by rw [hg];exact (zz22 (by repeat (first|(with_reducible first|exact HB.out|apply zz03|apply zz01|apply zz02)|exact HB.out))) : w.heap.size ≤ gb426));have n3_:=zz00 ((by rw [hg];exact (zz22 (by repeat (first|(with_reducible first|exact HB.out|apply zz03|apply zz01|apply zz02)|exact HB.out))) : w.heap.size ≤ gb426));clear HB;have HB:=n0_;have BK426:=n1_;have GW426:=n2_;have GE426:=n3_;clear n0_ n1_ n2_ n3_;clear hb hbox hg;have hcz19_0 : w18.cell? ⟨gb426,0,none⟩ = some (.int .i64 a0_0):=(zz18 BK426.out 0).trans rfl;have hcz19_1 : w18.cell? ⟨gb426,1,none⟩ = some (.int .i64 a0_1):=(zz18 BK426.out 1).trans rfl;have hcz19_2 : w18.cell? ⟨gb426,2,none⟩ = some (.bool a0_2):=(zz18 BK426.out 2).trans rfl;have hcz19_3 : w18.cell? ⟨gb426,3,none⟩ = some (.int .i64 a0_3):=(zz18 BK426.out 3).trans rfl;have hfz19_0:=zz17 BK426.out 0;have hfz19_1:=zz17 BK426.out 1;have hfz19_2:=zz17 BK426.out 2;have hfz19_3:=zz17 BK426.out 3)|((with_reducible refine zz23 (f:=163) rfl ?_);refine zz25 (some 10) rfl rfl Tryd.func163 (by kernel_rfl) rfl #[.int .i64 a0_0,.agg #[.int .i64 a0_1,.bool a0_2]] rfl (by (try simp only [List.map_toArray,List.map_cons,List.map_nil]);first|done|rfl|(simp only [List.length_drop,List.length_take];rfl)) ?_;(with_reducible refine (r10_Last.calls k a0_0 a0_1 a0_2 t427 t428 _ A2.out).mono ?_);rintro e w20 ⟨rfl,hb⟩;refine ⟨_,rfl,?_⟩;have n0_:=zz00 (zz34 (g:=gb426) (o:=.cells #[.int .i64 a0_0,.int .i64 a0_1,.bool a0_2,.int .i64 a0_3] 77 (0,0)) (by (with_reducible repeat (first|refine zz07 ?_ _|refine zz09 ?_|refine zz08 ?_ _));exact BK426.out) hb);have n1_:=zz00 (zz21 (by repeat (first|(with_reducible first|exact HB.out|apply zz03|apply zz01|apply zz02|refine zz10 ?_ GE426.out)|exact HB.out)) hb);clear BK426;clear HB;have BK426:=n0_;have HB:=n1_;clear n0_ n1_;(try clear hb);(try clear hb2);(try clear hk);(try clear hi)))
  go_ret
  exact ⟨by first|rfl|(simp [errW_none,errW_some] <;> rfl)|(simp [*,errW_none,errW_some] <;> rfl),by repeat (first|(with_reducible first|exact HB.out|apply zz03|apply zz01|apply zz02|refine zz10 ?_ GE426.out)|exact HB.out)⟩

end Go.Proofs.YtflpddhoiafhcaaDoor.T
end
