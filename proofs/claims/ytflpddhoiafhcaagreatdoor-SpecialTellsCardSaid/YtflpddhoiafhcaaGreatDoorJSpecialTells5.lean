/- Texts of the proof of 'SpecialTells', joined by a program (part 5): contracts of functions, plain laws. -/
import Derived.Test.YtflpddhoiafhcaaGreatDoorJSpecialTells0
import Derived.Test.YtflpddhoiafhcaaGreatDoorJSpecialTells2
import Derived.Test.YtflpddhoiafhcaaGreatDoorJSpecialTells4
set_option linter.unusedVariables false
set_option linter.unusedSimpArgs false
section
-- Written by wip/hprint.py of this repo (holes typed by hand, all else by a program) over the seat YtflpddhoiafhcaaGreatDoor.
namespace Go.Proofs.YtflpddhoiafhcaaGreatDoor.S
open Go.Proofs.YtflpddhoiafhcaaGreatDoor.H
open Go.RowKit Go.Proofs.YtflpddhoiafhcaaGreatDoorW.PrintWords Go.Proofs.YtflpddhoiafhcaaGreatDoorW.PrintLast Go.Proofs.YtflpddhoiafhcaaGreatDoorW.PrintMore
attribute [local go_sem] max2_int min2_int max_two min_two max_three min_three max_four min_four   -- for this text's walks alone
set_option linter.unusedVariables false
set_option linter.unusedSimpArgs false

attribute [local go_sem high] eqA32
def almanackerref05_First.f (k : Nat) (a0 : Int) : Option (Int × Int) := (almanackerref04_Of.f k a0 1).bind fun bt232 => (if bt232.2.2 = 0 then ((almanackerref03_Is.f a0).bind fun t236 => ((almanackerref03_Is.f (wrap64 (a0 - 1))).bind fun t237 => ((almanackerref05_Delay.f k bt232.1 bt232.2.1 t236 t237).bind fun t238 => (some (wrap64 (bt232.1 + t238), 0))))) else (some (0, bt232.2.2)))
def almanackerref05_First.T4 : Bool × List (List Nat × List Nat) := (true, [([], []), ([0], [0]), ([], []), ([], []), ([3], [3]), ([], []), ([5], [5]), ([6, 4], [6]), ([2, 4, 7, 7], [2, 4, 7]), ([1, 8], [1, 8]), ([9, 8, 0, 1, 2, 3, 4, 5, 6, 7, 8, 9], [9]), ([10, 0, 1, 2, 3, 4, 5, 6, 7, 8, 9, 10], [])])
def almanackerref05_First.B4 : List Nat := [0, 1, 0, 0, 8, 0, 32, 120, 252, 511, 1023, 2047]
theorem almanackerref05_First.tab4 : rtab .any (opsOf Tryz.f98 4) = almanackerref05_First.T4 := by kernel_rfl
theorem almanackerref05_First.bits4 : waitsOk almanackerref05_First.T4.2 almanackerref05_First.B4 = true := by kernel_rfl
set_option maxHeartbeats 8000000 in
set_option maxRecDepth 100000 in
theorem almanackerref05_First.calls (k : Nat) (a0 : Int) (r1 : Int) (r2 : Int) (w : World) (h : almanackerref05_First.f k a0 = some (r1, r2)) :
  Calls Tryz.prog 98 #[.int .i64 a0] w fun e w' => e = .returned (.tuple #[.int .i64 r1, .int .i64 r2]) ∧ Below w.heap.size w w' := by
 have hu147 := Tryz.underlying147
 have HB := zz00 (Below.refl w.heap.size w)
 have H : ((almanackerref04_Of.f k a0 1).bind fun bt232=>(if bt232.2.2 = 0 then ((almanackerref03_Is.f a0).bind fun t236=>((almanackerref03_Is.f (wrap64 (a0 - 1))).bind fun t237=>((almanackerref05_Delay.f k bt232.1 bt232.2.1 t236 t237).bind fun t238=>(some (wrap64 (bt232.1 + t238),0))))) else (some (0,bt232.2.2)))) = some (r1,r2):=h
 clear h
 replace H := zz14.mp H
 obtain ⟨⟨t232, t233, t234⟩, A20, H⟩ := H
 replace H : (if t234 = 0 then ((almanackerref03_Is.f a0).bind fun t236=>((almanackerref03_Is.f (wrap64 (a0 - 1))).bind fun t237=>((almanackerref05_Delay.f k t232 t233 t236 t237).bind fun t238=>(some (wrap64 (t232 + t238),0))))) else (some (0,t234))) = some (r1,r2):=H
 have A2 := zz00 A20
 clear A20
 by_cases c3 : t234 = 0
 ·
  rw [if_pos c3] at H
  have c3b0 : (t234 == 0) = true := zz29.mpr c3
  have c3b1 : (t234 != 0) = false := zz26.mpr c3
  clear c3
  replace H := zz14.mp H
  obtain ⟨t236, A40, H⟩ := H
  replace H : ((almanackerref03_Is.f (wrap64 (a0 - 1))).bind fun t237 => ((almanackerref05_Delay.f k t232 t233 t236 t237).bind fun t238 => (some (wrap64 (t232 + t238), 0)))) = some (r1, r2) := H
  have A4 := zz00 A40
  clear A40
  replace H := zz14.mp H
  obtain ⟨t237, A50, H⟩ := H
  replace H : ((almanackerref05_Delay.f k t232 t233 t236 t237).bind fun t238 => (some (wrap64 (t232 + t238), 0))) = some (r1, r2) := H
  have A5 := zz00 A50
  clear A50
  replace H := zz14.mp H
  obtain ⟨t238, A60, H⟩ := H
  replace H : (some (wrap64 (t232 + t238), 0)) = some (r1, r2) := H
  have A6 := zz00 A60
  clear A60
  simp only [zz15, zz16] at H
  obtain ⟨rfl, rfl⟩ := H
  go_enter Tryz.func98, Tryz.ntmps98
  try go_wp2_with (first|((with_reducible refine zz23 (f:=146) rfl ?_);refine zz25 (some 8) rfl rfl Tryz.func146 (by kernel_rfl) rfl #[.int .i64 a0,.int .i64 1] rfl (by (try simp only [List.map_toArray,List.map_cons,List.map_nil]);first|done|rfl|(simp only [List.length_drop,List.length_take];rfl)) ?_;(with_reducible refine (almanackerref04_Of.calls k a0 1 t232 t233 t234 _ A2.out).mono ?_);rintro e w7 ⟨rfl,hb⟩;refine ⟨_,rfl,?_⟩;have n0_:=zz00 (zz21 (by repeat (first|(with_reducible first|exact HB.out|apply zz03|apply zz01|apply zz02)|exact HB.out)) hb);clear HB;have HB:=n0_;clear n0_;(try clear hb);(try clear hb2);(try clear hk);(try clear hi))|((with_reducible refine zz24 (N:=4) rfl ?_);refine zz30 ?hg (N:=4) ?hd (cs:=#[.int .i64 0,.int .i64 0]) (t:=147) ?hr ?_;(case hd=>rfl);(case hg=>rfl);(case hr=>first|(go_simp;done)|(go_simp;rfl));intro gb235 hg w8 hbox hb;have n0_:=zz00 (zz21 (by repeat (first|(with_reducible first|exact HB.out|apply zz03|apply zz01|apply zz02)|exact HB.out)) hb);have n1_:=zz00 (hbox);have n2_:=zz00 ((by rw [hg];exact (zz22 (by repeat (first|(with_reducible first|exact HB.out|apply zz03|apply zz01|apply zz02)|exact HB.out))) : w.heap.size ≤ gb235));have n3_:=zz00 ((by rw [hg];exact (zz22 (by repeat (first|(with_reducible first|exact HB.out|apply zz03|apply zz01|apply zz02)|exact HB.out))) : w.heap.size ≤ gb235));clear HB;have HB:=n0_;have BK235:=n1_;have GW235:=n2_;have GE235:=n3_;clear n0_ n1_ n2_ n3_;clear hb hbox hg;have hcz9_0 : w8.cell? ⟨gb235,0,none⟩ = some (.int .i64 0):=(zz18 BK235.out 0).trans rfl;have hcz9_1 : w8.cell? ⟨gb235,1,none⟩ = some (.int .i64 0):=(zz18 BK235.out 1).trans rfl;have hfz9_0:=zz17 BK235.out 0;have hfz9_1:=zz17 BK235.out 1))
  have n0_ : Aside0 (((w8.setCell ⟨gb235,0,none⟩ (.int .i64 t232)).setCell ⟨gb235,1,none⟩ (.int .i64 t233)).heap[gb235]? = some (.cells #[.int .i64 t232,.int .i64 t233] 147 (0,0))):=⟨by (with_reducible repeat (first|refine zz07 ?_ _|refine zz09 ?_|refine zz08 ?_ _));refine zz35 (cs:=#[.int .i64 t232,.int .i64 0]) ?_ 1 _ rfl;(with_reducible repeat (first|refine zz07 ?_ _|refine zz09 ?_|refine zz08 ?_ _));refine zz35 (cs:=#[.int .i64 0,.int .i64 0]) ?_ 0 _ rfl;(with_reducible repeat (first|refine zz07 ?_ _|refine zz09 ?_|refine zz08 ?_ _));exact BK235.out⟩
  have n1_ : Aside0 (Below w.heap.size w ((w8.setCell ⟨gb235,0,none⟩ (.int .i64 t232)).setCell ⟨gb235,1,none⟩ (.int .i64 t233))):=⟨by repeat (first|(with_reducible first|exact HB.out|apply zz03|apply zz01|apply zz02|refine zz10 ?_ GE235.out)|exact HB.out)⟩
  (try clear BK235)
  (try clear HB)
  generalize ((w8.setCell ⟨gb235, 0, none⟩ (.int .i64 t232)).setCell ⟨gb235, 1, none⟩ (.int .i64 t233)) = w10 at n0_ n1_ ⊢
  have BK235 := n0_
  have HB := n1_
  clear n0_ n1_
  have n0_ := zz00 (zz09 BK235.out)
  have n1_ := zz00 (zz02 HB.out)
  clear BK235
  clear HB
  have BK235 := n0_
  have HB := n1_
  clear n0_ n1_
  refine start_ (n:=12) (S:=fun w'=>w'.cell? ⟨gb235,0,none⟩ = some (.int .i64 t232) ∧ w'.cell? ⟨gb235,1,none⟩ = some (.int .i64 t233)) (ds:=[]) #[false,false,false,false,false,false,false,false,false,false,false,false] (by kernel_rfl) rfl rfl ⟨(zz18 BK235.out 0).trans rfl,(zz18 BK235.out 1).trans rfl⟩ (fun hHeld=>?_);refine with_tabW almanackerref05_First.tab4 almanackerref05_First.bits4 (fun HT_ HW_=>?_)
  generalize w10.drew = w11 at BK235 HB hHeld ⊢
  refine pure_ (i:=0) (N:=some 14) (v:=?_) (a':=?_) #[true,false,false,false,false,false,false,false,false,false,false,false] rfl rfl (any_of HT_.out (by kernel_rfl)) (fun _ _ _ h=>h) (Or.inl ⟨by rfl,?_⟩) ?_ ?_
  rotate_left
  ·
   intro w'
   go_simp
   with_reducible rfl
  rotate_left
  ·
   simp only [Act.put, zz11, zz12, zz13, i64_w, i32_w]
   rfl
  refine pure_ (i:=3) (N:=some 17) (v:=?_) (a':=?_) #[true,false,false,true,false,false,false,false,false,false,false,false] rfl rfl (any_of HT_.out (by kernel_rfl)) (fun _ _ _ h=>h) (Or.inl ⟨by rfl,?_⟩) ?_ ?_
  rotate_left
  ·
   intro w'
   go_simp
   with_reducible rfl
  rotate_left
  ·
   simp only [Act.put, zz11, zz12, zz13, i64_w, i32_w]
   rfl
  refine pure_ (i:=5) (N:=some 19) (v:=?_) (a':=?_) #[true,false,false,true,false,true,false,false,false,false,false,false] rfl rfl (any_of HT_.out (by kernel_rfl)) (fun _ _ _ h=>h) (Or.inl ⟨by rfl,?_⟩) ?_ ?_
  rotate_left
  ·
   intro w'
   go_simp
   with_reducible rfl
  rotate_left
  ·
   simp only [Act.put, zz11, zz12, zz13, i64_w, i32_w]
   rfl
  refine pure_ (i:=6) (N:=some 20) (v:=?_) (a':=?_) #[true,false,false,true,false,true,true,false,false,false,false,false] rfl rfl (any_of HT_.out (by kernel_rfl)) (fun _ _ _ h=>h) (Or.inl ⟨by rfl,?_⟩) ?_ ?_
  rotate_left
  ·
   intro w'
   go_simp
   with_reducible rfl
  rotate_left
  ·
   simp only [Act.put, zz11, zz12, zz13, i64_w, i32_w]
   rfl
  refine take_ (i:=1) (N:=some 15) (v:=?_) (a':=?_) #[true,true,false,true,false,true,true,false,false,false,false,false] rfl rfl (take_ofW HT_.out HW_.out (by kernel_rfl)) (fun _ _ _ h=>h) (Or.inl ⟨by rfl,?_⟩) hHeld ?_ ?_
  rotate_left
  ·
   rintro w' ⟨s0, s1⟩
   go_simp
   with_reducible rfl
  rotate_left
  ·
   simp only [Act.put, zz11, zz12, zz13, i64_w, i32_w]
   rfl
  refine take_ (i:=2) (N:=some 16) (v:=?_) (a':=?_) #[true,true,true,true,false,true,true,false,false,false,false,false] rfl rfl (take_ofW HT_.out HW_.out (by kernel_rfl)) (fun _ _ _ h=>h) (Or.inl ⟨by rfl,?_⟩) hHeld ?_ ?_
  rotate_left
  ·
   rintro w' ⟨s0, s1⟩
   go_simp
   with_reducible rfl
  rotate_left
  ·
   simp only [Act.put, zz11, zz12, zz13, i64_w, i32_w]
   rfl
  refine one_ (i := 4) (N := some 18) #[true, true, true, true, true, true, true, false, false, false, false, false] rfl rfl (one_of HT_.out (by kernel_rfl)) (by decide) (fun K hK => ?_)
  refine goes_ Tryz.func23 (by kernel_rfl) rfl #[.int .i64 a0] (by rfl) rfl rfl (by (try simp only [List.map_toArray,List.map_cons,List.map_nil]);first|done|rfl|(simp only [List.length_drop,List.length_take];rfl)) ?_
  with_reducible refine (almanackerref03_Is.calls a0 t236 _ A4.out).mono ?_
  rintro e w' ⟨rfl, ⟨nd, rfl⟩⟩
  refine ⟨_, rfl, ?_⟩
  refine hK.out _ _ ⟨(zz18 BK235.out 0).trans rfl, (zz18 BK235.out 1).trans rfl⟩ (fun hHeld => ?_)
  clear hK K
  refine norm_ (a' := ?_) ?_ ?_
  rotate_left
  ·
   show Act.put _ (some 18) _ = _
   simp only [Act.put, zz11, zz12, zz13, i64_w, i32_w]
   rfl
  refine one_ (i := 7) (N := some 21) #[true, true, true, true, true, true, true, true, false, false, false, false] rfl rfl (one_of HT_.out (by kernel_rfl)) (by decide) (fun K hK => ?_)
  refine goes_ Tryz.func23 (by kernel_rfl) rfl #[.int .i64 (wrap64 (a0 - 1))] (by rfl) rfl rfl (by (try simp only [List.map_toArray,List.map_cons,List.map_nil]);first|done|rfl|(simp only [List.length_drop,List.length_take];rfl)) ?_
  with_reducible refine (almanackerref03_Is.calls (wrap64 (a0 - 1)) t237 _ A5.out).mono ?_
  rintro e w' ⟨rfl, ⟨nd, rfl⟩⟩
  refine ⟨_, rfl, ?_⟩
  refine hK.out _ _ ⟨(zz18 BK235.out 0).trans rfl, (zz18 BK235.out 1).trans rfl⟩ (fun hHeld => ?_)
  clear hK K
  refine norm_ (a' := ?_) ?_ ?_
  rotate_left
  ·
   show Act.put _ (some 21) _ = _
   simp only [Act.put, zz11, zz12, zz13, i64_w, i32_w]
   rfl
  refine one_ (i := 8) (N := some 22) #[true, true, true, true, true, true, true, true, true, false, false, false] rfl rfl (one_of HT_.out (by kernel_rfl)) (by decide) (fun K hK => ?_)
  refine goes_ Tryz.func147 (by kernel_rfl) rfl #[.agg #[.int .i64 t232,.int .i64 t233],.bool t236,.bool t237] (by rfl) rfl rfl (by (try simp only [List.map_toArray,List.map_cons,List.map_nil]);first|done|rfl|(simp only [List.length_drop,List.length_take];rfl)) ?_
  with_reducible refine (almanackerref05_Delay.calls k t232 t233 t236 t237 t238 _ A6.out).mono ?_
  rintro e w12 ⟨rfl, hb⟩
  refine ⟨_, rfl, ?_⟩
  have n0_:=zz00 (zz34 (g:=gb235) (o:=.cells #[.int .i64 t232,.int .i64 t233] 147 (0,0)) (by (with_reducible repeat (first|refine zz07 ?_ _|refine zz09 ?_|refine zz08 ?_ _));exact BK235.out) hb)
  have n1_:=zz00 (zz21 (by repeat (first|(with_reducible first|exact HB.out|apply zz03|apply zz01|apply zz02|refine zz10 ?_ GE235.out)|exact HB.out)) hb)
  clear BK235
  clear HB
  have BK235 := n0_
  have HB := n1_
  clear n0_ n1_
  (try clear hb)
  (try clear hb2)
  (try clear hk)
  (try clear hi)
  refine hK.out _ _ ⟨(zz18 BK235.out 0).trans rfl, (zz18 BK235.out 1).trans rfl⟩ (fun hHeld => ?_)
  clear hK K
  refine norm_ (a' := ?_) ?_ ?_
  rotate_left
  ·
   show Act.put _ (some 22) _ = _
   simp only [Act.put, zz11, zz12, zz13, i64_w, i32_w]
   rfl
  refine pure_ (i:=9) (N:=some 23) (v:=?_) (a':=?_) #[true,true,true,true,true,true,true,true,true,true,false,false] rfl rfl (any_of HT_.out (by kernel_rfl)) (fun _ _ _ h=>h) (Or.inl ⟨by rfl,?_⟩) ?_ ?_
  rotate_left
  ·
   intro w'
   go_simp
   with_reducible rfl
  rotate_left
  ·
   simp only [Act.put, zz11, zz12, zz13, i64_w, i32_w]
   rfl
  refine pure_ (i:=10) (N:=some 2) (v:=?_) (a':=?_) #[true,true,true,true,true,true,true,true,true,true,true,false] rfl rfl (any_of HT_.out (by kernel_rfl)) (fun _ _ _ h=>h) (Or.inl ⟨by rfl,?_⟩) ?_ ?_
  rotate_left
  ·
   intro w'
   go_simp
   with_reducible rfl
  rotate_left
  ·
   simp only [Act.put, zz11, zz12, zz13, i64_w, i32_w]
   rfl
  refine pure_ (i:=11) (N:=some 3) (v:=?_) (a':=?_) #[true,true,true,true,true,true,true,true,true,true,true,true] rfl rfl (any_of HT_.out (by kernel_rfl)) (fun _ _ _ h=>h) (Or.inl ⟨by rfl,?_⟩) ?_ ?_
  rotate_left
  ·
   intro w'
   go_simp
   with_reducible rfl
  rotate_left
  ·
   simp only [Act.put, zz11, zz12, zz13, i64_w, i32_w]
   rfl
  refine done_ (done_of HT_.out (by kernel_rfl)) ?_
  try go_wp2
  go_ret2
  exact ⟨by first|rfl|(simp [errW_none,errW_some] <;> rfl)|(simp [*,errW_none,errW_some] <;> rfl),by repeat (first|(with_reducible first|exact HB.out|apply zz03|apply zz01|apply zz02|refine zz10 ?_ GE235.out)|exact HB.out)⟩
 ·
  rw [if_neg c3] at H
  have c3b0 : (t234 == 0) = false := zz27.mpr c3
  have c3b1 : (t234 != 0) = true := zz28.mpr c3
  simp only [zz15, zz16] at H
  obtain ⟨rfl, rfl⟩ := H
  go_enter Tryz.func98, Tryz.ntmps98
  go_wp2_with (first|((with_reducible refine zz23 (f:=146) rfl ?_);refine zz25 (some 8) rfl rfl Tryz.func146 (by kernel_rfl) rfl #[.int .i64 a0,.int .i64 1] rfl (by (try simp only [List.map_toArray,List.map_cons,List.map_nil]);first|done|rfl|(simp only [List.length_drop,List.length_take];rfl)) ?_;(with_reducible refine (almanackerref04_Of.calls k a0 1 t232 t233 t234 _ A2.out).mono ?_);rintro e w13 ⟨rfl,hb⟩;refine ⟨_,rfl,?_⟩;have n0_:=zz00 (zz21 (by repeat (first|(with_reducible first|exact HB.out|apply zz03|apply zz01|apply zz02)|exact HB.out)) hb);clear HB;have HB:=n0_;clear n0_;(try clear hb);(try clear hb2);(try clear hk);(try clear hi))|((with_reducible refine zz24 (N:=4) rfl ?_);refine zz30 ?hg (N:=4) ?hd (cs:=#[.int .i64 0,.int .i64 0]) (t:=147) ?hr ?_;(case hd=>rfl);(case hg=>rfl);(case hr=>first|(go_simp;done)|(go_simp;rfl));intro gb235 hg w14 hbox hb;have n0_:=zz00 (zz21 (by repeat (first|(with_reducible first|exact HB.out|apply zz03|apply zz01|apply zz02)|exact HB.out)) hb);have n1_:=zz00 (hbox);have n2_:=zz00 ((by rw [hg];exact (zz22 (by repeat (first|(with_reducible first|exact HB.out|apply zz03|apply zz01|apply zz02)|exact HB.out))) : w.heap.size ≤ gb235));have n3_:=zz00 ((by rw [hg];exact (zz22 (by repeat (first|(with_reducible first|exact HB.out|apply zz03|apply zz01|apply zz02)|exact HB.out))) : w.heap.size ≤ gb235));clear HB;have HB:=n0_;have BK235:=n1_;have GW235:=n2_;have GE235:=n3_;clear n0_ n1_ n2_ n3_;clear hb hbox hg;have hcz15_0 : w14.cell? ⟨gb235,0,none⟩ = some (.int .i64 0):=(zz18 BK235.out 0).trans rfl;have hcz15_1 : w14.cell? ⟨gb235,1,none⟩ = some (.int .i64 0):=(zz18 BK235.out 1).trans rfl;have hfz15_0:=zz17 BK235.out 0;have hfz15_1:=zz17 BK235.out 1))
  go_ret2
  exact ⟨by first|rfl|(simp [errW_none,errW_some] <;> rfl)|(simp [*,errW_none,errW_some] <;> rfl),by repeat (first|(with_reducible first|exact HB.out|apply zz03|apply zz01|apply zz02|refine zz10 ?_ GE235.out)|exact HB.out)⟩

def almanackerref07_Long.f (k : Nat) (a0 : Int) : Option (Int × Int) := (almanackerref07_Right.f a0).bind fun t239 => (if t239 = true then ((almanackerref05_First.f k a0).bind fun bt240 => ((almanackerref05_First.f k (wrap64 (a0 + 1))).bind fun bt242 => (some (wrap64 (bt242.1 - bt240.1), 0)))) else (some (0, 2)))
set_option maxHeartbeats 8000000 in
set_option maxRecDepth 100000 in
theorem almanackerref07_Long.calls (k : Nat) (a0 : Int) (r1 : Int) (r2 : Int) (w : World) (h : almanackerref07_Long.f k a0 = some (r1, r2)) :
  Calls Tryz.prog 145 #[.int .i64 a0] w fun e w' => e = .returned (.tuple #[.int .i64 r1, .int .i64 r2]) ∧ Below w.heap.size w w' := by
 have HB := zz00 (Below.refl w.heap.size w)
 have H : ((almanackerref07_Right.f a0).bind fun t239=>(if t239 = true then ((almanackerref05_First.f k a0).bind fun bt240=>((almanackerref05_First.f k (wrap64 (a0 + 1))).bind fun bt242=>(some (wrap64 (bt242.1 - bt240.1),0)))) else (some (0,2)))) = some (r1,r2):=h
 clear h
 replace H := zz14.mp H
 obtain ⟨t239, A20, H⟩ := H
 replace H : (if t239 = true then ((almanackerref05_First.f k a0).bind fun bt240=>((almanackerref05_First.f k (wrap64 (a0 + 1))).bind fun bt242=>(some (wrap64 (bt242.1 - bt240.1),0)))) else (some (0,2))) = some (r1,r2):=H
 have A2 := zz00 A20
 clear A20
 by_cases c3 : t239 = true
 ·
  subst c3
  have H1 : ((almanackerref05_First.f k a0).bind fun bt240=>((almanackerref05_First.f k (wrap64 (a0 + 1))).bind fun bt242=>(some (wrap64 (bt242.1 - bt240.1),0)))) = some (r1,r2):=by rw [if_pos rfl] at H;exact H
  clear H
  have H := H1
  clear H1
  replace H := zz14.mp H
  obtain ⟨⟨t240, t241⟩, A40, H⟩ := H
  replace H : ((almanackerref05_First.f k (wrap64 (a0 + 1))).bind fun bt242 => (some (wrap64 (bt242.1 - t240), 0))) = some (r1, r2) := H
  have A4 := zz00 A40
  clear A40
  replace H := zz14.mp H
  obtain ⟨⟨t242, t243⟩, A50, H⟩ := H
  replace H : (some (wrap64 (t242 - t240), 0)) = some (r1, r2) := H
  have A5 := zz00 A50
  clear A50
  simp only [zz15, zz16] at H
  obtain ⟨rfl, rfl⟩ := H
  go_enter Tryz.func145, Tryz.ntmps145
  go_wp2_with (first|((with_reducible refine zz23 (f:=37) rfl ?_);refine zz25 (some 9) rfl rfl Tryz.func37 (by kernel_rfl) rfl #[.int .i64 a0] rfl (by (try simp only [List.map_toArray,List.map_cons,List.map_nil]);first|done|rfl|(simp only [List.length_drop,List.length_take];rfl)) ?_;(with_reducible refine (almanackerref07_Right.calls a0 true _ A2.out).mono ?_);rintro e w' ⟨rfl,⟨nd,rfl⟩⟩;refine ⟨_,rfl,?_⟩)|((with_reducible refine zz23 (f:=98) rfl ?_);refine zz25 (some 13) rfl rfl Tryz.func98 (by kernel_rfl) rfl #[.int .i64 a0] rfl (by (try simp only [List.map_toArray,List.map_cons,List.map_nil]);first|done|rfl|(simp only [List.length_drop,List.length_take];rfl)) ?_;(with_reducible refine (almanackerref05_First.calls k a0 t240 t241 _ A4.out).mono ?_);rintro e w6 ⟨rfl,hb⟩;refine ⟨_,rfl,?_⟩;have n0_:=zz00 (zz21 (by repeat (first|(with_reducible first|exact HB.out|apply zz03|apply zz01|apply zz02)|exact HB.out)) hb);clear HB;have HB:=n0_;clear n0_;(try clear hb);(try clear hb2);(try clear hk);(try clear hi))|((with_reducible refine zz23 (f:=98) rfl ?_);refine zz25 (some 19) rfl rfl Tryz.func98 (by kernel_rfl) rfl #[.int .i64 (wrap64 (a0 + 1))] rfl (by (try simp only [List.map_toArray,List.map_cons,List.map_nil]);first|done|rfl|(simp only [List.length_drop,List.length_take];rfl)) ?_;(with_reducible refine (almanackerref05_First.calls k (wrap64 (a0 + 1)) t242 t243 _ A5.out).mono ?_);rintro e w7 ⟨rfl,hb⟩;refine ⟨_,rfl,?_⟩;have n0_:=zz00 (zz21 (by repeat (first|(with_reducible first|exact HB.out|apply zz03|apply zz01|apply zz02)|exact HB.out)) hb);clear HB;have HB:=n0_;clear n0_;(try clear hb);(try clear hb2);(try clear hk);(try clear hi)))
  go_ret2
  exact ⟨by first|rfl|(simp [errW_none,errW_some] <;> rfl)|(simp [*,errW_none,errW_some] <;> rfl),by repeat (first|(with_reducible first|exact HB.out|apply zz03|apply zz01|apply zz02)|exact HB.out)⟩
 ·
  replace c3 := zz32.mpr c3
  subst c3
  have H1 : (some (0, 2)) = some (r1, r2) := by rw [if_neg (show ¬ (false = true) by decide)] at H; exact H
  clear H
  have H := H1
  clear H1
  simp only [zz15, zz16] at H
  obtain ⟨rfl, rfl⟩ := H
  go_enter Tryz.func145, Tryz.ntmps145
  go_wp2_with (first|((with_reducible refine zz23 (f:=37) rfl ?_);refine zz25 (some 9) rfl rfl Tryz.func37 (by kernel_rfl) rfl #[.int .i64 a0] rfl (by (try simp only [List.map_toArray,List.map_cons,List.map_nil]);first|done|rfl|(simp only [List.length_drop,List.length_take];rfl)) ?_;(with_reducible refine (almanackerref07_Right.calls a0 false _ A2.out).mono ?_);rintro e w' ⟨rfl,⟨nd,rfl⟩⟩;refine ⟨_,rfl,?_⟩))
  go_ret2
  exact ⟨by first|rfl|(simp [errW_none,errW_some] <;> rfl)|(simp [*,errW_none,errW_some] <;> rfl),by repeat (first|(with_reducible first|exact HB.out|apply zz03|apply zz01|apply zz02)|exact HB.out)⟩

def almanackerref07_Of.f (k : Nat) (a0 : Int) : Option (Int × Int × Bool × Int) := (almanackerref07_Long.f k a0).bind fun bt245 => (if bt245.2 = 0 then ((almanackerref05_First.f k a0).bind fun bt247 => ((almanackerref04_Weekday.f bt247.1).bind fun t249 => ((almanackerref03_Is.f a0).bind fun t250 => (if t250 = true then (some (t249, wrap64 (bt245.1 - 383), t250, 0)) else (some (t249, wrap64 (bt245.1 - 353), t250, 0)))))) else (some (0, 0, false, bt245.2)))
theorem setCell_mid (w : World) (b : Nat) (x u y : Value) : ((w.setCell ⟨b, 1, none⟩ x).setCell ⟨b, 2, none⟩ u).setCell ⟨b, 1, none⟩ y = (w.setCell ⟨b, 1, none⟩ y).setCell ⟨b, 2, none⟩ u := by
  unfold World.setCell
  congr 1
  apply Array.ext_getElem?
  intro i
  simp only [Array.getElem?_modify]
  by_cases h : b = i
  · simp only [h, if_true]
    cases w.heap[i]? with
    | none => rfl
    | some o =>
      cases o with
      | cells c e f => simp [Array.setIfInBounds_comm]
      | _ => rfl
  · simp [h]
attribute [local go_sem] setCell_mid
set_option maxHeartbeats 8000000 in
set_option maxRecDepth 100000 in
theorem almanackerref07_Of.calls (k : Nat) (a0 : Int) (r1 : Int) (r2 : Int) (r3 : Bool) (r4 : Int) (w : World) (h : almanackerref07_Of.f k a0 = some (r1, r2, r3, r4)) :
  Calls Tryz.prog 97 #[.int .i64 a0] w fun e w' => e = .returned (.tuple #[.agg #[.int .i64 r1, .int .i64 r2, .bool r3], .int .i64 r4]) ∧ Below w.heap.size w w' := by
 have hu93 := Tryz.underlying93
 have HB := zz00 (Below.refl w.heap.size w)
 have H : ((almanackerref07_Long.f k a0).bind fun bt245=>(if bt245.2 = 0 then ((almanackerref05_First.f k a0).bind fun bt247=>((almanackerref04_Weekday.f bt247.1).bind fun t249=>((almanackerref03_Is.f a0).bind fun t250=>(if t250 = true then (some (t249,wrap64 (bt245.1 - 383),t250,0)) else (some (t249,wrap64 (bt245.1 - 353),t250,0)))))) else (some (0,0,false,bt245.2)))) = some (r1,r2,r3,r4):=h
 clear h
 replace H := zz14.mp H
 obtain ⟨⟨t245, t246⟩, A20, H⟩ := H
 replace H : (if t246 = 0 then ((almanackerref05_First.f k a0).bind fun bt247=>((almanackerref04_Weekday.f bt247.1).bind fun t249=>((almanackerref03_Is.f a0).bind fun t250=>(if t250 = true then (some (t249,wrap64 (t245 - 383),t250,0)) else (some (t249,wrap64 (t245 - 353),t250,0)))))) else (some (0,0,false,t246))) = some (r1,r2,r3,r4):=H
 have A2 := zz00 A20
 clear A20
 by_cases c3 : t246 = 0
 ·
  rw [if_pos c3] at H
  have c3b0 : (t246 == 0) = true := zz29.mpr c3
  have c3b1 : (t246 != 0) = false := zz26.mpr c3
  clear c3
  replace H := zz14.mp H
  obtain ⟨⟨t247, t248⟩, A40, H⟩ := H
  replace H : ((almanackerref04_Weekday.f t247).bind fun t249=>((almanackerref03_Is.f a0).bind fun t250=>(if t250 = true then (some (t249,wrap64 (t245 - 383),t250,0)) else (some (t249,wrap64 (t245 - 353),t250,0))))) = some (r1,r2,r3,r4):=H
  have A4 := zz00 A40
  clear A40
  replace H := zz14.mp H
  obtain ⟨t249, A50, H⟩ := H
  replace H : ((almanackerref03_Is.f a0).bind fun t250=>(if t250 = true then (some (t249,wrap64 (t245 - 383),t250,0)) else (some (t249,wrap64 (t245 - 353),t250,0)))) = some (r1,r2,r3,r4):=H
  have A5 := zz00 A50
  clear A50
  replace H := zz14.mp H
  obtain ⟨t250, A60, H⟩ := H
  replace H : (if t250 = true then (some (t249, wrap64 (t245 - 383), t250, 0)) else (some (t249, wrap64 (t245 - 353), t250, 0))) = some (r1, r2, r3, r4) := H
  have A6 := zz00 A60
  clear A60
  by_cases c7 : t250 = true
  ·
   subst c7
   have H1 : (some (t249, wrap64 (t245 - 383), true, 0)) = some (r1, r2, r3, r4) := by rw [if_pos rfl] at H; exact H
   clear H
   have H := H1
   clear H1
   simp only [zz15, zz16] at H
   obtain ⟨rfl, rfl, rfl, rfl⟩ := H
   go_enter Tryz.func97, Tryz.ntmps97
   go_wp2_with (first|((with_reducible refine zz24 (N:=2) rfl ?_);refine zz30 ?hg (N:=2) ?hd (cs:=#[.int .i64 0,.int .i64 0,.bool false]) (t:=93) ?hr ?_;(case hd=>rfl);(case hg=>rfl);(case hr=>first|(go_simp;done)|(go_simp;rfl));intro gb244 hg w8 hbox hb;have n0_:=zz00 (zz21 (by repeat (first|(with_reducible first|exact HB.out|apply zz03|apply zz01|apply zz02)|exact HB.out)) hb);have n1_:=zz00 (hbox);have n2_:=zz00 ((by rw [hg];exact (zz22 (by repeat (first|(with_reducible first|exact HB.out|apply zz03|apply zz01|apply zz02)|exact HB.out))) : w.heap.size ≤ gb244));have n3_:=zz00 ((by rw [hg];exact (zz22 (by repeat (first|(with_reducible first|exact HB.out|apply zz03|apply zz01|apply zz02)|exact HB.out))) : w.heap.size ≤ gb244));clear HB;have HB:=n0_;have BK244:=n1_;have GW244:=n2_;have GE244:=n3_;clear n0_ n1_ n2_ n3_;clear hb hbox hg)|((with_reducible refine zz23 (f:=145) rfl ?_);refine zz25 (some 11) rfl rfl Tryz.func145 (by kernel_rfl) rfl #[.int .i64 a0] rfl (by (try simp only [List.map_toArray,List.map_cons,List.map_nil]);first|done|rfl|(simp only [List.length_drop,List.length_take];rfl)) ?_;(with_reducible refine (almanackerref07_Long.calls k a0 t245 t246 _ A2.out).mono ?_);rintro e w9 ⟨rfl,hb⟩;refine ⟨_,rfl,?_⟩;have n0_:=zz00 (zz34 (g:=gb244) (o:=.cells #[.int .i64 0,.int .i64 0,.bool false] 93 (0,0)) (by (with_reducible repeat (first|refine zz07 ?_ _|refine zz09 ?_|refine zz08 ?_ _));exact BK244.out) hb);have n1_:=zz00 (zz21 (by repeat (first|(with_reducible first|exact HB.out|apply zz03|apply zz01|apply zz02|refine zz10 ?_ GE244.out)|exact HB.out)) hb);clear BK244;clear HB;have BK244:=n0_;have HB:=n1_;clear n0_ n1_;(try clear hb);(try clear hb2);(try clear hk);(try clear hi))|((with_reducible refine zz23 (f:=98) rfl ?_);refine zz25 (some 20) rfl rfl Tryz.func98 (by kernel_rfl) rfl #[.int .i64 a0] rfl (by (try simp only [List.map_toArray,List.map_cons,List.map_nil]);first|done|rfl|(simp only [List.length_drop,List.length_take];rfl)) ?_;(with_reducible refine (almanackerref05_First.calls k a0 t247 t248 _ A4.out).mono ?_);rintro e w10 ⟨rfl,hb⟩;refine ⟨_,rfl,?_⟩;have n0_:=zz00 (zz34 (g:=gb244) (o:=.cells #[.int .i64 0,.int .i64 0,.bool false] 93 (0,0)) (by (with_reducible repeat (first|refine zz07 ?_ _|refine zz09 ?_|refine zz08 ?_ _));exact BK244.out) hb);have n1_:=zz00 (zz21 (by repeat (first|(with_reducible first|exact HB.out|apply zz03|apply zz01|apply zz02|refine zz10 ?_ GE244.out)|exact HB.out)) hb);clear BK244;clear HB;have BK244:=n0_;have HB:=n1_;clear n0_ n1_;(try clear hb);(try clear hb2);(try clear hk);(try clear hi))|((with_reducible refine zz23 (f:=90) rfl ?_);refine zz25 (some 24) rfl rfl Tryz.func90 (by kernel_rfl) rfl #[.int .i64 t247] rfl (by (try simp only [List.map_toArray,List.map_cons,List.map_nil]);first|done|rfl|(simp only [List.length_drop,List.length_take];rfl)) ?_;(with_reducible refine (almanackerref04_Weekday.calls t247 t249 _ A5.out).mono ?_);rintro e w' ⟨rfl,⟨nd,rfl⟩⟩;refine ⟨_,rfl,?_⟩;(try (rw [drewN_self w10];generalize hq_ : World.drewN w10 _ = w10;have n0_ : Aside0 (w10.heap[gb244]? = some (.cells #[.int .i64 0,.int .i64 0,.bool false] 93 (0,0))):=⟨by rw [← hq_];exact (by (with_reducible repeat (first|refine zz07 ?_ _|refine zz09 ?_|refine zz08 ?_ _));exact BK244.out)⟩;have n1_ : Aside0 (Below w.heap.size w w10):=⟨by rw [← hq_];exact (by repeat (first|(with_reducible first|exact HB.out|apply zz03|apply zz01|apply zz02|refine zz10 ?_ GE244.out)|exact HB.out))⟩;clear BK244 HB hq_;have BK244:=n0_;have HB:=n1_;clear n0_ n1_)))|((with_reducible refine zz23 (f:=23) rfl ?_);refine zz25 (some 28) rfl rfl Tryz.func23 (by kernel_rfl) rfl #[.int .i64 a0] rfl (by (try simp only [List.map_toArray,List.map_cons,List.map_nil]);first|done|rfl|(simp only [List.length_drop,List.length_take];rfl)) ?_;(with_reducible refine (almanackerref03_Is.calls a0 true _ A6.out).mono ?_);rintro e w' ⟨rfl,⟨nd,rfl⟩⟩;refine ⟨_,rfl,?_⟩;(try (rw [drewN_self w10];generalize hq_ : World.drewN w10 _ = w10;have n0_ : Aside0 (w10.heap[gb244]? = some (.cells #[.int .i64 0,.int .i64 0,.bool false] 93 (0,0))):=⟨by rw [← hq_];exact (by (with_reducible repeat (first|refine zz07 ?_ _|refine zz09 ?_|refine zz08 ?_ _));exact BK244.out)⟩;have n1_ : Aside0 (Below w.heap.size w w10):=⟨by rw [← hq_];exact (by repeat (first|(with_reducible first|exact HB.out|apply zz03|apply zz01|apply zz02|refine zz10 ?_ GE244.out)|exact HB.out))⟩;clear BK244 HB hq_;have BK244:=n0_;have HB:=n1_;clear n0_ n1_)))|((with_reducible refine zz24 (N:=8) rfl ?_);refine zz30 ?hg (N:=8) ?hd (cs:=#[.int .i64 0,.int .i64 0,.bool false]) (t:=93) ?hr ?_;(case hd=>rfl);(case hg=>rfl);(case hr=>first|(go_simp;done)|(go_simp;rfl));intro gb251 hg w11 hbox hb;have n0_:=zz00 (zz34 (g:=gb244) (o:=.cells #[.int .i64 0,.int .i64 0,.bool false] 93 (0,0)) (by (with_reducible repeat (first|refine zz07 ?_ _|refine zz09 ?_|refine zz08 ?_ _));exact BK244.out) hb);have n1_:=zz00 (zz21 (by repeat (first|(with_reducible first|exact HB.out|apply zz03|apply zz01|apply zz02|refine zz10 ?_ GE244.out)|exact HB.out)) hb);have n2_:=zz00 (hbox);have n3_:=zz00 ((by rw [hg];exact (zz22 (by repeat (first|(with_reducible first|exact HB.out|apply zz03|apply zz01|apply zz02|refine zz10 ?_ GE244.out)|exact HB.out))) : w.heap.size ≤ gb251));have n4_:=zz00 ((by rw [hg];exact (zz22 (by repeat (first|(with_reducible first|exact HB.out|apply zz03|apply zz01|apply zz02|refine zz10 ?_ GE244.out)|exact HB.out))) : w.heap.size ≤ gb251));have n5_:=zz00 ((by rw [hg];exact Nat.ne_of_lt (blk_lt (g:=gb244) (o:=.cells #[.int .i64 0,.int .i64 0,.bool false] 93 (0,0)) (by (with_reducible repeat (first|refine zz07 ?_ _|refine zz09 ?_|refine zz08 ?_ _));exact BK244.out)) : gb244 ≠ gb251));have n6_:=zz00 ((by rw [hg];exact Nat.ne_of_gt (blk_lt (g:=gb244) (o:=.cells #[.int .i64 0,.int .i64 0,.bool false] 93 (0,0)) (by (with_reducible repeat (first|refine zz07 ?_ _|refine zz09 ?_|refine zz08 ?_ _));exact BK244.out)) : gb251 ≠ gb244));clear BK244;clear HB;have BK244:=n0_;have HB:=n1_;have BK251:=n2_;have GW251:=n3_;have GE251:=n4_;have NB244_251:=n5_;have NB251_244:=n6_;clear n0_ n1_ n2_ n3_ n4_ n5_ n6_;clear hb hbox hg;have hnb12:=NB251_244.out;have hnc12:=NB244_251.out;have hcz13_0 : w11.cell? ⟨gb251,0,none⟩ = some (.int .i64 0):=(zz18 BK251.out 0).trans rfl;have hcz13_1 : w11.cell? ⟨gb251,1,none⟩ = some (.int .i64 0):=(zz18 BK251.out 1).trans rfl;have hcz13_2 : w11.cell? ⟨gb251,2,none⟩ = some (.bool false):=(zz18 BK251.out 2).trans rfl;have hfz13_0:=zz17 BK251.out 0;have hfz13_1:=zz17 BK251.out 1;have hfz13_2:=zz17 BK251.out 2;have hcz14_0 : w11.cell? ⟨gb244,0,none⟩ = some (.int .i64 0):=(zz18 BK244.out 0).trans rfl;have hcz14_1 : w11.cell? ⟨gb244,1,none⟩ = some (.int .i64 0):=(zz18 BK244.out 1).trans rfl;have hcz14_2 : w11.cell? ⟨gb244,2,none⟩ = some (.bool false):=(zz18 BK244.out 2).trans rfl;have hfz14_0:=zz17 BK244.out 0;have hfz14_1:=zz17 BK244.out 1;have hfz14_2:=zz17 BK244.out 2))
   refine bodyPost_ret (results_ct rfl _ _ gb244 93 #[.int .i64 t249,.int .i64 (wrap64 (t245 - 383)),.bool true] (0,0) _ rfl (by (with_reducible repeat (first|refine zz07 ?_ _|refine zz09 ?_|refine zz08 ?_ _));refine zz35 (cs:=#[.int .i64 t249,.int .i64 (wrap64 (t245 - 383)),.bool false]) ?_ 2 _ rfl;(with_reducible repeat (first|refine zz07 ?_ _|refine zz09 ?_|refine zz08 ?_ _));refine zz35 (cs:=#[.int .i64 t249,.int .i64 0,.bool false]) ?_ 1 _ rfl;(with_reducible repeat (first|refine zz07 ?_ _|refine zz09 ?_|refine zz08 ?_ _));refine zz35 (cs:=#[.int .i64 0,.int .i64 0,.bool false]) ?_ 0 _ rfl;(with_reducible repeat (first|refine zz07 ?_ _|refine zz09 ?_|refine zz08 ?_ _));refine zz33 ?_ NB244_251.out _;(with_reducible repeat (first|refine zz07 ?_ _|refine zz09 ?_|refine zz08 ?_ _));refine zz33 ?_ NB244_251.out _;(with_reducible repeat (first|refine zz07 ?_ _|refine zz09 ?_|refine zz08 ?_ _));refine zz33 ?_ NB244_251.out _;(with_reducible repeat (first|refine zz07 ?_ _|refine zz09 ?_|refine zz08 ?_ _));exact BK244.out) Tryz.underlying93 rfl (by kernel_rfl)) rfl ?_
   exact ⟨by first|rfl|(simp [errW_none,errW_some] <;> rfl)|(simp [*,errW_none,errW_some] <;> rfl),by repeat (first|(with_reducible first|exact HB.out|apply zz03|apply zz01|apply zz02|refine zz10 ?_ GE244.out|refine zz10 ?_ GE251.out)|exact HB.out)⟩
  ·
   replace c7 := zz32.mpr c7
   subst c7
   have H1 : (some (t249, wrap64 (t245 - 353), false, 0)) = some (r1, r2, r3, r4) := by rw [if_neg (show ¬ (false = true) by decide)] at H; exact H
   clear H
   have H := H1
   clear H1
   simp only [zz15, zz16] at H
   obtain ⟨rfl, rfl, rfl, rfl⟩ := H
   go_enter Tryz.func97, Tryz.ntmps97
   go_wp2_with (first|((with_reducible refine zz24 (N:=2) rfl ?_);refine zz30 ?hg (N:=2) ?hd (cs:=#[.int .i64 0,.int .i64 0,.bool false]) (t:=93) ?hr ?_;(case hd=>rfl);(case hg=>rfl);(case hr=>first|(go_simp;done)|(go_simp;rfl));intro gb244 hg w15 hbox hb;have n0_:=zz00 (zz21 (by repeat (first|(with_reducible first|exact HB.out|apply zz03|apply zz01|apply zz02)|exact HB.out)) hb);have n1_:=zz00 (hbox);have n2_:=zz00 ((by rw [hg];exact (zz22 (by repeat (first|(with_reducible first|exact HB.out|apply zz03|apply zz01|apply zz02)|exact HB.out))) : w.heap.size ≤ gb244));have n3_:=zz00 ((by rw [hg];exact (zz22 (by repeat (first|(with_reducible first|exact HB.out|apply zz03|apply zz01|apply zz02)|exact HB.out))) : w.heap.size ≤ gb244));clear HB;have HB:=n0_;have BK244:=n1_;have GW244:=n2_;have GE244:=n3_;clear n0_ n1_ n2_ n3_;clear hb hbox hg)|((with_reducible refine zz23 (f:=145) rfl ?_);refine zz25 (some 11) rfl rfl Tryz.func145 (by kernel_rfl) rfl #[.int .i64 a0] rfl (by (try simp only [List.map_toArray,List.map_cons,List.map_nil]);first|done|rfl|(simp only [List.length_drop,List.length_take];rfl)) ?_;(with_reducible refine (almanackerref07_Long.calls k a0 t245 t246 _ A2.out).mono ?_);rintro e w16 ⟨rfl,hb⟩;refine ⟨_,rfl,?_⟩;have n0_:=zz00 (zz34 (g:=gb244) (o:=.cells #[.int .i64 0,.int .i64 0,.bool false] 93 (0,0)) (by (with_reducible repeat (first|refine zz07 ?_ _|refine zz09 ?_|refine zz08 ?_ _));exact BK244.out) hb);have n1_:=zz00 (zz21 (by repeat (first|(with_reducible first|exact HB.out|apply zz03|apply zz01|apply zz02|refine zz10 ?_ GE244.out)|exact HB.out)) hb);clear BK244;clear HB;have BK244:=n0_;have HB:=n1_;clear n0_ n1_;(try clear hb);(try clear hb2);(try clear hk);(try clear hi))|((with_reducible refine zz23 (f:=98) rfl ?_);refine zz25 (some 20) rfl rfl Tryz.func98 (by kernel_rfl) rfl #[.int .i64 a0] rfl (by (try simp only [List.map_toArray,List.map_cons,List.map_nil]);first|done|rfl|(simp only [List.length_drop,List.length_take];rfl)) ?_;(with_reducible refine (almanackerref05_First.calls k a0 t247 t248 _ A4.out).mono ?_);rintro e w17 ⟨rfl,hb⟩;refine ⟨_,rfl,?_⟩;have n0_:=zz00 (zz34 (g:=gb244) (o:=.cells #[.int .i64 0,.int .i64 0,.bool false] 93 (0,0)) (by (with_reducible repeat (first|refine zz07 ?_ _|refine zz09 ?_|refine zz08 ?_ _));exact BK244.out) hb);have n1_:=zz00 (zz21 (by repeat (first|(with_reducible first|exact HB.out|apply zz03|apply zz01|apply zz02|refine zz10 ?_ GE244.out)|exact HB.out)) hb);clear BK244;clear HB;have BK244:=n0_;have HB:=n1_;clear n0_ n1_;(try clear hb);(try clear hb2);(try clear hk);(try clear hi))|((with_reducible refine zz23 (f:=90) rfl ?_);refine zz25 (some 24) rfl rfl Tryz.func90 (by kernel_rfl) rfl #[.int .i64 t247] rfl (by (try simp only [List.map_toArray,List.map_cons,List.map_nil]);first|done|rfl|(simp only [List.length_drop,List.length_take];rfl)) ?_;(with_reducible refine (almanackerref04_Weekday.calls t247 t249 _ A5.out).mono ?_);rintro e w' ⟨rfl,⟨nd,rfl⟩⟩;refine ⟨_,rfl,?_⟩;(try (rw [drewN_self w17];generalize hq_ : World.drewN w17 _ = w17;have n0_ : Aside0 (w17.heap[gb244]? = some (.cells #[.int .i64 0,.int .i64 0,.bool false] 93 (0,0))):=⟨by rw [← hq_];exact (by (with_reducible repeat (first|refine zz07 ?_ _|refine zz09 ?_|refine zz08 ?_ _));exact BK244.out)⟩;have n1_ : Aside0 (Below w.heap.size w w17):=⟨by rw [← hq_];exact (by repeat (first|(with_reducible first|exact HB.out|apply zz03|apply zz01|apply zz02|refine zz10 ?_ GE244.out)|exact HB.out))⟩;clear BK244 HB hq_;have BK244:=n0_;have HB:=n1_;clear n0_ n1_)))|((with_reducible refine zz23 (f:=23) rfl ?_);refine zz25 (some 28) rfl rfl Tryz.func23 (by kernel_rfl) rfl #[.int .i64 a0] rfl (by (try simp only [List.map_toArray,List.map_cons,List.map_nil]);first|done|rfl|(simp only [List.length_drop,List.length_take];rfl)) ?_;(with_reducible refine (almanackerref03_Is.calls a0 false _ A6.out).mono ?_);rintro e w' ⟨rfl,⟨nd,rfl⟩⟩;refine ⟨_,rfl,?_⟩;(try (rw [drewN_self w17];generalize hq_ : World.drewN w17 _ = w17;have n0_ : Aside0 (w17.heap[gb244]? = some (.cells #[.int .i64 0,.int .i64 0,.bool false] 93 (0,0))):=⟨by rw [← hq_];exact (by (with_reducible repeat (first|refine zz07 ?_ _|refine zz09 ?_|refine zz08 ?_ _));exact BK244.out)⟩;have n1_ : Aside0 (Below w.heap.size w w17):=⟨by rw [← hq_];exact (by repeat (first|(with_reducible first|exact HB.out|apply zz03|apply zz01|apply zz02|refine zz10 ?_ GE244.out)|exact HB.out))⟩;clear BK244 HB hq_;have BK244:=n0_;have HB:=n1_;clear n0_ n1_)))|((with_reducible refine zz24 (N:=8) rfl ?_);refine zz30 ?hg (N:=8) ?hd (cs:=#[.int .i64 0,.int .i64 0,.bool false]) (t:=93) ?hr ?_;(case hd=>rfl);(case hg=>rfl);(case hr=>first|(go_simp;done)|(go_simp;rfl));intro gb251 hg w18 hbox hb;have n0_:=zz00 (zz34 (g:=gb244) (o:=.cells #[.int .i64 0,.int .i64 0,.bool false] 93 (0,0)) (by (with_reducible repeat (first|refine zz07 ?_ _|refine zz09 ?_|refine zz08 ?_ _));exact BK244.out) hb);have n1_:=zz00 (zz21 (by repeat (first|(with_reducible first|exact HB.out|apply zz03|apply zz01|apply zz02|refine zz10 ?_ GE244.out)|exact HB.out)) hb);have n2_:=zz00 (hbox);have n3_:=zz00 ((by rw [hg];exact (zz22 (by repeat (first|(with_reducible first|exact HB.out|apply zz03|apply zz01|apply zz02|refine zz10 ?_ GE244.out)|exact HB.out))) : w.heap.size ≤ gb251));have n4_:=zz00 ((by rw [hg];exact (zz22 (by repeat (first|(with_reducible first|exact HB.out|apply zz03|apply zz01|apply zz02|refine zz10 ?_ GE244.out)|exact HB.out))) : w.heap.size ≤ gb251));have n5_:=zz00 ((by rw [hg];exact Nat.ne_of_lt (blk_lt (g:=gb244) (o:=.cells #[.int .i64 0,.int .i64 0,.bool false] 93 (0,0)) (by (with_reducible repeat (first|refine zz07 ?_ _|refine zz09 ?_|refine zz08 ?_ _));exact BK244.out)) : gb244 ≠ gb251));have n6_:=zz00 ((by rw [hg];exact Nat.ne_of_gt (blk_lt (g:=gb244) (o:=.cells #[.int .i64 0,.int .i64 0,.bool false] 93 (0,0)) (by (with_reducible repeat (first|refine zz07 ?_ _|refine zz09 ?_|refine zz08 ?_ _));exact BK244.out)) : gb251 ≠ gb244));clear BK244;clear HB;have BK244:=n0_;have HB:=n1_;have BK251:=n2_;have GW251:=n3_;have GE251:=n4_;have NB244_251:=n5_;have NB251_244:=n6_;clear n0_ n1_ n2_ n3_ n4_ n5_ n6_;clear hb hbox hg;have hnb19:=NB251_244.out;have hnc19:=NB244_251.out;have hcz20_0 : w18.cell? ⟨gb251,0,none⟩ = some (.int .i64 0):=(zz18 BK251.out 0).trans rfl;have hcz20_1 : w18.cell? ⟨gb251,1,none⟩ = some (.int .i64 0):=(zz18 BK251.out 1).trans rfl;have hcz20_2 : w18.cell? ⟨gb251,2,none⟩ = some (.bool false):=(zz18 BK251.out 2).trans rfl;have hfz20_0:=zz17 BK251.out 0;have hfz20_1:=zz17 BK251.out 1;have hfz20_2:=zz17 BK251.out 2;have hcz21_0 : w18.cell? ⟨gb244,0,none⟩ = some (.int .i64 0):=(zz18 BK244.out 0).trans rfl;have hcz21_1 : w18.cell? ⟨gb244,1,none⟩ = some (.int .i64 0):=(zz18 BK244.out 1).trans rfl;have hcz21_2 : w18.cell? ⟨gb244,2,none⟩ = some (.bool false):=(zz18 BK244.out 2).trans rfl;have hfz21_0:=zz17 BK244.out 0;have hfz21_1:=zz17 BK244.out 1;have hfz21_2:=zz17 BK244.out 2))
   refine bodyPost_ret (results_ct rfl _ _ gb244 93 #[.int .i64 t249,.int .i64 (wrap64 (t245 - 353)),.bool false] (0,0) _ rfl (by (with_reducible repeat (first|refine zz07 ?_ _|refine zz09 ?_|refine zz08 ?_ _));refine zz35 (cs:=#[.int .i64 t249,.int .i64 (wrap64 (t245 - 353)),.bool false]) ?_ 2 _ rfl;(with_reducible repeat (first|refine zz07 ?_ _|refine zz09 ?_|refine zz08 ?_ _));refine zz35 (cs:=#[.int .i64 t249,.int .i64 0,.bool false]) ?_ 1 _ rfl;(with_reducible repeat (first|refine zz07 ?_ _|refine zz09 ?_|refine zz08 ?_ _));refine zz35 (cs:=#[.int .i64 0,.int .i64 0,.bool false]) ?_ 0 _ rfl;(with_reducible repeat (first|refine zz07 ?_ _|refine zz09 ?_|refine zz08 ?_ _));refine zz33 ?_ NB244_251.out _;(with_reducible repeat (first|refine zz07 ?_ _|refine zz09 ?_|refine zz08 ?_ _));refine zz33 ?_ NB244_251.out _;(with_reducible repeat (first|refine zz07 ?_ _|refine zz09 ?_|refine zz08 ?_ _));refine zz33 ?_ NB244_251.out _;(with_reducible repeat (first|refine zz07 ?_ _|refine zz09 ?_|refine zz08 ?_ _));exact BK244.out) Tryz.underlying93 rfl (by kernel_rfl)) rfl ?_
   exact ⟨by first|rfl|(simp [errW_none,errW_some] <;> rfl)|(simp [*,errW_none,errW_some] <;> rfl),by repeat (first|(with_reducible first|exact HB.out|apply zz03|apply zz01|apply zz02|refine zz10 ?_ GE244.out|refine zz10 ?_ GE251.out)|exact HB.out)⟩
 ·
  rw [if_neg c3] at H
  have c3b0 : (t246 == 0) = false := zz27.mpr c3
  have c3b1 : (t246 != 0) = true := zz28.mpr c3
  simp only [zz15, zz16] at H
  obtain ⟨rfl, rfl, rfl, rfl⟩ := H
  go_enter Tryz.func97, Tryz.ntmps97
  go_wp2_with (first|((with_reducible refine zz24 (N:=2) rfl ?_);refine zz30 ?hg (N:=2) ?hd (cs:=#[.int .i64 0,.int .i64 0,.bool false]) (t:=93) ?hr ?_;(case hd=>rfl);(case hg=>rfl);(case hr=>first|(go_simp;done)|(go_simp;rfl));intro gb244 hg w22 hbox hb;have n0_:=zz00 (zz21 (by repeat (first|(with_reducible first|exact HB.out|apply zz03|apply zz01|apply zz02)|exact HB.out)) hb);have n1_:=zz00 (hbox);have n2_:=zz00 ((by rw [hg];exact (zz22 (by repeat (first|(with_reducible first|exact HB.out|apply zz03|apply zz01|apply zz02)|exact HB.out))) : w.heap.size ≤ gb244));have n3_:=zz00 ((by rw [hg];exact (zz22 (by repeat (first|(with_reducible first|exact HB.out|apply zz03|apply zz01|apply zz02)|exact HB.out))) : w.heap.size ≤ gb244));clear HB;have HB:=n0_;have BK244:=n1_;have GW244:=n2_;have GE244:=n3_;clear n0_ n1_ n2_ n3_;clear hb hbox hg)|((with_reducible refine zz23 (f:=145) rfl ?_);refine zz25 (some 11) rfl rfl Tryz.func145 (by kernel_rfl) rfl #[.int .i64 a0] rfl (by (try simp only [List.map_toArray,List.map_cons,List.map_nil]);first|done|rfl|(simp only [List.length_drop,List.length_take];rfl)) ?_;(with_reducible refine (almanackerref07_Long.calls k a0 t245 t246 _ A2.out).mono ?_);rintro e w23 ⟨rfl,hb⟩;refine ⟨_,rfl,?_⟩;have n0_:=zz00 (zz34 (g:=gb244) (o:=.cells #[.int .i64 0,.int .i64 0,.bool false] 93 (0,0)) (by (with_reducible repeat (first|refine zz07 ?_ _|refine zz09 ?_|refine zz08 ?_ _));exact BK244.out) hb);have n1_:=zz00 (zz21 (by repeat (first|(with_reducible first|exact HB.out|apply zz03|apply zz01|apply zz02|refine zz10 ?_ GE244.out)|exact HB.out)) hb);clear BK244;clear HB;have BK244:=n0_;have HB:=n1_;clear n0_ n1_;(try clear hb);(try clear hb2);(try clear hk);(try clear hi);have hcz24_0 : w23.cell? ⟨gb244,0,none⟩ = some (.int .i64 0):=(zz18 BK244.out 0).trans rfl;have hcz24_1 : w23.cell? ⟨gb244,1,none⟩ = some (.int .i64 0):=(zz18 BK244.out 1).trans rfl;have hcz24_2 : w23.cell? ⟨gb244,2,none⟩ = some (.bool false):=(zz18 BK244.out 2).trans rfl;have hfz24_0:=zz17 BK244.out 0;have hfz24_1:=zz17 BK244.out 1;have hfz24_2:=zz17 BK244.out 2))
  refine bodyPost_ret (results_ct rfl _ _ gb244 93 #[.int .i64 0,.int .i64 0,.bool false] (0,0) _ rfl (by (with_reducible repeat (first|refine zz07 ?_ _|refine zz09 ?_|refine zz08 ?_ _));refine zz35 (cs:=#[.int .i64 0,.int .i64 0,.bool false]) ?_ 2 _ rfl;(with_reducible repeat (first|refine zz07 ?_ _|refine zz09 ?_|refine zz08 ?_ _));refine zz35 (cs:=#[.int .i64 0,.int .i64 0,.bool false]) ?_ 1 _ rfl;(with_reducible repeat (first|refine zz07 ?_ _|refine zz09 ?_|refine zz08 ?_ _));refine zz35 (cs:=#[.int .i64 0,.int .i64 0,.bool false]) ?_ 0 _ rfl;(with_reducible repeat (first|refine zz07 ?_ _|refine zz09 ?_|refine zz08 ?_ _));exact BK244.out) Tryz.underlying93 rfl (by kernel_rfl)) rfl ?_
  exact ⟨by first|rfl|(simp [errW_none,errW_some] <;> rfl)|(simp [*,errW_none,errW_some] <;> rfl),by repeat (first|(with_reducible first|exact HB.out|apply zz03|apply zz01|apply zz02|refine zz10 ?_ GE244.out)|exact HB.out)⟩

def almanackerref09_codes.l0 : Nat → Bool → List (S32) → Int → Option ((List (S32)))
  | 0, _, _, _ => none
  | k + 1, x0, x3, x4 => if x4 ≤ 12 then (if x3.length < 8796093022208 then ((some (x3 ++ [(⟨x4, false⟩ : S32)] : List (S32))).bind fun y252 => (if x4 = 5 then (if x0 = true then (if y252.length < 8796093022208 then (almanackerref09_codes.l0 k x0 (y252 ++ [(⟨5, true⟩ : S32)]) (wrap64 (x4 + 1))) else (none)) else (almanackerref09_codes.l0 k x0 y252 (wrap64 (x4 + 1)))) else (almanackerref09_codes.l0 k x0 y252 (wrap64 (x4 + 1))))) else (none)) else (some x3)
def almanackerref09_codes.f (k : Nat) (a0 : Bool) : Option ((List (S32))) := almanackerref09_codes.l0 k a0 ([] : List (S32)) 1
theorem almanackerref09_codes.mono_l : ∀ k, (∀ y0 y1 y2, LeO (almanackerref09_codes.l0 k y0 y1 y2) (almanackerref09_codes.l0 (k + 1) y0 y1 y2))
 | 0 => fun _ _ _ r h => by simp [almanackerref09_codes.l0] at h
 | k + 1 => by
  have ih0 := almanackerref09_codes.mono_l k
  ·
   intro y0 y1 y2
   unfold almanackerref09_codes.l0
   repeat' first
   | (with_reducible exact ih0 _ _ _)
   | (with_reducible exact LeO.refl _)
   | (with_reducible exact LeO.none _)
   | (with_reducible refine LeO.ite ?_ ?_)
   | (with_reducible refine LeO.bind ?_ (fun _ => ?_))
   | exact ih0 _ _ _
   | exact LeO.none _
   | refine LeO.ite ?_ ?_
   | refine LeO.bind ?_ (fun _ => ?_)
theorem almanackerref09_codes.mono : ∀ a0 k, LeO (almanackerref09_codes.f k a0) (almanackerref09_codes.f (k + 1) a0) := by
 intro a0 k
 have ih0 := almanackerref09_codes.mono_l k
 unfold almanackerref09_codes.f
 repeat' first
   | (with_reducible exact ih0 _ _ _)
   | (with_reducible exact LeO.refl _)
   | (with_reducible exact LeO.none _)
   | (with_reducible refine LeO.ite ?_ ?_)
   | (with_reducible refine LeO.bind ?_ (fun _ => ?_))
   | exact ih0 _ _ _
   | exact LeO.none _
   | refine LeO.ite ?_ ?_
   | refine LeO.bind ?_ (fun _ => ?_)
set_option maxHeartbeats 8000000 in
set_option maxRecDepth 100000 in
theorem almanackerref09_codes.calls (k : Nat) (a0 : Bool) (r : List (S32)) (w : World) (h : almanackerref09_codes.f k a0 = some r) :
  Calls Tryz.prog 128 #[.bool a0] w fun e w' => ∃ v0_ : Value, e = .returned (v0_) ∧ Kd.R k32 32 w' w.heap.size (fun _ => True) v0_ r ∧ Below w.heap.size w w' := by
 have hu32 := Tryz.underlying32
 have HB := zz00 (Below.refl w.heap.size w)
 have H : (almanackerref09_codes.l0 k a0 ([] : List (S32)) 1) = some r := h
 clear h
 have H' := zz00 H
 clear H
 go_enter Tryz.func128, Tryz.ntmps128
 go_wp2
 go_loopg [3,4] k (fun kq v3 v4 w'=>∃ (x3_1 : List (S32)) (x4_1 : Int),v4 = .int .i64 x4_1 ∧ Aside0 (almanackerref09_codes.l0 kq a0 x3_1 x4_1 = some r) ∧ Aside0 (kq ≤ k) ∧ Aside0 (Kd.R k32 32 w' w.heap.size (fun _=>True) v3 x3_1) ∧ Aside0 (Below w.heap.size w w'))
 case atStart=>exact ⟨(([] : List (S32))),(1),(by first|rfl|(simp;done)|(simp [*];done)),H',⟨Nat.le_refl _⟩,⟨by first|exact Kd.R_nil _ _ _ _ _|exact Kd.N_nil _ _ _ _ _|exact Kd.V_nil _ _ _ _ _|exact Kd.Q_nil _ _ _ _ _|exact Kd.S_nil _ _ _ _ _⟩,⟨by repeat (first|(with_reducible first|exact HB.out|apply zz03|apply zz01|apply zz02)|exact HB.out)⟩⟩
 case round =>
  clear H'
  try clear c1
  obtain ⟨x3_1, x4_1, rfl, HA, HK1, HO_3, HB⟩ := hrel
  cases gk with
  | zero => exact absurd HA.out (by simp [almanackerref09_codes.l0])
  | succ k1 =>
   have H := HA.out
   clear HA
   simp only [almanackerref09_codes.l0] at H
   by_cases c2 : x4_1 ≤ 12
   ·
    rw [if_pos c2] at H
    have c2b0 : decide (x4_1 ≤ 12) = true := decide_eq_true c2
    clear c2
    by_cases c3 : x3_1.length < 8796093022208
    ·
     rw [if_pos c3] at H
     have LMc3 := zz00 c3
     clear c3
     obtain ⟨y252, hy252⟩ : ∃ y_ : List (S32), y_ = (x3_1 ++ [(⟨x4_1, false⟩ : S32)]) := ⟨_, rfl⟩
     replace H : (if x4_1 = 5 then (if a0 = true then (if y252.length < 8796093022208 then (almanackerref09_codes.l0 k1 a0 (y252 ++ [(⟨5,true⟩ : S32)]) (wrap64 (x4_1 + 1))) else (none)) else (almanackerref09_codes.l0 k1 a0 y252 (wrap64 (x4_1 + 1)))) else (almanackerref09_codes.l0 k1 a0 y252 (wrap64 (x4_1 + 1)))) = some r:=by first|(rw [hy252];with_reducible exact H)|(have H2_:=(Option.bind_some _ _).symm.trans H;rw [hy252];with_reducible exact H2_)|(have H2_:=(Option.bind_some _ _).symm.trans H;with_reducible exact H2_)|with_reducible exact H|(rw [hy252];exact H)|exact H
     have Ny252 := zz00 hy252
     clear hy252
     by_cases c4 : x4_1 = 5
     ·
      rw [if_pos c4] at H
      have c4b0 : (x4_1 == 5) = true := zz29.mpr c4
      have c4b1 : (x4_1 != 5) = false := zz26.mpr c4
      clear c4
      by_cases c5 : a0 = true
      ·
       subst c5
       have H1 : (if y252.length < 8796093022208 then (almanackerref09_codes.l0 k1 true (y252 ++ [(⟨5, true⟩ : S32)]) (wrap64 (x4_1 + 1))) else (none)) = some r := by rw [if_pos rfl] at H; exact H
       clear H
       have H := H1
       clear H1
       by_cases c6 : y252.length < 8796093022208
       ·
        rw [if_pos c6] at H
        have LMc6 := zz00 c6
        clear c6
        obtain ⟨y255, hy255⟩ : ∃ y_ : List (S32), y_ = (y252 ++ [(⟨5, true⟩ : S32)]) := ⟨_, rfl⟩
        replace H : (almanackerref09_codes.l0 k1 true y255 (wrap64 (x4_1 + 1))) = some r:=by first|(rw [hy255];with_reducible exact H)|(have H2_:=(Option.bind_some _ _).symm.trans H;rw [hy255];with_reducible exact H2_)|(have H2_:=(Option.bind_some _ _).symm.trans H;with_reducible exact H2_)|with_reducible exact H|(rw [hy255];exact H)|exact H
        have Ny255 := zz00 hy255
        clear hy255
        have H' := zz00 H
        clear H
        go_wp2_with (first|((with_reducible refine gate_builtin (b:=.append) (xs:=#[.tmp 9,.tmp 12]) rfl ?_);at_builtin;refine Kd.R_append k32 (w0:=w) w.heap.size rfl (.tmp 9) (.tmp 12) 144 32 (.agg #[(.int .i64 0),(.bool false)]) 16 rfl Tryz.underlying144 info32 rfl (by decide) (by omega) u3 x3_1 (⟨x4_1,false⟩ : S32) [.int .i64 x4_1,.bool false] (fun _=>True) (fun _=>False) rfl rfl ?aP (fun _ hk=>hk.elim) ?aF ?aO ?aB ?aS ?aL ?_;(case aP=>exact k32_mkM _ _ _ (⟨x4_1,false⟩ : S32));(case aB=>exact (by repeat (first|(with_reducible first|exact HB.out|apply zz03|apply zz01|apply zz02)|exact HB.out)));(case aF=>exact (fun _ _=>trivial));(case aO=>exact (by (with_reducible repeat (first|apply zz05|apply zz04|apply zz06));exact HO_3.out));(case aS=>exact (zz22 (by repeat (first|(with_reducible first|exact HB.out|apply zz03|apply zz01|apply zz02)|exact HB.out))));(case aL=>have:=LMc3.out;omega);intro v253 w7 ho hb hg hat;rw [← Ny252.out] at ho;have n0_:=zz00 (hb);have n1_:=zz00 (ho);clear HB;clear HO_3;have HB:=n0_;have HO254:=n1_;clear n0_ n1_;clear ho hb hg hat)|((with_reducible refine gate_builtin (b:=.append) (xs:=#[.tmp 19,.tmp 21]) rfl ?_);at_builtin;refine Kd.R_append k32 (w0:=w) w.heap.size rfl (.tmp 19) (.tmp 21) 144 32 (.agg #[(.int .i64 0),(.bool false)]) 16 rfl Tryz.underlying144 info32 rfl (by decide) (by omega) v253 y252 (⟨5,true⟩ : S32) [.int .i64 5,.bool true] (fun _=>True) (fun _=>False) rfl rfl ?aP (fun _ hk=>hk.elim) ?aF ?aO ?aB ?aS ?aL ?_;(case aP=>exact k32_mkM _ _ _ (⟨5,true⟩ : S32));(case aB=>exact (by repeat (first|(with_reducible first|exact HB.out|apply zz03|apply zz01|apply zz02)|exact HB.out)));(case aF=>exact (fun _ _=>trivial));(case aO=>exact (by (with_reducible repeat (first|apply zz05|apply zz04|apply zz06));exact HO254.out));(case aS=>exact (zz22 (by repeat (first|(with_reducible first|exact HB.out|apply zz03|apply zz01|apply zz02)|exact HB.out))));(case aL=>have:=LMc6.out;omega);intro v256 w8 ho hb hg hat;rw [← Ny255.out] at ho;have n0_:=zz00 (hb);have n1_:=zz00 (ho);clear HB;clear HO254;have HB:=n0_;have HO257:=n1_;clear n0_ n1_;clear ho hb hg hat))
        go_roundg k1
        case measure => have := HK1.out; omega
        case rel=>exact ⟨(y255),(wrap64 (x4_1 + 1)),(by first|rfl|(simp;done)|(simp [*];done)),H',⟨by have:=HK1.out;omega⟩,⟨by (with_reducible repeat (first|apply zz05|apply zz04|apply zz06));exact HO257.out⟩,⟨by repeat (first|(with_reducible first|exact HB.out|apply zz03|apply zz01|apply zz02)|exact HB.out)⟩⟩
       ·
        rw [if_neg c6] at H
        exact absurd H (by simp)
      ·
       replace c5 := zz32.mpr c5
       subst c5
       have H1 : (almanackerref09_codes.l0 k1 false y252 (wrap64 (x4_1 + 1))) = some r := by rw [if_neg (show ¬ (false = true) by decide)] at H; exact H
       clear H
       have H := H1
       clear H1
       have H' := zz00 H
       clear H
       go_wp2_with (first|((with_reducible refine gate_builtin (b:=.append) (xs:=#[.tmp 9,.tmp 12]) rfl ?_);at_builtin;refine Kd.R_append k32 (w0:=w) w.heap.size rfl (.tmp 9) (.tmp 12) 144 32 (.agg #[(.int .i64 0),(.bool false)]) 16 rfl Tryz.underlying144 info32 rfl (by decide) (by omega) u3 x3_1 (⟨x4_1,false⟩ : S32) [.int .i64 x4_1,.bool false] (fun _=>True) (fun _=>False) rfl rfl ?aP (fun _ hk=>hk.elim) ?aF ?aO ?aB ?aS ?aL ?_;(case aP=>exact k32_mkM _ _ _ (⟨x4_1,false⟩ : S32));(case aB=>exact (by repeat (first|(with_reducible first|exact HB.out|apply zz03|apply zz01|apply zz02)|exact HB.out)));(case aF=>exact (fun _ _=>trivial));(case aO=>exact (by (with_reducible repeat (first|apply zz05|apply zz04|apply zz06));exact HO_3.out));(case aS=>exact (zz22 (by repeat (first|(with_reducible first|exact HB.out|apply zz03|apply zz01|apply zz02)|exact HB.out))));(case aL=>have:=LMc3.out;omega);intro v253 w9 ho hb hg hat;rw [← Ny252.out] at ho;have n0_:=zz00 (hb);have n1_:=zz00 (ho);clear HB;clear HO_3;have HB:=n0_;have HO254:=n1_;clear n0_ n1_;clear ho hb hg hat))
       go_roundg k1
       case measure => have := HK1.out; omega
       case rel=>exact ⟨(y252),(wrap64 (x4_1 + 1)),(by first|rfl|(simp;done)|(simp [*];done)),H',⟨by have:=HK1.out;omega⟩,⟨by (with_reducible repeat (first|apply zz05|apply zz04|apply zz06));exact HO254.out⟩,⟨by repeat (first|(with_reducible first|exact HB.out|apply zz03|apply zz01|apply zz02)|exact HB.out)⟩⟩
     ·
      rw [if_neg c4] at H
      have c4b0 : (x4_1 == 5) = false := zz27.mpr c4
      have c4b1 : (x4_1 != 5) = true := zz28.mpr c4
      have H' := zz00 H
      clear H
      go_wp2_with (first|((with_reducible refine gate_builtin (b:=.append) (xs:=#[.tmp 9,.tmp 12]) rfl ?_);at_builtin;refine Kd.R_append k32 (w0:=w) w.heap.size rfl (.tmp 9) (.tmp 12) 144 32 (.agg #[(.int .i64 0),(.bool false)]) 16 rfl Tryz.underlying144 info32 rfl (by decide) (by omega) u3 x3_1 (⟨x4_1,false⟩ : S32) [.int .i64 x4_1,.bool false] (fun _=>True) (fun _=>False) rfl rfl ?aP (fun _ hk=>hk.elim) ?aF ?aO ?aB ?aS ?aL ?_;(case aP=>exact k32_mkM _ _ _ (⟨x4_1,false⟩ : S32));(case aB=>exact (by repeat (first|(with_reducible first|exact HB.out|apply zz03|apply zz01|apply zz02)|exact HB.out)));(case aF=>exact (fun _ _=>trivial));(case aO=>exact (by (with_reducible repeat (first|apply zz05|apply zz04|apply zz06));exact HO_3.out));(case aS=>exact (zz22 (by repeat (first|(with_reducible first|exact HB.out|apply zz03|apply zz01|apply zz02)|exact HB.out))));(case aL=>have:=LMc3.out;omega);intro v253 w10 ho hb hg hat;rw [← Ny252.out] at ho;have n0_:=zz00 (hb);have n1_:=zz00 (ho);clear HB;clear HO_3;have HB:=n0_;have HO254:=n1_;clear n0_ n1_;clear ho hb hg hat))
      go_roundg k1
      case measure => have := HK1.out; omega
      case rel=>exact ⟨(y252),(wrap64 (x4_1 + 1)),(by first|rfl|(simp;done)|(simp [*];done)),H',⟨by have:=HK1.out;omega⟩,⟨by (with_reducible repeat (first|apply zz05|apply zz04|apply zz06));exact HO254.out⟩,⟨by repeat (first|(with_reducible first|exact HB.out|apply zz03|apply zz01|apply zz02)|exact HB.out)⟩⟩
    ·
     rw [if_neg c3] at H
     exact absurd H (by simp)
   ·
    rw [if_neg c2] at H
    have c2b0 : decide (x4_1 ≤ 12) = false := decide_eq_false c2
    clear c2
    obtain rfl := Option.some.inj H
    go_wp2
    go_ret
    exact ⟨_,by first|rfl|(simp [errW_none,errW_some] <;> rfl)|(simp [*,errW_none,errW_some] <;> rfl),by (with_reducible repeat (first|apply zz05|apply zz04|apply zz06));exact HO_3.out,by repeat (first|(with_reducible first|exact HB.out|apply zz03|apply zz01|apply zz02)|exact HB.out)⟩

def almanackerref09_Place.l0 : Nat → List (S32) → Int → Int → Bool → Option (Int × Bool)
  | 0, _, _, _, _ => none
  | k + 1, x6, x7, x259000, x259001 => if x7 < (x6.length : Int) then (if 0 ≤ x7 then (if (((rd_T32 x6 x7).f0) == x259000 && (((rd_T32 x6 x7).f1) == x259001)) = true then (some (wrap64 (x7 + 1), true)) else (almanackerref09_Place.l0 k x6 (wrap64 (x7 + 1)) x259000 x259001)) else (none)) else (some (0, false))
def almanackerref09_Place.f (k : Nat) (a0 : Bool) (a1_0 : Int) (a1_1 : Bool) : Option (Int × Bool) := (almanackerref09_codes.f k a0).bind fun t259 => (almanackerref09_Place.l0 k t259 0 a1_0 a1_1)
theorem almanackerref09_Place.mono_l : ∀ k, (∀ y0 y1 y2 y3, LeO (almanackerref09_Place.l0 k y0 y1 y2 y3) (almanackerref09_Place.l0 (k + 1) y0 y1 y2 y3))
 | 0 => fun _ _ _ _ r h => by simp [almanackerref09_Place.l0] at h
 | k + 1 => by
  have ih0 := almanackerref09_Place.mono_l k
  ·
   intro y0 y1 y2 y3
   unfold almanackerref09_Place.l0
   repeat' first
   | (with_reducible exact ih0 _ _ _ _)
   | (with_reducible exact almanackerref09_codes.mono _ _)
   | (with_reducible exact LeO.refl _)
   | (with_reducible exact LeO.none _)
   | (with_reducible refine LeO.ite ?_ ?_)
   | (with_reducible refine LeO.bind ?_ (fun _ => ?_))
   | exact ih0 _ _ _ _
   | exact almanackerref09_codes.mono _ _
   | exact LeO.none _
   | refine LeO.ite ?_ ?_
   | refine LeO.bind ?_ (fun _ => ?_)
theorem almanackerref09_Place.mono : ∀ a0 a1 a2 k, LeO (almanackerref09_Place.f k a0 a1 a2) (almanackerref09_Place.f (k + 1) a0 a1 a2) := by
 intro a0 a1 a2 k
 have ih0 := almanackerref09_Place.mono_l k
 unfold almanackerref09_Place.f
 repeat' first
   | (with_reducible exact ih0 _ _ _ _)
   | (with_reducible exact almanackerref09_codes.mono _ _)
   | (with_reducible exact LeO.refl _)
   | (with_reducible exact LeO.none _)
   | (with_reducible refine LeO.ite ?_ ?_)
   | (with_reducible refine LeO.bind ?_ (fun _ => ?_))
   | exact ih0 _ _ _ _
   | exact almanackerref09_codes.mono _ _
   | exact LeO.none _
   | refine LeO.ite ?_ ?_
   | refine LeO.bind ?_ (fun _ => ?_)
set_option maxHeartbeats 8000000 in
set_option maxRecDepth 100000 in
theorem almanackerref09_Place.calls (k : Nat) (a0 : Bool) (a1_0 : Int) (a1_1 : Bool) (r1 : Int) (r2 : Bool) (w : World) (h : almanackerref09_Place.f k a0 a1_0 a1_1 = some (r1, r2)) :
  Calls Tryz.prog 104 #[.bool a0, .agg #[.int .i64 a1_0, .bool a1_1]] w fun e w' => e = .returned (.tuple #[.int .i64 r1, .bool r2]) ∧ Below w.heap.size w w' := by
 have hu32 := Tryz.underlying32
 have HB := zz00 (Below.refl w.heap.size w)
 have H : ((almanackerref09_codes.f k a0).bind fun t259 => (almanackerref09_Place.l0 k t259 0 a1_0 a1_1)) = some (r1, r2) := h
 clear h
 replace H := zz14.mp H
 obtain ⟨t259, A30, H⟩ := H
 replace H : (almanackerref09_Place.l0 k t259 0 a1_0 a1_1) = some (r1, r2) := H
 have A3 := zz00 A30
 clear A30
 have H' := zz00 H
 clear H
 go_enter Tryz.func104, Tryz.ntmps104
 go_wp2_with (first|((with_reducible refine zz24 (N:=3) rfl ?_);refine zz30 ?hg (N:=3) ?hd (cs:=#[.int .i64 a1_0,.bool a1_1]) (t:=32) ?hr ?_;(case hd=>rfl);(case hg=>rfl);(case hr=>first|(go_simp;done)|(go_simp;rfl));intro gb258 hg w4 hbox hb;have n0_:=zz00 (zz21 (by repeat (first|(with_reducible first|exact HB.out|apply zz03|apply zz01|apply zz02)|exact HB.out)) hb);have n1_:=zz00 (hbox);have n2_:=zz00 ((by rw [hg];exact (zz22 (by repeat (first|(with_reducible first|exact HB.out|apply zz03|apply zz01|apply zz02)|exact HB.out))) : w.heap.size ≤ gb258));have n3_:=zz00 ((by rw [hg];exact (zz22 (by repeat (first|(with_reducible first|exact HB.out|apply zz03|apply zz01|apply zz02)|exact HB.out))) : w.heap.size ≤ gb258));clear HB;have HB:=n0_;have BK258:=n1_;have GW258:=n2_;have GE258:=n3_;clear n0_ n1_ n2_ n3_;clear hb hbox hg)|(go_at_call 128;(with_reducible refine (almanackerref09_codes.calls k a0 t259 _ A3.out).mono ?_);rintro e w5 ⟨v260,rfl,ho0,hb⟩;have n0_:=zz00 (Kd.R_lower (Kd.R_newB ho0 (g:=gb258) (o:=.cells #[.int .i64 a1_0,.bool a1_1] 32 (0,0)) (by (with_reducible repeat (first|refine zz07 ?_ _|refine zz09 ?_|refine zz08 ?_ _));exact BK258.out)) (zz22 (by repeat (first|(with_reducible first|exact HB.out|apply zz03|apply zz01|apply zz02|refine zz10 ?_ GE258.out)|exact HB.out))));have n1_:=zz00 (zz34 (g:=gb258) (o:=.cells #[.int .i64 a1_0,.bool a1_1] 32 (0,0)) (by (with_reducible repeat (first|refine zz07 ?_ _|refine zz09 ?_|refine zz08 ?_ _));exact BK258.out) hb);have n2_:=zz00 (zz21 (by repeat (first|(with_reducible first|exact HB.out|apply zz03|apply zz01|apply zz02|refine zz10 ?_ GE258.out)|exact HB.out)) hb);clear BK258;clear HB;have HO261:=n0_;have BK258:=n1_;have HB:=n2_;clear n0_ n1_ n2_;(try clear hb);(try clear hb2);(try clear hk);(try clear hi);(try clear ho0)))
 repeat (go_quiet (first|((with_reducible refine zz24 (N:=3) rfl ?_);refine zz30 ?hg (N:=3) ?hd (cs:=#[.int .i64 a1_0,.bool a1_1]) (t:=32) ?hr ?_;(case hd=>rfl);(case hg=>rfl);(case hr=>first|(go_simp;done)|(go_simp;rfl));intro gb258 hg w4 hbox hb;have n0_:=zz00 (zz21 (by repeat (first|(with_reducible first|exact HB.out|apply zz03|apply zz01|apply zz02)|exact HB.out)) hb);have n1_:=zz00 (hbox);have n2_:=zz00 ((by rw [hg];exact (zz22 (by repeat (first|(with_reducible first|exact HB.out|apply zz03|apply zz01|apply zz02)|exact HB.out))) : w.heap.size ≤ gb258));have n3_:=zz00 ((by rw [hg];exact (zz22 (by repeat (first|(with_reducible first|exact HB.out|apply zz03|apply zz01|apply zz02)|exact HB.out))) : w.heap.size ≤ gb258));clear HB;have HB:=n0_;have BK258:=n1_;have GW258:=n2_;have GE258:=n3_;clear n0_ n1_ n2_ n3_;clear hb hbox hg)|(go_at_call 128;(with_reducible refine (almanackerref09_codes.calls k a0 t259 _ A3.out).mono ?_);rintro e w5 ⟨v260,rfl,ho0,hb⟩;have n0_:=zz00 (Kd.R_lower (Kd.R_newB ho0 (g:=gb258) (o:=.cells #[.int .i64 a1_0,.bool a1_1] 32 (0,0)) (by (with_reducible repeat (first|refine zz07 ?_ _|refine zz09 ?_|refine zz08 ?_ _));exact BK258.out)) (zz22 (by repeat (first|(with_reducible first|exact HB.out|apply zz03|apply zz01|apply zz02|refine zz10 ?_ GE258.out)|exact HB.out))));have n1_:=zz00 (zz34 (g:=gb258) (o:=.cells #[.int .i64 a1_0,.bool a1_1] 32 (0,0)) (by (with_reducible repeat (first|refine zz07 ?_ _|refine zz09 ?_|refine zz08 ?_ _));exact BK258.out) hb);have n2_:=zz00 (zz21 (by repeat (first|(with_reducible first|exact HB.out|apply zz03|apply zz01|apply zz02|refine zz10 ?_ GE258.out)|exact HB.out)) hb);clear BK258;clear HB;have HO261:=n0_;have BK258:=n1_;have HB:=n2_;clear n0_ n1_ n2_;(try clear hb);(try clear hb2);(try clear hk);(try clear hi);(try clear ho0)));try go_wp2_with (first|((with_reducible refine zz24 (N:=3) rfl ?_);refine zz30 ?hg (N:=3) ?hd (cs:=#[.int .i64 a1_0,.bool a1_1]) (t:=32) ?hr ?_;(case hd=>rfl);(case hg=>rfl);(case hr=>first|(go_simp;done)|(go_simp;rfl));intro gb258 hg w4 hbox hb;have n0_:=zz00 (zz21 (by repeat (first|(with_reducible first|exact HB.out|apply zz03|apply zz01|apply zz02)|exact HB.out)) hb);have n1_:=zz00 (hbox);have n2_:=zz00 ((by rw [hg];exact (zz22 (by repeat (first|(with_reducible first|exact HB.out|apply zz03|apply zz01|apply zz02)|exact HB.out))) : w.heap.size ≤ gb258));have n3_:=zz00 ((by rw [hg];exact (zz22 (by repeat (first|(with_reducible first|exact HB.out|apply zz03|apply zz01|apply zz02)|exact HB.out))) : w.heap.size ≤ gb258));clear HB;have HB:=n0_;have BK258:=n1_;have GW258:=n2_;have GE258:=n3_;clear n0_ n1_ n2_ n3_;clear hb hbox hg)|(go_at_call 128;(with_reducible refine (almanackerref09_codes.calls k a0 t259 _ A3.out).mono ?_);rintro e w5 ⟨v260,rfl,ho0,hb⟩;have n0_:=zz00 (Kd.R_lower (Kd.R_newB ho0 (g:=gb258) (o:=.cells #[.int .i64 a1_0,.bool a1_1] 32 (0,0)) (by (with_reducible repeat (first|refine zz07 ?_ _|refine zz09 ?_|refine zz08 ?_ _));exact BK258.out)) (zz22 (by repeat (first|(with_reducible first|exact HB.out|apply zz03|apply zz01|apply zz02|refine zz10 ?_ GE258.out)|exact HB.out))));have n1_:=zz00 (zz34 (g:=gb258) (o:=.cells #[.int .i64 a1_0,.bool a1_1] 32 (0,0)) (by (with_reducible repeat (first|refine zz07 ?_ _|refine zz09 ?_|refine zz08 ?_ _));exact BK258.out) hb);have n2_:=zz00 (zz21 (by repeat (first|(with_reducible first|exact HB.out|apply zz03|apply zz01|apply zz02|refine zz10 ?_ GE258.out)|exact HB.out)) hb);clear BK258;clear HB;have HO261:=n0_;have BK258:=n1_;have HB:=n2_;clear n0_ n1_ n2_;(try clear hb);(try clear hb2);(try clear hk);(try clear hi);(try clear ho0))))
 go_loopg [7] k (fun kq v7 w'=>∃ (x7_1 : Int),v7 = .int .i64 x7_1 ∧ Aside0 (almanackerref09_Place.l0 kq t259 x7_1 a1_0 a1_1 = some (r1,r2)) ∧ Aside0 (kq ≤ k) ∧ Aside0 (Kd.R k32 32 w' w.heap.size (fun k_=>k_ ≠ gb258) v260 t259) ∧ Aside0 (w'.heap[gb258]? = some (.cells #[.int .i64 a1_0,.bool a1_1] 32 (0,0))) ∧ Aside0 (Below w.heap.size w w'))
 case atStart=>exact ⟨(0),(by first|rfl|(simp;done)|(simp [*];done)),H',⟨Nat.le_refl _⟩,⟨by (with_reducible repeat (first|apply zz05|apply zz04|apply zz06));exact Kd.R_mono HO261.out (fun _ hk=>hk.2)⟩,⟨by (with_reducible repeat (first|refine zz07 ?_ _|refine zz09 ?_|refine zz08 ?_ _));exact BK258.out⟩,⟨by repeat (first|(with_reducible first|exact HB.out|apply zz03|apply zz01|apply zz02|refine zz10 ?_ GE258.out)|exact HB.out)⟩⟩
 case round =>
  clear H'
  try clear c1
  try clear p2
  obtain ⟨x7_1, rfl, HA, HK1, HO_6, BK258, HB⟩ := hrel
  cases gk with
  | zero => exact absurd HA.out (by simp [almanackerref09_Place.l0])
  | succ k1 =>
   have H := HA.out
   clear HA
   simp only [almanackerref09_Place.l0] at H
   by_cases c6 : x7_1 < (t259.length : Int)
   ·
    rw [if_pos c6] at H
    have c6b0 : decide (x7_1 < (t259.length : Int)) = true := decide_eq_true c6
    clear c6
    by_cases c7 : 0 ≤ x7_1
    ·
     rw [if_pos c7] at H
     have c7b0 : decide (0 ≤ x7_1) = true := decide_eq_true c7
     clear c7
     by_cases c8 : (((rd_T32 t259 x7_1).f0) == a1_0 && (((rd_T32 t259 x7_1).f1) == a1_1)) = true
     ·
      rw [if_pos c8] at H
      have c8b0 : (((rd_T32 t259 x7_1).f0) == a1_0 && (((rd_T32 t259 x7_1).f1) == a1_1)) = true := c8
      (try (have c8b1 : decide (((rd_T32 t259 x7_1).f0) = a1_0 && (((rd_T32 t259 x7_1).f1) == a1_1)) = true := by simpa using c8))
      (try (have c8b2 : (((rd_T32 t259 x7_1).f0) == a1_0 && (((rd_T32 t259 x7_1).f1) == a1_1)) = true := by simpa using c8))
      clear c8
      simp only [zz15, zz16] at H
      obtain ⟨rfl, rfl⟩ := H
      obtain ⟨Ao9, co9, eo9⟩ := Kd.R_slice HO_6.out
      subst eo9
      have p262 : 0 ≤ (x7_1 : Int) := zz31 (by first | (with_reducible assumption) | assumption)
      have q262 : x7_1 < (t259.length : Int) := zz31 (by first | (with_reducible assumption) | assumption)
      obtain ⟨ad262, e262, hx262_0, hx262_1⟩ := at_T32 (Kd.R_reads' HO_6.out).2.2 x7_1 p262 q262
      cases e262
      replace p262 := eq_true p262
      replace q262 := eq_true q262
      have hcz10_0 : wr.cell? ⟨gb258, 0, none⟩ = some (.int .i64 a1_0) := (zz18 BK258.out 0).trans rfl
      have hcz10_1 : wr.cell? ⟨gb258, 1, none⟩ = some (.bool a1_1) := (zz18 BK258.out 1).trans rfl
      have hfz10_0 := zz17 BK258.out 0
      have hfz10_1 := zz17 BK258.out 1
      go_wp2
      repeat (go_quiet (fail); try go_wp2)
      go_ret2
      exact ⟨by first|rfl|(simp [errW_none,errW_some] <;> rfl)|(simp [*,errW_none,errW_some] <;> rfl),by repeat (first|(with_reducible first|exact HB.out|apply zz03|apply zz01|apply zz02|refine zz10 ?_ GE258.out)|exact HB.out)⟩
     ·
      rw [if_neg c8] at H
      have c8b0 : (((rd_T32 t259 x7_1).f0) == a1_0 && (((rd_T32 t259 x7_1).f1) == a1_1)) = false := by simpa using c8
      (try (have c8b1 : decide (((rd_T32 t259 x7_1).f0) = a1_0 && (((rd_T32 t259 x7_1).f1) == a1_1)) = false := by simpa using c8))
      (try (have c8b2 : (((rd_T32 t259 x7_1).f0) == a1_0 && (((rd_T32 t259 x7_1).f1) == a1_1)) = false := by simpa using c8))
      (try (have c8b3 : ¬ (((rd_T32 t259 x7_1).f0) = a1_0 && (((rd_T32 t259 x7_1).f1) == a1_1)) := by simpa using c8))
      clear c8
      have H' := zz00 H
      clear H
      obtain ⟨Ao11, co11, eo11⟩ := Kd.R_slice HO_6.out
      subst eo11
      have p262 : 0 ≤ (x7_1 : Int) := zz31 (by first | (with_reducible assumption) | assumption)
      have q262 : x7_1 < (t259.length : Int) := zz31 (by first | (with_reducible assumption) | assumption)
      obtain ⟨ad262, e262, hx262_0, hx262_1⟩ := at_T32 (Kd.R_reads' HO_6.out).2.2 x7_1 p262 q262
      cases e262
      replace p262 := eq_true p262
      replace q262 := eq_true q262
      have hcz12_0 : wr.cell? ⟨gb258, 0, none⟩ = some (.int .i64 a1_0) := (zz18 BK258.out 0).trans rfl
      have hcz12_1 : wr.cell? ⟨gb258, 1, none⟩ = some (.bool a1_1) := (zz18 BK258.out 1).trans rfl
      have hfz12_0 := zz17 BK258.out 0
      have hfz12_1 := zz17 BK258.out 1
      go_wp2
      repeat (go_quiet (fail); try go_wp2)
      go_roundg k1
      case measure => have := HK1.out; omega
      case rel=>exact ⟨(wrap64 (x7_1 + 1)),(by first|rfl|(simp;done)|(simp [*];done)),H',⟨by have:=HK1.out;omega⟩,⟨by (with_reducible repeat (first|apply zz05|apply zz04|apply zz06));exact HO_6.out⟩,⟨by (with_reducible repeat (first|refine zz07 ?_ _|refine zz09 ?_|refine zz08 ?_ _));exact BK258.out⟩,⟨by repeat (first|(with_reducible first|exact HB.out|apply zz03|apply zz01|apply zz02|refine zz10 ?_ GE258.out)|exact HB.out)⟩⟩
    ·
     rw [if_neg c7] at H
     exact absurd H (by simp)
   ·
    rw [if_neg c6] at H
    have c6b0 : decide (x7_1 < (t259.length : Int)) = false := decide_eq_false c6
    clear c6
    simp only [zz15, zz16] at H
    obtain ⟨rfl, rfl⟩ := H
    obtain ⟨Ao13, co13, eo13⟩ := Kd.R_slice HO_6.out
    subst eo13
    go_wp2
    repeat (go_quiet (fail); try go_wp2)
    go_ret2
    exact ⟨by first|rfl|(simp [errW_none,errW_some] <;> rfl)|(simp [*,errW_none,errW_some] <;> rfl),by repeat (first|(with_reducible first|exact HB.out|apply zz03|apply zz01|apply zz02|refine zz10 ?_ GE258.out)|exact HB.out)⟩

end Go.Proofs.YtflpddhoiafhcaaGreatDoor.S
end

section
-- Written by wip/hprint.py of this repo (holes typed by hand, all else by a program) over the seat YtflpddhoiafhcaaGreatDoor.
namespace Go.Proofs.YtflpddhoiafhcaaGreatDoor.S
open Go.Proofs.YtflpddhoiafhcaaGreatDoor.H
open Go.RowKit Go.Proofs.YtflpddhoiafhcaaGreatDoorW.PrintWords Go.Proofs.YtflpddhoiafhcaaGreatDoorW.PrintLast Go.Proofs.YtflpddhoiafhcaaGreatDoorW.PrintMore
attribute [local go_sem] max2_int min2_int max_two min_two max_three min_three max_four min_four   -- for this text's walks alone
set_option linter.unusedVariables false
set_option linter.unusedSimpArgs false

theorem eqA93 (d : Nat) (w : World) (x0 y0 : Int) (x1 y1 : Int) (x2 y2 : Bool) :
    (Op.equalIn (d + 2) 93 (.agg #[.int .i64 x0, .int .i64 x1, .bool x2]) (.agg #[.int .i64 y0, .int .i64 y1, .bool y2])).run Tryz.prog w = .ok (x0 == y0 && (x1 == y1 && (x2 == y2))) w := by
  refine eqA_of Tryz.underlying93 (by kernel_rfl) ?_
  refine eqf_cons (by rfl) (by go_simp; rfl) (by go_simp; rfl) (by go_simp) ?_
  refine eqf_cons (by rfl) (by go_simp; rfl) (by go_simp; rfl) (by go_simp) ?_
  exact eqf_last (by rfl) (by go_simp; rfl) (by go_simp; rfl) (by go_simp)
end Go.Proofs.YtflpddhoiafhcaaGreatDoor.S
end

section
-- Written by wip/hprint.py of this repo (holes typed by hand, all else by a program) over the seat YtflpddhoiafhcaaGreatDoor.
namespace Go.Proofs.YtflpddhoiafhcaaGreatDoor.S
open Go.Proofs.YtflpddhoiafhcaaGreatDoor.H
open Go.RowKit Go.Proofs.YtflpddhoiafhcaaGreatDoorW.PrintWords Go.Proofs.YtflpddhoiafhcaaGreatDoorW.PrintLast Go.Proofs.YtflpddhoiafhcaaGreatDoorW.PrintMore
attribute [local go_sem] max2_int min2_int max_two min_two max_three min_three max_four min_four   -- for this text's walks alone
set_option linter.unusedVariables false
set_option linter.unusedSimpArgs false

attribute [local go_sem high] eqA93
def almanackerref08_lengths.j0 : Nat → List Int → Int → Int → Bool → Option (List Int)
  | 0, _, _, _, _ => none
  | k + 1, x3, x264000, x264001, x264002 => if x264001 = 0 then (if 2 < (x3.length : Int) then ((some (x3.set (2 : Int).toNat 29 : List Int)).bind fun y268 => (if x264002 = true then (if y268.length < 17592186044416 then ((some (y268 ++ [30] : List Int)).bind fun y269 => ((some (([29, 30, 29, 30, 29, 30, 29] : List Int) : List Int)).bind fun y272 => (if y269.length + y272.length < 17592186044416 then (some (y269 ++ y272)) else (none)))) else (none)) else ((some (([29, 30, 29, 30, 29, 30, 29] : List Int) : List Int)).bind fun y278 => (if y268.length + y278.length < 17592186044416 then (some (y268 ++ y278)) else (none))))) else (none)) else (if x264002 = true then (if x3.length < 17592186044416 then ((some (x3 ++ [30] : List Int)).bind fun y284 => ((some (([29, 30, 29, 30, 29, 30, 29] : List Int) : List Int)).bind fun y287 => (if y284.length + y287.length < 17592186044416 then (some (y284 ++ y287)) else (none)))) else (none)) else ((some (([29, 30, 29, 30, 29, 30, 29] : List Int) : List Int)).bind fun y293 => (if x3.length + y293.length < 17592186044416 then (some (x3 ++ y293)) else (none))))
def almanackerref08_lengths.f (k : Nat) (a0_0 : Int) (a0_1 : Int) (a0_2 : Bool) : Option (List Int) := (some (([30, 29, 30, 29, 30] : List Int) : List Int)).bind fun y264 => (if a0_1 = 2 then (if 1 < (y264.length : Int) then (almanackerref08_lengths.j0 k (y264.set (1 : Int).toNat 30) a0_0 a0_1 a0_2) else (none)) else (almanackerref08_lengths.j0 k y264 a0_0 a0_1 a0_2))
theorem almanackerref08_lengths.mono_l : ∀ k, (∀ y0 y1 y2 y3, LeO (almanackerref08_lengths.j0 k y0 y1 y2 y3) (almanackerref08_lengths.j0 (k + 1) y0 y1 y2 y3))
 | 0 => fun _ _ _ _ r h => by simp [almanackerref08_lengths.j0] at h
 | k + 1 => by
  have ih0 := almanackerref08_lengths.mono_l k
  ·
   intro y0 y1 y2 y3
   unfold almanackerref08_lengths.j0
   repeat' first
   | (with_reducible exact ih0 _ _ _ _)
   | (with_reducible exact LeO.refl _)
   | (with_reducible exact LeO.none _)
   | (with_reducible refine LeO.ite ?_ ?_)
   | (with_reducible refine LeO.bind ?_ (fun _ => ?_))
   | exact ih0 _ _ _ _
   | exact LeO.none _
   | refine LeO.ite ?_ ?_
   | refine LeO.bind ?_ (fun _ => ?_)
theorem almanackerref08_lengths.mono : ∀ a0 a1 a2 k, LeO (almanackerref08_lengths.f k a0 a1 a2) (almanackerref08_lengths.f (k + 1) a0 a1 a2) := by
 intro a0 a1 a2 k
 have ih0 := almanackerref08_lengths.mono_l k
 unfold almanackerref08_lengths.f
 repeat' first
   | (with_reducible exact ih0 _ _ _ _)
   | (with_reducible exact LeO.refl _)
   | (with_reducible exact LeO.none _)
   | (with_reducible refine LeO.ite ?_ ?_)
   | (with_reducible refine LeO.bind ?_ (fun _ => ?_))
   | exact ih0 _ _ _ _
   | exact LeO.none _
   | refine LeO.ite ?_ ?_
   | refine LeO.bind ?_ (fun _ => ?_)
set_option maxHeartbeats 8000000 in
set_option maxRecDepth 100000 in
theorem almanackerref08_lengths.calls (k : Nat) (a0_0 : Int) (a0_1 : Int) (a0_2 : Bool) (r : List Int) (w : World) (h : almanackerref08_lengths.f k a0_0 a0_1 a0_2 = some r) :
  Calls Tryz.prog 152 #[.agg #[.int .i64 a0_0,.int .i64 a0_1,.bool a0_2]] w fun e w'=>∃ v0_ : Value,e = .returned (v0_) ∧ Kd.R (Kd.int .i64) 3 w' w.heap.size (fun _=>True) v0_ r ∧ Below w.heap.size w w':=by
 have hu93 := Tryz.underlying93
 have HB := zz00 (Below.refl w.heap.size w)
 have H : ((some (([30,29,30,29,30] : List Int) : List Int)).bind fun y264=>(if a0_1 = 2 then (if 1 < (y264.length : Int) then (almanackerref08_lengths.j0 k (y264.set (1 : Int).toNat 30) a0_0 a0_1 a0_2) else (none)) else (almanackerref08_lengths.j0 k y264 a0_0 a0_1 a0_2))) = some r:=h
 clear h
 obtain ⟨y264, hy264⟩ : ∃ y_ : List Int, y_ = (([30, 29, 30, 29, 30] : List Int)) := ⟨_, rfl⟩
 replace H : (if a0_1 = 2 then (if 1 < (y264.length : Int) then (almanackerref08_lengths.j0 k (y264.set (1 : Int).toNat 30) a0_0 a0_1 a0_2) else (none)) else (almanackerref08_lengths.j0 k y264 a0_0 a0_1 a0_2)) = some r:=by first|(rw [hy264];with_reducible exact H)|(have H2_:=(Option.bind_some _ _).symm.trans H;rw [hy264];with_reducible exact H2_)|(have H2_:=(Option.bind_some _ _).symm.trans H;with_reducible exact H2_)|with_reducible exact H|(rw [hy264];exact H)|exact H
 have Ny264 := zz00 hy264
 clear hy264
 have HC2 := zz00 H
 clear H
 go_enter Tryz.func152, Tryz.ntmps152
 go_upto_if 7 with (first|((with_reducible refine zz24 (N:=1) rfl ?_);refine zz30 ?hg (N:=1) ?hd (cs:=#[.int .i64 a0_0,.int .i64 a0_1,.bool a0_2]) (t:=93) ?hr ?_;(case hd=>rfl);(case hg=>rfl);(case hr=>first|(go_simp;done)|(go_simp;rfl));intro gb263 hg w3 hbox hb;have n0_:=zz00 (zz21 (by repeat (first|(with_reducible first|exact HB.out|apply zz03|apply zz01|apply zz02)|exact HB.out)) hb);have n1_:=zz00 (hbox);have n2_:=zz00 ((by rw [hg];exact (zz22 (by repeat (first|(with_reducible first|exact HB.out|apply zz03|apply zz01|apply zz02)|exact HB.out))) : w.heap.size ≤ gb263));have n3_:=zz00 ((by rw [hg];exact (zz22 (by repeat (first|(with_reducible first|exact HB.out|apply zz03|apply zz01|apply zz02)|exact HB.out))) : w.heap.size ≤ gb263));clear HB;have HB:=n0_;have BK263:=n1_;have GW263:=n2_;have GE263:=n3_;clear n0_ n1_ n2_ n3_;clear hb hbox hg)|((with_reducible refine zz24 (N:=4) rfl ?_);refine Kd.R_lit (Kd.int .i64) _ 3 ?hg (N:=4) ?hd (xs:=([30,29,30,29,30] : List Int)) (inner:=[.int .i64 30,.int .i64 29,.int .i64 30,.int .i64 29,.int .i64 30]) (ok:=fun _=>True) (okp:=fun _=>True) ?hr ?hp (fun _ hk=>hk) trivial (Below.refl _ _) (Nat.le_refl _) (by simp) ?_;(case hd=>rfl);(case hg=>rfl);(case hr=>first|(go_simp;done)|(go_simp;rfl));(case hp=>exact (Reps.one (show Kd.M (Kd.int .i64) _ _ _ 30 [.int .i64 30] from rfl) (Reps.one (show Kd.M (Kd.int .i64) _ _ _ 29 [.int .i64 29] from rfl) (Reps.one (show Kd.M (Kd.int .i64) _ _ _ 30 [.int .i64 30] from rfl) (Reps.one (show Kd.M (Kd.int .i64) _ _ _ 29 [.int .i64 29] from rfl) (Reps.one (show Kd.M (Kd.int .i64) _ _ _ 30 [.int .i64 30] from rfl) (Reps.none _ _)))))));intro v265 w4 ho5 hb hg_ hnew_;clear hg_ hnew_;(first|rw [← Ny264.out] at ho5|(simp only [Int.reduceToNat] at ho5;rw [← Ny264.out] at ho5));have n0_:=zz00 (Kd.R_lower ho5 (zz22 (by repeat (first|(with_reducible first|exact HB.out|apply zz03|apply zz01|apply zz02|refine zz10 ?_ GE263.out)|exact HB.out))));have n1_:=zz00 (zz34 (g:=gb263) (o:=.cells #[.int .i64 a0_0,.int .i64 a0_1,.bool a0_2] 93 (0,0)) (by (with_reducible repeat (first|refine zz07 ?_ _|refine zz09 ?_|refine zz08 ?_ _));exact BK263.out) hb);have n2_:=zz00 (zz21 (by repeat (first|(with_reducible first|exact HB.out|apply zz03|apply zz01|apply zz02|refine zz10 ?_ GE263.out)|exact HB.out)) hb);clear BK263;clear HB;have HO266:=n0_;have BK263:=n1_;have HB:=n2_;clear n0_ n1_ n2_;clear hb ho5;have hcz6_0 : w4.cell? ⟨gb263,0,none⟩ = some (.int .i64 a0_0):=(zz18 BK263.out 0).trans rfl;have hcz6_1 : w4.cell? ⟨gb263,1,none⟩ = some (.int .i64 a0_1):=(zz18 BK263.out 1).trans rfl;have hcz6_2 : w4.cell? ⟨gb263,2,none⟩ = some (.bool a0_2):=(zz18 BK263.out 2).trans rfl;have hfz6_0:=zz17 BK263.out 0;have hfz6_1:=zz17 BK263.out 1;have hfz6_2:=zz17 BK263.out 2))
 (try simp only [Act.put, zz11, zz12, zz13])
 go_cut [] (fun wc=>∃ (kq : Nat) (x3_1 : List Int),Aside0 (almanackerref08_lengths.j0 kq x3_1 a0_0 a0_1 a0_2 = some r) ∧ Aside0 (kq ≤ k) ∧ Aside0 (Kd.R (Kd.int .i64) 3 wc w.heap.size (fun _=>True) v265 x3_1) ∧ Aside0 (wc.heap[gb263]? = some (.cells #[.int .i64 a0_0,.int .i64 a0_1,.bool a0_2] 93 (0,0))) ∧ Aside0 (Below w.heap.size w wc))
 case first =>
  have H := HC2.out
  clear HC2
  by_cases c7 : a0_1 = 2
  ·
   rw [if_pos c7] at H
   have c7b0 : (a0_1 == 2) = true := zz29.mpr c7
   have c7b1 : (a0_1 != 2) = false := zz26.mpr c7
   clear c7
   (first | rw [c7b0] | (simp only [i64_w, i32_w]; rw [c7b0]) | skip)
   by_cases c8 : 1 < (y264.length : Int)
   ·
    rw [if_pos c8] at H
    have c8b0 : decide (1 < (y264.length : Int)) = true := decide_eq_true c8
    have c8b1 : decide (1 < y264.length) = true := decide_eq_true (by omega)
    clear c8
    obtain ⟨y267, hy267⟩ : ∃ y_ : List Int, y_ = (y264.set (1 : Int).toNat 30) := ⟨_, rfl⟩
    replace H : (almanackerref08_lengths.j0 k y267 a0_0 a0_1 a0_2) = some r:=by first|(rw [hy267];with_reducible exact H)|(have H2_:=(Option.bind_some _ _).symm.trans H;rw [hy267];with_reducible exact H2_)|(have H2_:=(Option.bind_some _ _).symm.trans H;with_reducible exact H2_)|with_reducible exact H|(rw [hy267];exact H)|exact H
    have Ny267 := zz00 hy267
    clear hy267
    have H' := zz00 H
    clear H
    have p9 : 0 ≤ (1 : Int) := (by omega)
    have q9 : (1 : Int) < ((y264.length : Int) : Int) := zz31 (by first | (with_reducible assumption) | assumption)
    have qi9 : (1 < y264.length) = True := eq_true (by omega)
    obtain ⟨go9, co9, eo9, gb9, gl9, cl9, HG9⟩ := Kd.R_form HO266.out (by omega)
    (first | cases eo9 | (injection eo9 with ea_ en_ ec_; (first | subst ea_ | (injection ea_ with ea_; subst ea_)); subst ec_; clear en_))
    have GB9 := zz00 gb9
    have GG9 := zz00 HG9
    clear gb9 gl9 HG9
    obtain ⟨hx9_0, hf9_0⟩ := Kd.R_celln 0 HO266.out (1 : Int) p9 q9
    (try rw [show ((1 : Int)).toNat = 1 from rfl] at hx9_0)
    (try simp only [Nat.reduceMul, Nat.zero_mul, Nat.zero_add, Nat.reduceAdd] at hx9_0)
    (try rw [show ((1 : Int)).toNat = 1 from rfl] at hf9_0)
    (try simp only [Nat.reduceMul, Nat.zero_mul, Nat.zero_add, Nat.reduceAdd] at hf9_0)
    replace p9 := eq_true p9
    replace q9 := eq_true q9
    have HP10 := Kd.R_putg HO266.out (1 : Int) 30
    go_wp2_with (first|((with_reducible refine gate_store (t:=3) (p:=9) rfl ?_);refine store_event (t:=3) (p:=9) (v:=?vo_w11) (w1:=(w4.setCell ⟨go9,(1 : Int).toNat,none⟩ (.int .i64 30))) ?hg ?ho ?hn ?hr ?_;(case ho=>rfl);(case hg=>rfl);(case hn=>rfl);(case hr=>first|(go_simp;done)|(go_simp;rfl));intro w11 hw;have hg : w4.grownBy w11 (some go9):=(by rw [hw];exact HP10.2);have hp_ : Kd.R (Kd.int .i64) 3 w11 w.heap.size (fun _=>True) (.slice (some ⟨go9,0,none⟩) y264.length co9) y267:=(by rw [hw,Ny267.out];exact HP10.1);clear HP10;have n0_:=zz00 (blk_grown (g:=gb263) (o:=.cells #[.int .i64 a0_0,.int .i64 a0_1,.bool a0_2] 93 (0,0)) (by (with_reducible repeat (first|refine zz07 ?_ _|refine zz09 ?_|refine zz08 ?_ _));exact BK263.out) hg (Kd.R_ne HO266.out BK263.out (by decide)));have n1_:=zz00 (hp_);have n2_:=zz00 ((by rw [hw];exact zz10 (HB.out) GB9.out : Below w.heap.size w w11));clear BK263;clear HO266;clear HB;have BK263:=n0_;have HO266:=n1_;have HB:=n2_;clear n0_ n1_ n2_;clear hg hw hp_))
    go_meet
    case rel=>exact ⟨_,(y267),H',⟨by first|omega|exact Nat.le_refl _⟩,⟨by (with_reducible repeat (first|apply zz05|apply zz04|apply zz06));exact HO266.out⟩,⟨by (with_reducible repeat (first|refine zz07 ?_ _|refine zz09 ?_|refine zz08 ?_ _));exact BK263.out⟩,⟨by repeat (first|(with_reducible first|exact HB.out|apply zz03|apply zz01|apply zz02|refine zz10 ?_ GE263.out)|exact HB.out)⟩⟩
   ·
    rw [if_neg c8] at H
    exact absurd H (by simp)
  ·
   rw [if_neg c7] at H
   have c7b0 : (a0_1 == 2) = false := zz27.mpr c7
   have c7b1 : (a0_1 != 2) = true := zz28.mpr c7
   (first | rw [c7b0] | (simp only [i64_w, i32_w]; rw [c7b0]) | skip)
   have H' := zz00 H
   clear H
   go_wp2
   go_meet
   case rel=>exact ⟨_,(y264),H',⟨by first|omega|exact Nat.le_refl _⟩,⟨by (with_reducible repeat (first|apply zz05|apply zz04|apply zz06));exact HO266.out⟩,⟨by (with_reducible repeat (first|refine zz07 ?_ _|refine zz09 ?_|refine zz08 ?_ _));exact BK263.out⟩,⟨by repeat (first|(with_reducible first|exact HB.out|apply zz03|apply zz01|apply zz02|refine zz10 ?_ GE263.out)|exact HB.out)⟩⟩
 case rest =>
  clear HC2
  try clear c1
  try clear p2
  try clear c7
  try clear c7b0
  try clear c7b1
  try clear c8
  try clear c8b0
  try clear c8b1
  try clear p9
  try clear q9
  try clear hx9
  try clear qi9
  try clear hf9
  try clear hcz6_0
  try clear hcz6_1
  try clear hcz6_2
  try clear hfz6_0
  try clear hfz6_1
  try clear hfz6_2
  try clear hx9_0
  try clear p9
  try clear q9
  obtain ⟨kq, x3_1, HA, HJ1, HO_3, BK263, HB⟩ := hcut
  cases kq with
  | zero => exact absurd HA.out (by simp [almanackerref08_lengths.j0])
  | succ kj1 =>
   have H := HA.out
   clear HA
   simp only [almanackerref08_lengths.j0] at H
   by_cases c12 : a0_1 = 0
   ·
    rw [if_pos c12] at H
    have c12b0 : (a0_1 == 0) = true := zz29.mpr c12
    have c12b1 : (a0_1 != 0) = false := zz26.mpr c12
    clear c12
    by_cases c13 : 2 < (x3_1.length : Int)
    ·
     rw [if_pos c13] at H
     have c13b0 : decide (2 < (x3_1.length : Int)) = true := decide_eq_true c13
     have c13b1 : decide (2 < x3_1.length) = true := decide_eq_true (by omega)
     clear c13
     obtain ⟨y268, hy268⟩ : ∃ y_ : List Int, y_ = (x3_1.set (2 : Int).toNat 29) := ⟨_, rfl⟩
     replace H : (if a0_2 = true then (if y268.length < 17592186044416 then ((some (y268 ++ [30] : List Int)).bind fun y269=>((some (([29,30,29,30,29,30,29] : List Int) : List Int)).bind fun y272=>(if y269.length + y272.length < 17592186044416 then (some (y269 ++ y272)) else (none)))) else (none)) else ((some (([29,30,29,30,29,30,29] : List Int) : List Int)).bind fun y278=>(if y268.length + y278.length < 17592186044416 then (some (y268 ++ y278)) else (none)))) = some r:=by first|(rw [hy268];with_reducible exact H)|(have H2_:=(Option.bind_some _ _).symm.trans H;rw [hy268];with_reducible exact H2_)|(have H2_:=(Option.bind_some _ _).symm.trans H;with_reducible exact H2_)|with_reducible exact H|(rw [hy268];exact H)|exact H
     have Ny268 := zz00 hy268
     clear hy268
     by_cases c15 : a0_2 = true
     ·
      subst c15
      have H1 : (if y268.length < 17592186044416 then ((some (y268 ++ [30] : List Int)).bind fun y269=>((some (([29,30,29,30,29,30,29] : List Int) : List Int)).bind fun y272=>(if y269.length + y272.length < 17592186044416 then (some (y269 ++ y272)) else (none)))) else (none)) = some r:=by rw [if_pos rfl] at H;exact H
      clear H
      have H := H1
      clear H1
      by_cases c16 : y268.length < 17592186044416
      ·
       rw [if_pos c16] at H
       have LMc16 := zz00 c16
       clear c16
       obtain ⟨y269, hy269⟩ : ∃ y_ : List Int, y_ = (y268 ++ [30]) := ⟨_, rfl⟩
       replace H : ((some (([29,30,29,30,29,30,29] : List Int) : List Int)).bind fun y272=>(if y269.length + y272.length < 17592186044416 then (some (y269 ++ y272)) else (none))) = some r:=by first|(rw [hy269];with_reducible exact H)|(have H2_:=(Option.bind_some _ _).symm.trans H;rw [hy269];with_reducible exact H2_)|(have H2_:=(Option.bind_some _ _).symm.trans H;with_reducible exact H2_)|with_reducible exact H|(rw [hy269];exact H)|exact H
       have Ny269 := zz00 hy269
       clear hy269
       obtain ⟨y272, hy272⟩ : ∃ y_ : List Int, y_ = (([29, 30, 29, 30, 29, 30, 29] : List Int)) := ⟨_, rfl⟩
       replace H : (if y269.length + y272.length < 17592186044416 then (some (y269 ++ y272)) else (none)) = some r:=by first|(rw [hy272];with_reducible exact H)|(have H2_:=(Option.bind_some _ _).symm.trans H;rw [hy272];with_reducible exact H2_)|(have H2_:=(Option.bind_some _ _).symm.trans H;with_reducible exact H2_)|with_reducible exact H|(rw [hy272];exact H)|exact H
       have Ny272 := zz00 hy272
       clear hy272
       by_cases c17 : y269.length + y272.length < 17592186044416
       ·
        rw [if_pos c17] at H
        have LMc17 := zz00 c17
        clear c17
        obtain ⟨y275, hy275⟩ : ∃ y_ : List Int, y_ = (y269 ++ y272) := ⟨_, rfl⟩
        replace H : (some y275) = some r:=by first|(rw [hy275];with_reducible exact H)|(have H2_:=(Option.bind_some _ _).symm.trans H;rw [hy275];with_reducible exact H2_)|(have H2_:=(Option.bind_some _ _).symm.trans H;with_reducible exact H2_)|with_reducible exact H|(rw [hy275];exact H)|exact H
        have Ny275 := zz00 hy275
        clear hy275
        obtain rfl := Option.some.inj H
        have hcz18_0 : wc.cell? ⟨gb263, 0, none⟩ = some (.int .i64 a0_0) := (zz18 BK263.out 0).trans rfl
        have hcz18_1 : wc.cell? ⟨gb263, 1, none⟩ = some (.int .i64 a0_1) := (zz18 BK263.out 1).trans rfl
        have hcz18_2 : wc.cell? ⟨gb263, 2, none⟩ = some (.bool true) := (zz18 BK263.out 2).trans rfl
        have hfz18_0 := zz17 BK263.out 0
        have hfz18_1 := zz17 BK263.out 1
        have hfz18_2 := zz17 BK263.out 2
        have p14 : 0 ≤ (2 : Int) := (by omega)
        have q14 : (2 : Int) < ((x3_1.length : Int) : Int) := zz31 (by first | (with_reducible assumption) | assumption)
        have qi14 : (2 < x3_1.length) = True := eq_true (by omega)
        obtain ⟨go14, co14, eo14, gb14, gl14, cl14, HG14⟩ := Kd.R_form HO_3.out (by omega)
        (first | cases eo14 | (injection eo14 with ea_ en_ ec_; (first | subst ea_ | (injection ea_ with ea_; subst ea_)); subst ec_; clear en_))
        have GB14 := zz00 gb14
        have GG14 := zz00 HG14
        clear gb14 gl14 HG14
        obtain ⟨hx14_0, hf14_0⟩ := Kd.R_celln 0 HO_3.out (2 : Int) p14 q14
        (try rw [show ((2 : Int)).toNat = 2 from rfl] at hx14_0)
        (try simp only [Nat.reduceMul, Nat.zero_mul, Nat.zero_add, Nat.reduceAdd] at hx14_0)
        (try rw [show ((2 : Int)).toNat = 2 from rfl] at hf14_0)
        (try simp only [Nat.reduceMul, Nat.zero_mul, Nat.zero_add, Nat.reduceAdd] at hf14_0)
        replace p14 := eq_true p14
        replace q14 := eq_true q14
        have HP19 := Kd.R_putg HO_3.out (2 : Int) 29
        go_wp2_with (first|((with_reducible refine gate_store (t:=3) (p:=14) rfl ?_);refine store_event (t:=3) (p:=14) (v:=?vo_w20) (w1:=(wc.setCell ⟨go14,(2 : Int).toNat,none⟩ (.int .i64 29))) ?hg ?ho ?hn ?hr ?_;(case ho=>rfl);(case hg=>rfl);(case hn=>rfl);(case hr=>first|(go_simp;done)|(go_simp;rfl));intro w20 hw;have hg : wc.grownBy w20 (some go14):=(by rw [hw];exact HP19.2);have hp_ : Kd.R (Kd.int .i64) 3 w20 w.heap.size (fun _=>True) (.slice (some ⟨go14,0,none⟩) x3_1.length co14) y268:=(by rw [hw,Ny268.out];exact HP19.1);clear HP19;have n0_:=zz00 (hp_);have n1_:=zz00 (blk_grown (g:=gb263) (o:=.cells #[.int .i64 a0_0,.int .i64 a0_1,.bool true] 93 (0,0)) (by (with_reducible repeat (first|refine zz07 ?_ _|refine zz09 ?_|refine zz08 ?_ _));exact BK263.out) hg (Kd.R_ne HO_3.out BK263.out (by decide)));have n2_:=zz00 ((by rw [hw];exact zz10 (HB.out) GB14.out : Below w.heap.size w w20));clear HO_3;clear BK263;clear HB;have HO_3:=n0_;have BK263:=n1_;have HB:=n2_;clear n0_ n1_ n2_;clear hg hw hp_;have hcz21_0 : w20.cell? ⟨gb263,0,none⟩ = some (.int .i64 a0_0):=(zz18 BK263.out 0).trans rfl;have hcz21_1 : w20.cell? ⟨gb263,1,none⟩ = some (.int .i64 a0_1):=(zz18 BK263.out 1).trans rfl;have hcz21_2 : w20.cell? ⟨gb263,2,none⟩ = some (.bool true):=(zz18 BK263.out 2).trans rfl;have hfz21_0:=zz17 BK263.out 0;have hfz21_1:=zz17 BK263.out 1;have hfz21_2:=zz17 BK263.out 2)|((with_reducible refine gate_builtin (b:=.append) (xs:=#[.tmp 17,.tmp 18]) rfl ?_);at_builtin;refine Kd.R_append (Kd.int .i64) (w0:=w) w.heap.size rfl (.tmp 17) (.tmp 18) 155 3 (.int .i64 0) 8 rfl Tryz.underlying155 info3 rfl (by decide) (by omega) (.slice (some ⟨go14,0,none⟩) x3_1.length co14) y268 30 [.int .i64 30] (fun _=>True) (fun _=>False) rfl rfl ?aP (fun _ hk=>hk.elim) ?aF ?aO ?aB ?aS ?aL ?_;(case aP=>exact rfl);(case aB=>exact (by repeat (first|(with_reducible first|exact HB.out|apply zz03|apply zz01|apply zz02|refine zz10 ?_ GE263.out)|exact HB.out)));(case aF=>exact (fun _ _=>trivial));(case aO=>exact (by (with_reducible repeat (first|apply zz05|apply zz04|apply zz06));exact HO_3.out));(case aS=>exact (zz22 (by repeat (first|(with_reducible first|exact HB.out|apply zz03|apply zz01|apply zz02|refine zz10 ?_ GE263.out)|exact HB.out))));(case aL=>have:=LMc16.out;omega);intro v270 w22 ho hb hg hat;rw [← Ny269.out] at ho;have n0_:=zz00 (blk_grown (g:=gb263) (o:=.cells #[.int .i64 a0_0,.int .i64 a0_1,.bool true] 93 (0,0)) (by (with_reducible repeat (first|refine zz07 ?_ _|refine zz09 ?_|refine zz08 ?_ _));exact BK263.out) hg (Kd.R_ne HO_3.out BK263.out (by decide)));have n1_:=zz00 (hb);have n2_:=zz00 (ho);clear BK263;clear HB;clear HO_3;have BK263:=n0_;have HB:=n1_;have HO271:=n2_;clear n0_ n1_ n2_;clear ho hb hg hat)|((with_reducible refine zz24 (N:=21) rfl ?_);refine Kd.R_lit (Kd.int .i64) _ 3 ?hg (N:=21) ?hd (xs:=([29,30,29,30,29,30,29] : List Int)) (inner:=[.int .i64 29,.int .i64 30,.int .i64 29,.int .i64 30,.int .i64 29,.int .i64 30,.int .i64 29]) (ok:=fun _=>True) (okp:=fun _=>True) ?hr ?hp (fun _ hk=>hk) trivial (Below.refl _ _) (Nat.le_refl _) (by simp) ?_;(case hd=>rfl);(case hg=>rfl);(case hr=>first|(go_simp;done)|(go_simp;rfl));(case hp=>exact (Reps.one (show Kd.M (Kd.int .i64) _ _ _ 29 [.int .i64 29] from rfl) (Reps.one (show Kd.M (Kd.int .i64) _ _ _ 30 [.int .i64 30] from rfl) (Reps.one (show Kd.M (Kd.int .i64) _ _ _ 29 [.int .i64 29] from rfl) (Reps.one (show Kd.M (Kd.int .i64) _ _ _ 30 [.int .i64 30] from rfl) (Reps.one (show Kd.M (Kd.int .i64) _ _ _ 29 [.int .i64 29] from rfl) (Reps.one (show Kd.M (Kd.int .i64) _ _ _ 30 [.int .i64 30] from rfl) (Reps.one (show Kd.M (Kd.int .i64) _ _ _ 29 [.int .i64 29] from rfl) (Reps.none _ _)))))))));intro v273 w23 ho24 hb hg_ hnew_;clear hg_ hnew_;(first|rw [← Ny272.out] at ho24|(simp only [Int.reduceToNat] at ho24;rw [← Ny272.out] at ho24));have n0_:=zz00 (zz20 (by (with_reducible repeat (first|apply zz05|apply zz04|apply zz06));exact HO271.out) (Kd.R_base ho24) hb);have n1_:=zz00 (Kd.R_lower (Kd.R_new' ho24 (Kd.R_lt (by (with_reducible repeat (first|apply zz05|apply zz04|apply zz06));exact HO271.out))) (zz22 (by repeat (first|(with_reducible first|exact HB.out|apply zz03|apply zz01|apply zz02|refine zz10 ?_ GE263.out)|exact HB.out))));have n2_:=zz00 (zz34 (g:=gb263) (o:=.cells #[.int .i64 a0_0,.int .i64 a0_1,.bool true] 93 (0,0)) (by (with_reducible repeat (first|refine zz07 ?_ _|refine zz09 ?_|refine zz08 ?_ _));exact BK263.out) hb);have n3_:=zz00 (zz21 (by repeat (first|(with_reducible first|exact HB.out|apply zz03|apply zz01|apply zz02|refine zz10 ?_ GE263.out)|exact HB.out)) hb);clear HO271;clear BK263;clear HB;have HO271:=n0_;have HO274:=n1_;have BK263:=n2_;have HB:=n3_;clear n0_ n1_ n2_ n3_;clear hb ho24;obtain ⟨Ao26,co26,eo26⟩:=Kd.R_slice HO274.out;subst eo26)|((with_reducible refine gate_builtin (b:=.append) (xs:=#[.tmp 20,.tmp 21]) rfl ?_);at_builtin;refine Kd.R_append_rows (Kd.int .i64) (w0:=w) w.heap.size rfl (.tmp 20) (.tmp 21) 155 3 (.int .i64 0) 8 rfl Tryz.underlying155 info3 rfl (by decide) (by omega) v270 y269 y272 _ _ _ (fun k_=>some k_ ≠ (.slice Ao26 y272.length co26 : Value).ownBlock) (fun _=>False) rfl rfl ?aO ?aR (fun _ _ h=>h) (fun _ h=>h.elim) ?aF ?aB ?aS ?aL ?_;(case aR=>repeat (first|exact (Kd.R_reads' HO274.out).2.2|(with_reducible refine Kd.C_alloc ?_ _)|(with_reducible refine Kd.C_drewN ?_ _)|(with_reducible refine Kd.C_drew ?_)));(case aB=>exact (by repeat (first|(with_reducible first|exact HB.out|apply zz03|apply zz01|apply zz02|refine zz10 ?_ GE263.out)|exact HB.out)));(case aF=>exact (fun k_ hk=>Kd.fresh' (Kd.R_lt (by (with_reducible repeat (first|apply zz05|apply zz04|apply zz06));exact HO274.out)) k_ hk));(case aO=>exact (by (with_reducible repeat (first|apply zz05|apply zz04|apply zz06));exact Kd.R_mono HO271.out (fun _ hk=>hk.2)));(case aS=>exact (zz22 (by repeat (first|(with_reducible first|exact HB.out|apply zz03|apply zz01|apply zz02|refine zz10 ?_ GE263.out)|exact HB.out))));(case aL=>have:=LMc17.out;omega);intro v276 w25 ho hb hg hat;rw [← Ny275.out] at ho;have n0_:=zz00 (blk_grown (g:=gb263) (o:=.cells #[.int .i64 a0_0,.int .i64 a0_1,.bool true] 93 (0,0)) (by (with_reducible repeat (first|refine zz07 ?_ _|refine zz09 ?_|refine zz08 ?_ _));exact BK263.out) hg (Kd.R_ne HO271.out BK263.out (by decide)));have n1_:=zz00 (Kd.R_after (ok:=(fun _=>True)) (by (with_reducible repeat (first|apply zz05|apply zz04|apply zz06));exact HO274.out) hg hat);have n2_:=zz00 (hb);have n3_:=zz00 (ho);clear BK263;clear HO274;clear HB;clear HO271;have BK263:=n0_;have HO274:=n1_;have HB:=n2_;have HO277:=n3_;clear n0_ n1_ n2_ n3_;clear ho hb hg hat))
        go_ret
        exact ⟨_,by first|rfl|(simp [errW_none,errW_some] <;> rfl)|(simp [*,errW_none,errW_some] <;> rfl),by (with_reducible repeat (first|apply zz05|apply zz04|apply zz06));exact Kd.R_mono HO277.out (fun _ hk=>trivial),by repeat (first|(with_reducible first|exact HB.out|apply zz03|apply zz01|apply zz02|refine zz10 ?_ GE263.out)|exact HB.out)⟩
       ·
        rw [if_neg c17] at H
        exact absurd H (by simp)
      ·
       rw [if_neg c16] at H
       exact absurd H (by simp)
     ·
      replace c15 := zz32.mpr c15
      subst c15
      have H1 : ((some (([29,30,29,30,29,30,29] : List Int) : List Int)).bind fun y278=>(if y268.length + y278.length < 17592186044416 then (some (y268 ++ y278)) else (none))) = some r:=by rw [if_neg (show ¬ (false = true) by decide)] at H;exact H
      clear H
      have H := H1
      clear H1
      obtain ⟨y278, hy278⟩ : ∃ y_ : List Int, y_ = (([29, 30, 29, 30, 29, 30, 29] : List Int)) := ⟨_, rfl⟩
      replace H : (if y268.length + y278.length < 17592186044416 then (some (y268 ++ y278)) else (none)) = some r:=by first|(rw [hy278];with_reducible exact H)|(have H2_:=(Option.bind_some _ _).symm.trans H;rw [hy278];with_reducible exact H2_)|(have H2_:=(Option.bind_some _ _).symm.trans H;with_reducible exact H2_)|with_reducible exact H|(rw [hy278];exact H)|exact H
      have Ny278 := zz00 hy278
      clear hy278
      by_cases c27 : y268.length + y278.length < 17592186044416
      ·
       rw [if_pos c27] at H
       have LMc27 := zz00 c27
       clear c27
       obtain ⟨y281, hy281⟩ : ∃ y_ : List Int, y_ = (y268 ++ y278) := ⟨_, rfl⟩
       replace H : (some y281) = some r:=by first|(rw [hy281];with_reducible exact H)|(have H2_:=(Option.bind_some _ _).symm.trans H;rw [hy281];with_reducible exact H2_)|(have H2_:=(Option.bind_some _ _).symm.trans H;with_reducible exact H2_)|with_reducible exact H|(rw [hy281];exact H)|exact H
       have Ny281 := zz00 hy281
       clear hy281
       obtain rfl := Option.some.inj H
       have hcz28_0 : wc.cell? ⟨gb263, 0, none⟩ = some (.int .i64 a0_0) := (zz18 BK263.out 0).trans rfl
       have hcz28_1 : wc.cell? ⟨gb263, 1, none⟩ = some (.int .i64 a0_1) := (zz18 BK263.out 1).trans rfl
       have hcz28_2 : wc.cell? ⟨gb263, 2, none⟩ = some (.bool false) := (zz18 BK263.out 2).trans rfl
       have hfz28_0 := zz17 BK263.out 0
       have hfz28_1 := zz17 BK263.out 1
       have hfz28_2 := zz17 BK263.out 2
       have p14 : 0 ≤ (2 : Int) := (by omega)
       have q14 : (2 : Int) < ((x3_1.length : Int) : Int) := zz31 (by first | (with_reducible assumption) | assumption)
       have qi14 : (2 < x3_1.length) = True := eq_true (by omega)
       obtain ⟨go14, co14, eo14, gb14, gl14, cl14, HG14⟩ := Kd.R_form HO_3.out (by omega)
       (first | cases eo14 | (injection eo14 with ea_ en_ ec_; (first | subst ea_ | (injection ea_ with ea_; subst ea_)); subst ec_; clear en_))
       have GB14 := zz00 gb14
       have GG14 := zz00 HG14
       clear gb14 gl14 HG14
       obtain ⟨hx14_0, hf14_0⟩ := Kd.R_celln 0 HO_3.out (2 : Int) p14 q14
       (try rw [show ((2 : Int)).toNat = 2 from rfl] at hx14_0)
       (try simp only [Nat.reduceMul, Nat.zero_mul, Nat.zero_add, Nat.reduceAdd] at hx14_0)
       (try rw [show ((2 : Int)).toNat = 2 from rfl] at hf14_0)
       (try simp only [Nat.reduceMul, Nat.zero_mul, Nat.zero_add, Nat.reduceAdd] at hf14_0)
       replace p14 := eq_true p14
       replace q14 := eq_true q14
       have HP29 := Kd.R_putg HO_3.out (2 : Int) 29
       go_wp2_with (first|((with_reducible refine gate_store (t:=3) (p:=14) rfl ?_);refine store_event (t:=3) (p:=14) (v:=?vo_w30) (w1:=(wc.setCell ⟨go14,(2 : Int).toNat,none⟩ (.int .i64 29))) ?hg ?ho ?hn ?hr ?_;(case ho=>rfl);(case hg=>rfl);(case hn=>rfl);(case hr=>first|(go_simp;done)|(go_simp;rfl));intro w30 hw;have hg : wc.grownBy w30 (some go14):=(by rw [hw];exact HP29.2);have hp_ : Kd.R (Kd.int .i64) 3 w30 w.heap.size (fun _=>True) (.slice (some ⟨go14,0,none⟩) x3_1.length co14) y268:=(by rw [hw,Ny268.out];exact HP29.1);clear HP29;have n0_:=zz00 (hp_);have n1_:=zz00 (blk_grown (g:=gb263) (o:=.cells #[.int .i64 a0_0,.int .i64 a0_1,.bool false] 93 (0,0)) (by (with_reducible repeat (first|refine zz07 ?_ _|refine zz09 ?_|refine zz08 ?_ _));exact BK263.out) hg (Kd.R_ne HO_3.out BK263.out (by decide)));have n2_:=zz00 ((by rw [hw];exact zz10 (HB.out) GB14.out : Below w.heap.size w w30));clear HO_3;clear BK263;clear HB;have HO_3:=n0_;have BK263:=n1_;have HB:=n2_;clear n0_ n1_ n2_;clear hg hw hp_;have hcz31_0 : w30.cell? ⟨gb263,0,none⟩ = some (.int .i64 a0_0):=(zz18 BK263.out 0).trans rfl;have hcz31_1 : w30.cell? ⟨gb263,1,none⟩ = some (.int .i64 a0_1):=(zz18 BK263.out 1).trans rfl;have hcz31_2 : w30.cell? ⟨gb263,2,none⟩ = some (.bool false):=(zz18 BK263.out 2).trans rfl;have hfz31_0:=zz17 BK263.out 0;have hfz31_1:=zz17 BK263.out 1;have hfz31_2:=zz17 BK263.out 2)|((with_reducible refine zz24 (N:=21) rfl ?_);refine Kd.R_lit (Kd.int .i64) _ 3 ?hg (N:=21) ?hd (xs:=([29,30,29,30,29,30,29] : List Int)) (inner:=[.int .i64 29,.int .i64 30,.int .i64 29,.int .i64 30,.int .i64 29,.int .i64 30,.int .i64 29]) (ok:=fun _=>True) (okp:=fun _=>True) ?hr ?hp (fun _ hk=>hk) trivial (Below.refl _ _) (Nat.le_refl _) (by simp) ?_;(case hd=>rfl);(case hg=>rfl);(case hr=>first|(go_simp;done)|(go_simp;rfl));(case hp=>exact (Reps.one (show Kd.M (Kd.int .i64) _ _ _ 29 [.int .i64 29] from rfl) (Reps.one (show Kd.M (Kd.int .i64) _ _ _ 30 [.int .i64 30] from rfl) (Reps.one (show Kd.M (Kd.int .i64) _ _ _ 29 [.int .i64 29] from rfl) (Reps.one (show Kd.M (Kd.int .i64) _ _ _ 30 [.int .i64 30] from rfl) (Reps.one (show Kd.M (Kd.int .i64) _ _ _ 29 [.int .i64 29] from rfl) (Reps.one (show Kd.M (Kd.int .i64) _ _ _ 30 [.int .i64 30] from rfl) (Reps.one (show Kd.M (Kd.int .i64) _ _ _ 29 [.int .i64 29] from rfl) (Reps.none _ _)))))))));intro v279 w32 ho33 hb hg_ hnew_;clear hg_ hnew_;(first|rw [← Ny278.out] at ho33|(simp only [Int.reduceToNat] at ho33;rw [← Ny278.out] at ho33));have n0_:=zz00 (zz20 (by (with_reducible repeat (first|apply zz05|apply zz04|apply zz06));exact HO_3.out) (Kd.R_base ho33) hb);have n1_:=zz00 (Kd.R_lower (Kd.R_new' ho33 (Kd.R_lt (by (with_reducible repeat (first|apply zz05|apply zz04|apply zz06));exact HO_3.out))) (zz22 (by repeat (first|(with_reducible first|exact HB.out|apply zz03|apply zz01|apply zz02|refine zz10 ?_ GE263.out)|exact HB.out))));have n2_:=zz00 (zz34 (g:=gb263) (o:=.cells #[.int .i64 a0_0,.int .i64 a0_1,.bool false] 93 (0,0)) (by (with_reducible repeat (first|refine zz07 ?_ _|refine zz09 ?_|refine zz08 ?_ _));exact BK263.out) hb);have n3_:=zz00 (zz21 (by repeat (first|(with_reducible first|exact HB.out|apply zz03|apply zz01|apply zz02|refine zz10 ?_ GE263.out)|exact HB.out)) hb);clear HO_3;clear BK263;clear HB;have HO_3:=n0_;have HO280:=n1_;have BK263:=n2_;have HB:=n3_;clear n0_ n1_ n2_ n3_;clear hb ho33;obtain ⟨Ao35,co35,eo35⟩:=Kd.R_slice HO280.out;subst eo35)|((with_reducible refine gate_builtin (b:=.append) (xs:=#[.tmp 20,.tmp 21]) rfl ?_);at_builtin;refine Kd.R_append_rows (Kd.int .i64) (w0:=w) w.heap.size rfl (.tmp 20) (.tmp 21) 155 3 (.int .i64 0) 8 rfl Tryz.underlying155 info3 rfl (by decide) (by omega) (.slice (some ⟨go14,0,none⟩) x3_1.length co14) y268 y278 _ _ _ (fun k_=>some k_ ≠ (.slice Ao35 y278.length co35 : Value).ownBlock) (fun _=>False) rfl rfl ?aO ?aR (fun _ _ h=>h) (fun _ h=>h.elim) ?aF ?aB ?aS ?aL ?_;(case aR=>repeat (first|exact (Kd.R_reads' HO280.out).2.2|(with_reducible refine Kd.C_alloc ?_ _)|(with_reducible refine Kd.C_drewN ?_ _)|(with_reducible refine Kd.C_drew ?_)));(case aB=>exact (by repeat (first|(with_reducible first|exact HB.out|apply zz03|apply zz01|apply zz02|refine zz10 ?_ GE263.out)|exact HB.out)));(case aF=>exact (fun k_ hk=>Kd.fresh' (Kd.R_lt (by (with_reducible repeat (first|apply zz05|apply zz04|apply zz06));exact HO280.out)) k_ hk));(case aO=>exact (by (with_reducible repeat (first|apply zz05|apply zz04|apply zz06));exact Kd.R_mono HO_3.out (fun _ hk=>hk.2)));(case aS=>exact (zz22 (by repeat (first|(with_reducible first|exact HB.out|apply zz03|apply zz01|apply zz02|refine zz10 ?_ GE263.out)|exact HB.out))));(case aL=>have:=LMc27.out;omega);intro v282 w34 ho hb hg hat;rw [← Ny281.out] at ho;have n0_:=zz00 (blk_grown (g:=gb263) (o:=.cells #[.int .i64 a0_0,.int .i64 a0_1,.bool false] 93 (0,0)) (by (with_reducible repeat (first|refine zz07 ?_ _|refine zz09 ?_|refine zz08 ?_ _));exact BK263.out) hg (Kd.R_ne HO_3.out BK263.out (by decide)));have n1_:=zz00 (Kd.R_after (ok:=(fun _=>True)) (by (with_reducible repeat (first|apply zz05|apply zz04|apply zz06));exact HO280.out) hg hat);have n2_:=zz00 (hb);have n3_:=zz00 (ho);clear BK263;clear HO280;clear HB;clear HO_3;have BK263:=n0_;have HO280:=n1_;have HB:=n2_;have HO283:=n3_;clear n0_ n1_ n2_ n3_;clear ho hb hg hat))
       go_ret
       exact ⟨_,by first|rfl|(simp [errW_none,errW_some] <;> rfl)|(simp [*,errW_none,errW_some] <;> rfl),by (with_reducible repeat (first|apply zz05|apply zz04|apply zz06));exact Kd.R_mono HO283.out (fun _ hk=>trivial),by repeat (first|(with_reducible first|exact HB.out|apply zz03|apply zz01|apply zz02|refine zz10 ?_ GE263.out)|exact HB.out)⟩
      ·
       rw [if_neg c27] at H
       exact absurd H (by simp)
    ·
     rw [if_neg c13] at H
     exact absurd H (by simp)
   ·
    rw [if_neg c12] at H
    have c12b0 : (a0_1 == 0) = false := zz27.mpr c12
    have c12b1 : (a0_1 != 0) = true := zz28.mpr c12
    by_cases c36 : a0_2 = true
    ·
     subst c36
     have H1 : (if x3_1.length < 17592186044416 then ((some (x3_1 ++ [30] : List Int)).bind fun y284=>((some (([29,30,29,30,29,30,29] : List Int) : List Int)).bind fun y287=>(if y284.length + y287.length < 17592186044416 then (some (y284 ++ y287)) else (none)))) else (none)) = some r:=by rw [if_pos rfl] at H;exact H
     clear H
     have H := H1
     clear H1
     by_cases c37 : x3_1.length < 17592186044416
     ·
      rw [if_pos c37] at H
      have LMc37 := zz00 c37
      clear c37
      obtain ⟨y284, hy284⟩ : ∃ y_ : List Int, y_ = (x3_1 ++ [30]) := ⟨_, rfl⟩
      replace H : ((some (([29,30,29,30,29,30,29] : List Int) : List Int)).bind fun y287=>(if y284.length + y287.length < 17592186044416 then (some (y284 ++ y287)) else (none))) = some r:=by first|(rw [hy284];with_reducible exact H)|(have H2_:=(Option.bind_some _ _).symm.trans H;rw [hy284];with_reducible exact H2_)|(have H2_:=(Option.bind_some _ _).symm.trans H;with_reducible exact H2_)|with_reducible exact H|(rw [hy284];exact H)|exact H
      have Ny284 := zz00 hy284
      clear hy284
      obtain ⟨y287, hy287⟩ : ∃ y_ : List Int, y_ = (([29, 30, 29, 30, 29, 30, 29] : List Int)) := ⟨_, rfl⟩
      replace H : (if y284.length + y287.length < 17592186044416 then (some (y284 ++ y287)) else (none)) = some r:=by first|(rw [hy287];with_reducible exact H)|(have H2_:=(Option.bind_some _ _).symm.trans H;rw [hy287];with_reducible exact H2_)|(have H2_:=(Option.bind_some _ _).symm.trans H;with_reducible exact H2_)|with_reducible exact H|(rw [hy287];exact H)|exact H
      have Ny287 := zz00 hy287
      clear hy287
      by_cases c38 : y284.length + y287.length < 17592186044416
      ·
       rw [if_pos c38] at H
       have LMc38 := zz00 c38
       clear c38
       obtain ⟨y290, hy290⟩ : ∃ y_ : List Int, y_ = (y284 ++ y287) := ⟨_, rfl⟩
       replace H : (some y290) = some r:=by first|(rw [hy290];with_reducible exact H)|(have H2_:=(Option.bind_some _ _).symm.trans H;rw [hy290];with_reducible exact H2_)|(have H2_:=(Option.bind_some _ _).symm.trans H;with_reducible exact H2_)|with_reducible exact H|(rw [hy290];exact H)|exact H
       have Ny290 := zz00 hy290
       clear hy290
       obtain rfl := Option.some.inj H
       have hcz39_0 : wc.cell? ⟨gb263, 0, none⟩ = some (.int .i64 a0_0) := (zz18 BK263.out 0).trans rfl
       have hcz39_1 : wc.cell? ⟨gb263, 1, none⟩ = some (.int .i64 a0_1) := (zz18 BK263.out 1).trans rfl
       have hcz39_2 : wc.cell? ⟨gb263, 2, none⟩ = some (.bool true) := (zz18 BK263.out 2).trans rfl
       have hfz39_0 := zz17 BK263.out 0
       have hfz39_1 := zz17 BK263.out 1
       have hfz39_2 := zz17 BK263.out 2
       go_wp2_with (first|((with_reducible refine gate_builtin (b:=.append) (xs:=#[.tmp 17,.tmp 18]) rfl ?_);at_builtin;refine Kd.R_append (Kd.int .i64) (w0:=w) w.heap.size rfl (.tmp 17) (.tmp 18) 155 3 (.int .i64 0) 8 rfl Tryz.underlying155 info3 rfl (by decide) (by omega) v265 x3_1 30 [.int .i64 30] (fun _=>True) (fun _=>False) rfl rfl ?aP (fun _ hk=>hk.elim) ?aF ?aO ?aB ?aS ?aL ?_;(case aP=>exact rfl);(case aB=>exact (by repeat (first|(with_reducible first|exact HB.out|apply zz03|apply zz01|apply zz02|refine zz10 ?_ GE263.out)|exact HB.out)));(case aF=>exact (fun _ _=>trivial));(case aO=>exact (by (with_reducible repeat (first|apply zz05|apply zz04|apply zz06));exact HO_3.out));(case aS=>exact (zz22 (by repeat (first|(with_reducible first|exact HB.out|apply zz03|apply zz01|apply zz02|refine zz10 ?_ GE263.out)|exact HB.out))));(case aL=>have:=LMc37.out;omega);intro v285 w40 ho hb hg hat;rw [← Ny284.out] at ho;have n0_:=zz00 (blk_grown (g:=gb263) (o:=.cells #[.int .i64 a0_0,.int .i64 a0_1,.bool true] 93 (0,0)) (by (with_reducible repeat (first|refine zz07 ?_ _|refine zz09 ?_|refine zz08 ?_ _));exact BK263.out) hg (Kd.R_ne HO_3.out BK263.out (by decide)));have n1_:=zz00 (hb);have n2_:=zz00 (ho);clear BK263;clear HB;clear HO_3;have BK263:=n0_;have HB:=n1_;have HO286:=n2_;clear n0_ n1_ n2_;clear ho hb hg hat)|((with_reducible refine zz24 (N:=21) rfl ?_);refine Kd.R_lit (Kd.int .i64) _ 3 ?hg (N:=21) ?hd (xs:=([29,30,29,30,29,30,29] : List Int)) (inner:=[.int .i64 29,.int .i64 30,.int .i64 29,.int .i64 30,.int .i64 29,.int .i64 30,.int .i64 29]) (ok:=fun _=>True) (okp:=fun _=>True) ?hr ?hp (fun _ hk=>hk) trivial (Below.refl _ _) (Nat.le_refl _) (by simp) ?_;(case hd=>rfl);(case hg=>rfl);(case hr=>first|(go_simp;done)|(go_simp;rfl));(case hp=>exact (Reps.one (show Kd.M (Kd.int .i64) _ _ _ 29 [.int .i64 29] from rfl) (Reps.one (show Kd.M (Kd.int .i64) _ _ _ 30 [.int .i64 30] from rfl) (Reps.one (show Kd.M (Kd.int .i64) _ _ _ 29 [.int .i64 29] from rfl) (Reps.one (show Kd.M (Kd.int .i64) _ _ _ 30 [.int .i64 30] from rfl) (Reps.one (show Kd.M (Kd.int .i64) _ _ _ 29 [.int .i64 29] from rfl) (Reps.one (show Kd.M (Kd.int .i64) _ _ _ 30 [.int .i64 30] from rfl) (Reps.one (show Kd.M (Kd.int .i64) _ _ _ 29 [.int .i64 29] from rfl) (Reps.none _ _)))))))));intro v288 w41 ho42 hb hg_ hnew_;clear hg_ hnew_;(first|rw [← Ny287.out] at ho42|(simp only [Int.reduceToNat] at ho42;rw [← Ny287.out] at ho42));have n0_:=zz00 (zz20 (by (with_reducible repeat (first|apply zz05|apply zz04|apply zz06));exact HO286.out) (Kd.R_base ho42) hb);have n1_:=zz00 (Kd.R_lower (Kd.R_new' ho42 (Kd.R_lt (by (with_reducible repeat (first|apply zz05|apply zz04|apply zz06));exact HO286.out))) (zz22 (by repeat (first|(with_reducible first|exact HB.out|apply zz03|apply zz01|apply zz02|refine zz10 ?_ GE263.out)|exact HB.out))));have n2_:=zz00 (zz34 (g:=gb263) (o:=.cells #[.int .i64 a0_0,.int .i64 a0_1,.bool true] 93 (0,0)) (by (with_reducible repeat (first|refine zz07 ?_ _|refine zz09 ?_|refine zz08 ?_ _));exact BK263.out) hb);have n3_:=zz00 (zz21 (by repeat (first|(with_reducible first|exact HB.out|apply zz03|apply zz01|apply zz02|refine zz10 ?_ GE263.out)|exact HB.out)) hb);clear HO286;clear BK263;clear HB;have HO286:=n0_;have HO289:=n1_;have BK263:=n2_;have HB:=n3_;clear n0_ n1_ n2_ n3_;clear hb ho42;obtain ⟨Ao44,co44,eo44⟩:=Kd.R_slice HO289.out;subst eo44)|((with_reducible refine gate_builtin (b:=.append) (xs:=#[.tmp 20,.tmp 21]) rfl ?_);at_builtin;refine Kd.R_append_rows (Kd.int .i64) (w0:=w) w.heap.size rfl (.tmp 20) (.tmp 21) 155 3 (.int .i64 0) 8 rfl Tryz.underlying155 info3 rfl (by decide) (by omega) v285 y284 y287 _ _ _ (fun k_=>some k_ ≠ (.slice Ao44 y287.length co44 : Value).ownBlock) (fun _=>False) rfl rfl ?aO ?aR (fun _ _ h=>h) (fun _ h=>h.elim) ?aF ?aB ?aS ?aL ?_;(case aR=>repeat (first|exact (Kd.R_reads' HO289.out).2.2|(with_reducible refine Kd.C_alloc ?_ _)|(with_reducible refine Kd.C_drewN ?_ _)|(with_reducible refine Kd.C_drew ?_)));(case aB=>exact (by repeat (first|(with_reducible first|exact HB.out|apply zz03|apply zz01|apply zz02|refine zz10 ?_ GE263.out)|exact HB.out)));(case aF=>exact (fun k_ hk=>Kd.fresh' (Kd.R_lt (by (with_reducible repeat (first|apply zz05|apply zz04|apply zz06));exact HO289.out)) k_ hk));(case aO=>exact (by (with_reducible repeat (first|apply zz05|apply zz04|apply zz06));exact Kd.R_mono HO286.out (fun _ hk=>hk.2)));(case aS=>exact (zz22 (by repeat (first|(with_reducible first|exact HB.out|apply zz03|apply zz01|apply zz02|refine zz10 ?_ GE263.out)|exact HB.out))));(case aL=>have:=LMc38.out;omega);intro v291 w43 ho hb hg hat;rw [← Ny290.out] at ho;have n0_:=zz00 (blk_grown (g:=gb263) (o:=.cells #[.int .i64 a0_0,.int .i64 a0_1,.bool true] 93 (0,0)) (by (with_reducible repeat (first|refine zz07 ?_ _|refine zz09 ?_|refine zz08 ?_ _));exact BK263.out) hg (Kd.R_ne HO286.out BK263.out (by decide)));have n1_:=zz00 (Kd.R_after (ok:=(fun _=>True)) (by (with_reducible repeat (first|apply zz05|apply zz04|apply zz06));exact HO289.out) hg hat);have n2_:=zz00 (hb);have n3_:=zz00 (ho);clear BK263;clear HO289;clear HB;clear HO286;have BK263:=n0_;have HO289:=n1_;have HB:=n2_;have HO292:=n3_;clear n0_ n1_ n2_ n3_;clear ho hb hg hat))
       go_ret
       exact ⟨_,by first|rfl|(simp [errW_none,errW_some] <;> rfl)|(simp [*,errW_none,errW_some] <;> rfl),by (with_reducible repeat (first|apply zz05|apply zz04|apply zz06));exact Kd.R_mono HO292.out (fun _ hk=>trivial),by repeat (first|(with_reducible first|exact HB.out|apply zz03|apply zz01|apply zz02|refine zz10 ?_ GE263.out)|exact HB.out)⟩
      ·
       rw [if_neg c38] at H
       exact absurd H (by simp)
     ·
      rw [if_neg c37] at H
      exact absurd H (by simp)
    ·
     replace c36 := zz32.mpr c36
     subst c36
     have H1 : ((some (([29,30,29,30,29,30,29] : List Int) : List Int)).bind fun y293=>(if x3_1.length + y293.length < 17592186044416 then (some (x3_1 ++ y293)) else (none))) = some r:=by rw [if_neg (show ¬ (false = true) by decide)] at H;exact H
     clear H
     have H := H1
     clear H1
     obtain ⟨y293, hy293⟩ : ∃ y_ : List Int, y_ = (([29, 30, 29, 30, 29, 30, 29] : List Int)) := ⟨_, rfl⟩
     replace H : (if x3_1.length + y293.length < 17592186044416 then (some (x3_1 ++ y293)) else (none)) = some r:=by first|(rw [hy293];with_reducible exact H)|(have H2_:=(Option.bind_some _ _).symm.trans H;rw [hy293];with_reducible exact H2_)|(have H2_:=(Option.bind_some _ _).symm.trans H;with_reducible exact H2_)|with_reducible exact H|(rw [hy293];exact H)|exact H
     have Ny293 := zz00 hy293
     clear hy293
     by_cases c45 : x3_1.length + y293.length < 17592186044416
     ·
      rw [if_pos c45] at H
      have LMc45 := zz00 c45
      clear c45
      obtain ⟨y296, hy296⟩ : ∃ y_ : List Int, y_ = (x3_1 ++ y293) := ⟨_, rfl⟩
      replace H : (some y296) = some r:=by first|(rw [hy296];with_reducible exact H)|(have H2_:=(Option.bind_some _ _).symm.trans H;rw [hy296];with_reducible exact H2_)|(have H2_:=(Option.bind_some _ _).symm.trans H;with_reducible exact H2_)|with_reducible exact H|(rw [hy296];exact H)|exact H
      have Ny296 := zz00 hy296
      clear hy296
      obtain rfl := Option.some.inj H
      have hcz46_0 : wc.cell? ⟨gb263, 0, none⟩ = some (.int .i64 a0_0) := (zz18 BK263.out 0).trans rfl
      have hcz46_1 : wc.cell? ⟨gb263, 1, none⟩ = some (.int .i64 a0_1) := (zz18 BK263.out 1).trans rfl
      have hcz46_2 : wc.cell? ⟨gb263, 2, none⟩ = some (.bool false) := (zz18 BK263.out 2).trans rfl
      have hfz46_0 := zz17 BK263.out 0
      have hfz46_1 := zz17 BK263.out 1
      have hfz46_2 := zz17 BK263.out 2
      go_wp2_with (first|((with_reducible refine zz24 (N:=21) rfl ?_);refine Kd.R_lit (Kd.int .i64) _ 3 ?hg (N:=21) ?hd (xs:=([29,30,29,30,29,30,29] : List Int)) (inner:=[.int .i64 29,.int .i64 30,.int .i64 29,.int .i64 30,.int .i64 29,.int .i64 30,.int .i64 29]) (ok:=fun _=>True) (okp:=fun _=>True) ?hr ?hp (fun _ hk=>hk) trivial (Below.refl _ _) (Nat.le_refl _) (by simp) ?_;(case hd=>rfl);(case hg=>rfl);(case hr=>first|(go_simp;done)|(go_simp;rfl));(case hp=>exact (Reps.one (show Kd.M (Kd.int .i64) _ _ _ 29 [.int .i64 29] from rfl) (Reps.one (show Kd.M (Kd.int .i64) _ _ _ 30 [.int .i64 30] from rfl) (Reps.one (show Kd.M (Kd.int .i64) _ _ _ 29 [.int .i64 29] from rfl) (Reps.one (show Kd.M (Kd.int .i64) _ _ _ 30 [.int .i64 30] from rfl) (Reps.one (show Kd.M (Kd.int .i64) _ _ _ 29 [.int .i64 29] from rfl) (Reps.one (show Kd.M (Kd.int .i64) _ _ _ 30 [.int .i64 30] from rfl) (Reps.one (show Kd.M (Kd.int .i64) _ _ _ 29 [.int .i64 29] from rfl) (Reps.none _ _)))))))));intro v294 w47 ho48 hb hg_ hnew_;clear hg_ hnew_;(first|rw [← Ny293.out] at ho48|(simp only [Int.reduceToNat] at ho48;rw [← Ny293.out] at ho48));have n0_:=zz00 (zz20 (by (with_reducible repeat (first|apply zz05|apply zz04|apply zz06));exact HO_3.out) (Kd.R_base ho48) hb);have n1_:=zz00 (Kd.R_lower (Kd.R_new' ho48 (Kd.R_lt (by (with_reducible repeat (first|apply zz05|apply zz04|apply zz06));exact HO_3.out))) (zz22 (by repeat (first|(with_reducible first|exact HB.out|apply zz03|apply zz01|apply zz02|refine zz10 ?_ GE263.out)|exact HB.out))));have n2_:=zz00 (zz34 (g:=gb263) (o:=.cells #[.int .i64 a0_0,.int .i64 a0_1,.bool false] 93 (0,0)) (by (with_reducible repeat (first|refine zz07 ?_ _|refine zz09 ?_|refine zz08 ?_ _));exact BK263.out) hb);have n3_:=zz00 (zz21 (by repeat (first|(with_reducible first|exact HB.out|apply zz03|apply zz01|apply zz02|refine zz10 ?_ GE263.out)|exact HB.out)) hb);clear HO_3;clear BK263;clear HB;have HO_3:=n0_;have HO295:=n1_;have BK263:=n2_;have HB:=n3_;clear n0_ n1_ n2_ n3_;clear hb ho48;obtain ⟨Ao50,co50,eo50⟩:=Kd.R_slice HO295.out;subst eo50)|((with_reducible refine gate_builtin (b:=.append) (xs:=#[.tmp 20,.tmp 21]) rfl ?_);at_builtin;refine Kd.R_append_rows (Kd.int .i64) (w0:=w) w.heap.size rfl (.tmp 20) (.tmp 21) 155 3 (.int .i64 0) 8 rfl Tryz.underlying155 info3 rfl (by decide) (by omega) v265 x3_1 y293 _ _ _ (fun k_=>some k_ ≠ (.slice Ao50 y293.length co50 : Value).ownBlock) (fun _=>False) rfl rfl ?aO ?aR (fun _ _ h=>h) (fun _ h=>h.elim) ?aF ?aB ?aS ?aL ?_;(case aR=>repeat (first|exact (Kd.R_reads' HO295.out).2.2|(with_reducible refine Kd.C_alloc ?_ _)|(with_reducible refine Kd.C_drewN ?_ _)|(with_reducible refine Kd.C_drew ?_)));(case aB=>exact (by repeat (first|(with_reducible first|exact HB.out|apply zz03|apply zz01|apply zz02|refine zz10 ?_ GE263.out)|exact HB.out)));(case aF=>exact (fun k_ hk=>Kd.fresh' (Kd.R_lt (by (with_reducible repeat (first|apply zz05|apply zz04|apply zz06));exact HO295.out)) k_ hk));(case aO=>exact (by (with_reducible repeat (first|apply zz05|apply zz04|apply zz06));exact Kd.R_mono HO_3.out (fun _ hk=>hk.2)));(case aS=>exact (zz22 (by repeat (first|(with_reducible first|exact HB.out|apply zz03|apply zz01|apply zz02|refine zz10 ?_ GE263.out)|exact HB.out))));(case aL=>have:=LMc45.out;omega);intro v297 w49 ho hb hg hat;rw [← Ny296.out] at ho;have n0_:=zz00 (blk_grown (g:=gb263) (o:=.cells #[.int .i64 a0_0,.int .i64 a0_1,.bool false] 93 (0,0)) (by (with_reducible repeat (first|refine zz07 ?_ _|refine zz09 ?_|refine zz08 ?_ _));exact BK263.out) hg (Kd.R_ne HO_3.out BK263.out (by decide)));have n1_:=zz00 (Kd.R_after (ok:=(fun _=>True)) (by (with_reducible repeat (first|apply zz05|apply zz04|apply zz06));exact HO295.out) hg hat);have n2_:=zz00 (hb);have n3_:=zz00 (ho);clear BK263;clear HO295;clear HB;clear HO_3;have BK263:=n0_;have HO295:=n1_;have HB:=n2_;have HO298:=n3_;clear n0_ n1_ n2_ n3_;clear ho hb hg hat))
      go_ret
      exact ⟨_,by first|rfl|(simp [errW_none,errW_some] <;> rfl)|(simp [*,errW_none,errW_some] <;> rfl),by (with_reducible repeat (first|apply zz05|apply zz04|apply zz06));exact Kd.R_mono HO298.out (fun _ hk=>trivial),by repeat (first|(with_reducible first|exact HB.out|apply zz03|apply zz01|apply zz02|refine zz10 ?_ GE263.out)|exact HB.out)⟩
     ·
      rw [if_neg c45] at H
      exact absurd H (by simp)

def almanackerref07_Type.f (a0 : Int) : Option (Int × Int × Bool × Bool) := if a0 < 1 then (some (0, 0, false, false)) else (if a0 > 14 then (some (0, 0, false, false)) else ((some (([1, 1, 2, 4, 4, 6, 6, 1, 1, 2, 4, 4, 6, 6] : List Int) : List Int)).bind fun y300 => ((some (([0, 2, 1, 1, 2, 0, 2, 0, 2, 1, 0, 2, 0, 2] : List Int) : List Int)).bind fun y303 => (if 0 ≤ (wrap64 (a0 - 1)) then (if (wrap64 (a0 - 1)) < (y300.length : Int) then (if (wrap64 (a0 - 1)) < (y303.length : Int) then (some (rd y300 (wrap64 (a0 - 1)), rd y303 (wrap64 (a0 - 1)), decide (a0 > 7), true)) else (none)) else (none)) else (none)))))
def almanackerref07_Type.T5 : Bool × List (List Nat × List Nat) := (true, [([], []), ([], []), ([1], [1]), ([0, 2], [0, 2]), ([3], [3]), ([], []), ([], []), ([6], [6]), ([5, 7], [5, 7]), ([8], [8]), ([], []), ([10], [10]), ([4, 9, 11], [4, 9, 11]), ([12, 0, 1, 2, 3, 4, 5, 6, 7, 8, 9, 10, 11, 12], [12]), ([13, 0, 1, 2, 3, 4, 5, 6, 7, 8, 9, 10, 11, 12, 13], [])])
def almanackerref07_Type.B5 : List Nat := [0, 0, 2, 7, 15, 0, 0, 64, 224, 480, 0, 1024, 4095, 8191, 16383]
theorem almanackerref07_Type.tab5 : rtab .any (opsOf Tryz.f240 5) = almanackerref07_Type.T5 := by kernel_rfl
theorem almanackerref07_Type.bits5 : waitsOk almanackerref07_Type.T5.2 almanackerref07_Type.B5 = true := by kernel_rfl
set_option maxHeartbeats 8000000 in
set_option maxRecDepth 100000 in
theorem almanackerref07_Type.calls (a0 : Int) (r1 : Int) (r2 : Int) (r3 : Bool) (r4 : Bool) (w : World) (h : almanackerref07_Type.f a0 = some (r1, r2, r3, r4)) :
  Calls Tryz.prog 240 #[.int .i64 a0] w fun e w' => e = .returned (.tuple #[.agg #[.int .i64 r1, .int .i64 r2, .bool r3], .bool r4]) ∧ Below w.heap.size w w' := by
 have hu93 := Tryz.underlying93
 have HB := zz00 (Below.refl w.heap.size w)
 have H : (if a0 < 1 then (some (0,0,false,false)) else (if a0 > 14 then (some (0,0,false,false)) else ((some (([1,1,2,4,4,6,6,1,1,2,4,4,6,6] : List Int) : List Int)).bind fun y300=>((some (([0,2,1,1,2,0,2,0,2,1,0,2,0,2] : List Int) : List Int)).bind fun y303=>(if 0 ≤ (wrap64 (a0 - 1)) then (if (wrap64 (a0 - 1)) < (y300.length : Int) then (if (wrap64 (a0 - 1)) < (y303.length : Int) then (some (rd y300 (wrap64 (a0 - 1)),rd y303 (wrap64 (a0 - 1)),decide (a0 > 7),true)) else (none)) else (none)) else (none)))))) = some (r1,r2,r3,r4):=h
 clear h
 by_cases c2 : a0 < 1
 ·
  rw [if_pos c2] at H
  have c2b0 : decide (a0 < 1) = true := decide_eq_true c2
  clear c2
  simp only [zz15, zz16] at H
  obtain ⟨rfl, rfl, rfl, rfl⟩ := H
  go_enter Tryz.func240, Tryz.ntmps240
  go_wp2_with (first|((with_reducible refine zz24 (N:=2) rfl ?_);refine zz30 ?hg (N:=2) ?hd (cs:=#[.int .i64 0,.int .i64 0,.bool false]) (t:=93) ?hr ?_;(case hd=>rfl);(case hg=>rfl);(case hr=>first|(go_simp;done)|(go_simp;rfl));intro gb299 hg w3 hbox hb;have n0_:=zz00 (zz21 (by repeat (first|(with_reducible first|exact HB.out|apply zz03|apply zz01|apply zz02)|exact HB.out)) hb);have n1_:=zz00 (hbox);have n2_:=zz00 ((by rw [hg];exact (zz22 (by repeat (first|(with_reducible first|exact HB.out|apply zz03|apply zz01|apply zz02)|exact HB.out))) : w.heap.size ≤ gb299));have n3_:=zz00 ((by rw [hg];exact (zz22 (by repeat (first|(with_reducible first|exact HB.out|apply zz03|apply zz01|apply zz02)|exact HB.out))) : w.heap.size ≤ gb299));clear HB;have HB:=n0_;have BK299:=n1_;have GW299:=n2_;have GE299:=n3_;clear n0_ n1_ n2_ n3_;clear hb hbox hg;have hcz4_0 : w3.cell? ⟨gb299,0,none⟩ = some (.int .i64 0):=(zz18 BK299.out 0).trans rfl;have hcz4_1 : w3.cell? ⟨gb299,1,none⟩ = some (.int .i64 0):=(zz18 BK299.out 1).trans rfl;have hcz4_2 : w3.cell? ⟨gb299,2,none⟩ = some (.bool false):=(zz18 BK299.out 2).trans rfl;have hfz4_0:=zz17 BK299.out 0;have hfz4_1:=zz17 BK299.out 1;have hfz4_2:=zz17 BK299.out 2))
  refine bodyPost_ret (results_ct rfl _ _ gb299 93 #[.int .i64 0,.int .i64 0,.bool false] (0,0) _ rfl (by (with_reducible repeat (first|refine zz07 ?_ _|refine zz09 ?_|refine zz08 ?_ _));refine zz35 (cs:=#[.int .i64 0,.int .i64 0,.bool false]) ?_ 2 _ rfl;(with_reducible repeat (first|refine zz07 ?_ _|refine zz09 ?_|refine zz08 ?_ _));refine zz35 (cs:=#[.int .i64 0,.int .i64 0,.bool false]) ?_ 1 _ rfl;(with_reducible repeat (first|refine zz07 ?_ _|refine zz09 ?_|refine zz08 ?_ _));refine zz35 (cs:=#[.int .i64 0,.int .i64 0,.bool false]) ?_ 0 _ rfl;(with_reducible repeat (first|refine zz07 ?_ _|refine zz09 ?_|refine zz08 ?_ _));exact BK299.out) Tryz.underlying93 rfl (by kernel_rfl)) rfl ?_
  exact ⟨by first|rfl|(simp [errW_none,errW_some] <;> rfl)|(simp [*,errW_none,errW_some] <;> rfl),by repeat (first|(with_reducible first|exact HB.out|apply zz03|apply zz01|apply zz02|refine zz10 ?_ GE299.out)|exact HB.out)⟩
 ·
  rw [if_neg c2] at H
  have c2b0 : decide (a0 < 1) = false := decide_eq_false c2
  clear c2
  by_cases c5 : a0 > 14
  ·
   rw [if_pos c5] at H
   have c5b0 : decide (14 < a0) = true := decide_eq_true c5
   clear c5
   simp only [zz15, zz16] at H
   obtain ⟨rfl, rfl, rfl, rfl⟩ := H
   go_enter Tryz.func240, Tryz.ntmps240
   go_wp2_with (first|((with_reducible refine zz24 (N:=2) rfl ?_);refine zz30 ?hg (N:=2) ?hd (cs:=#[.int .i64 0,.int .i64 0,.bool false]) (t:=93) ?hr ?_;(case hd=>rfl);(case hg=>rfl);(case hr=>first|(go_simp;done)|(go_simp;rfl));intro gb299 hg w6 hbox hb;have n0_:=zz00 (zz21 (by repeat (first|(with_reducible first|exact HB.out|apply zz03|apply zz01|apply zz02)|exact HB.out)) hb);have n1_:=zz00 (hbox);have n2_:=zz00 ((by rw [hg];exact (zz22 (by repeat (first|(with_reducible first|exact HB.out|apply zz03|apply zz01|apply zz02)|exact HB.out))) : w.heap.size ≤ gb299));have n3_:=zz00 ((by rw [hg];exact (zz22 (by repeat (first|(with_reducible first|exact HB.out|apply zz03|apply zz01|apply zz02)|exact HB.out))) : w.heap.size ≤ gb299));clear HB;have HB:=n0_;have BK299:=n1_;have GW299:=n2_;have GE299:=n3_;clear n0_ n1_ n2_ n3_;clear hb hbox hg;have hcz7_0 : w6.cell? ⟨gb299,0,none⟩ = some (.int .i64 0):=(zz18 BK299.out 0).trans rfl;have hcz7_1 : w6.cell? ⟨gb299,1,none⟩ = some (.int .i64 0):=(zz18 BK299.out 1).trans rfl;have hcz7_2 : w6.cell? ⟨gb299,2,none⟩ = some (.bool false):=(zz18 BK299.out 2).trans rfl;have hfz7_0:=zz17 BK299.out 0;have hfz7_1:=zz17 BK299.out 1;have hfz7_2:=zz17 BK299.out 2))
   refine bodyPost_ret (results_ct rfl _ _ gb299 93 #[.int .i64 0,.int .i64 0,.bool false] (0,0) _ rfl (by (with_reducible repeat (first|refine zz07 ?_ _|refine zz09 ?_|refine zz08 ?_ _));refine zz35 (cs:=#[.int .i64 0,.int .i64 0,.bool false]) ?_ 2 _ rfl;(with_reducible repeat (first|refine zz07 ?_ _|refine zz09 ?_|refine zz08 ?_ _));refine zz35 (cs:=#[.int .i64 0,.int .i64 0,.bool false]) ?_ 1 _ rfl;(with_reducible repeat (first|refine zz07 ?_ _|refine zz09 ?_|refine zz08 ?_ _));refine zz35 (cs:=#[.int .i64 0,.int .i64 0,.bool false]) ?_ 0 _ rfl;(with_reducible repeat (first|refine zz07 ?_ _|refine zz09 ?_|refine zz08 ?_ _));exact BK299.out) Tryz.underlying93 rfl (by kernel_rfl)) rfl ?_
   exact ⟨by first|rfl|(simp [errW_none,errW_some] <;> rfl)|(simp [*,errW_none,errW_some] <;> rfl),by repeat (first|(with_reducible first|exact HB.out|apply zz03|apply zz01|apply zz02|refine zz10 ?_ GE299.out)|exact HB.out)⟩
  ·
   rw [if_neg c5] at H
   have c5b0 : decide (14 < a0) = false := decide_eq_false c5
   clear c5
   obtain ⟨y300, hy300⟩ : ∃ y_ : List Int, y_ = (([1, 1, 2, 4, 4, 6, 6, 1, 1, 2, 4, 4, 6, 6] : List Int)) := ⟨_, rfl⟩
   replace H : ((some (([0,2,1,1,2,0,2,0,2,1,0,2,0,2] : List Int) : List Int)).bind fun y303=>(if 0 ≤ (wrap64 (a0 - 1)) then (if (wrap64 (a0 - 1)) < (y300.length : Int) then (if (wrap64 (a0 - 1)) < (y303.length : Int) then (some (rd y300 (wrap64 (a0 - 1)),rd y303 (wrap64 (a0 - 1)),decide (a0 > 7),true)) else (none)) else (none)) else (none))) = some (r1,r2,r3,r4):=by first|(rw [hy300];with_reducible exact H)|(have H2_:=(Option.bind_some _ _).symm.trans H;rw [hy300];with_reducible exact H2_)|(have H2_:=(Option.bind_some _ _).symm.trans H;with_reducible exact H2_)|with_reducible exact H|(rw [hy300];exact H)|exact H
   have Ny300 := zz00 hy300
   clear hy300
   obtain ⟨y303, hy303⟩ : ∃ y_ : List Int, y_ = (([0, 2, 1, 1, 2, 0, 2, 0, 2, 1, 0, 2, 0, 2] : List Int)) := ⟨_, rfl⟩
   replace H : (if 0 ≤ (wrap64 (a0 - 1)) then (if (wrap64 (a0 - 1)) < (y300.length : Int) then (if (wrap64 (a0 - 1)) < (y303.length : Int) then (some (rd y300 (wrap64 (a0 - 1)),rd y303 (wrap64 (a0 - 1)),decide (a0 > 7),true)) else (none)) else (none)) else (none)) = some (r1,r2,r3,r4):=by first|(rw [hy303];with_reducible exact H)|(have H2_:=(Option.bind_some _ _).symm.trans H;rw [hy303];with_reducible exact H2_)|(have H2_:=(Option.bind_some _ _).symm.trans H;with_reducible exact H2_)|with_reducible exact H|(rw [hy303];exact H)|exact H
   have Ny303 := zz00 hy303
   clear hy303
   obtain ⟨ji8, hji8⟩ : ∃ j_ : Int, (wrap64 (a0 - 1)) = j_ := ⟨_, rfl⟩
   replace H : (if 0 ≤ (ji8) then (if (ji8) < (y300.length : Int) then (if (ji8) < (y303.length : Int) then (some (rd y300 (ji8),rd y303 (ji8),decide (a0 > 7),true)) else (none)) else (none)) else (none)) = some (r1,r2,r3,r4):=by first|(rw [hji8] at H;exact H)|(simp only [hji8] at H ⊢;exact H)
   have hji8w : (IntKind.i64.wrap (a0 - 1)) = ji8 := (i64_w _).trans hji8
   by_cases c9 : 0 ≤ (ji8)
   ·
    rw [if_pos c9] at H
    have c9b0 : decide (0 ≤ (ji8)) = true := decide_eq_true c9
    clear c9
    by_cases c10 : (ji8) < (y300.length : Int)
    ·
     rw [if_pos c10] at H
     have c10b0 : decide ((ji8) < (y300.length : Int)) = true := decide_eq_true c10
     clear c10
     by_cases c11 : (ji8) < (y303.length : Int)
     ·
      rw [if_pos c11] at H
      have c11b0 : decide ((ji8) < (y303.length : Int)) = true := decide_eq_true c11
      clear c11
      simp only [zz15, zz16] at H
      obtain ⟨rfl, rfl, rfl, rfl⟩ := H
      go_enter Tryz.func240, Tryz.ntmps240
      try go_wp2_with (first|((with_reducible refine zz24 (N:=2) rfl ?_);refine zz30 ?hg (N:=2) ?hd (cs:=#[.int .i64 0,.int .i64 0,.bool false]) (t:=93) ?hr ?_;(case hd=>rfl);(case hg=>rfl);(case hr=>first|(go_simp;done)|(go_simp;rfl));intro gb299 hg w12 hbox hb;have n0_:=zz00 (zz21 (by repeat (first|(with_reducible first|exact HB.out|apply zz03|apply zz01|apply zz02)|exact HB.out)) hb);have n1_:=zz00 (hbox);have n2_:=zz00 ((by rw [hg];exact (zz22 (by repeat (first|(with_reducible first|exact HB.out|apply zz03|apply zz01|apply zz02)|exact HB.out))) : w.heap.size ≤ gb299));have n3_:=zz00 ((by rw [hg];exact (zz22 (by repeat (first|(with_reducible first|exact HB.out|apply zz03|apply zz01|apply zz02)|exact HB.out))) : w.heap.size ≤ gb299));clear HB;have HB:=n0_;have BK299:=n1_;have GW299:=n2_;have GE299:=n3_;clear n0_ n1_ n2_ n3_;clear hb hbox hg)|((with_reducible refine zz24 (N:=13) rfl ?_);refine Kd.R_lit (Kd.int .i64) _ 3 ?hg (N:=13) ?hd (xs:=([1,1,2,4,4,6,6,1,1,2,4,4,6,6] : List Int)) (inner:=[.int .i64 1,.int .i64 1,.int .i64 2,.int .i64 4,.int .i64 4,.int .i64 6,.int .i64 6,.int .i64 1,.int .i64 1,.int .i64 2,.int .i64 4,.int .i64 4,.int .i64 6,.int .i64 6]) (ok:=fun _=>True) (okp:=fun _=>True) ?hr ?hp (fun _ hk=>hk) trivial (Below.refl _ _) (Nat.le_refl _) (by simp) ?_;(case hd=>rfl);(case hg=>rfl);(case hr=>first|(go_simp;done)|(go_simp;rfl));(case hp=>exact (Reps.one (show Kd.M (Kd.int .i64) _ _ _ 1 [.int .i64 1] from rfl) (Reps.one (show Kd.M (Kd.int .i64) _ _ _ 1 [.int .i64 1] from rfl) (Reps.one (show Kd.M (Kd.int .i64) _ _ _ 2 [.int .i64 2] from rfl) (Reps.one (show Kd.M (Kd.int .i64) _ _ _ 4 [.int .i64 4] from rfl) (Reps.one (show Kd.M (Kd.int .i64) _ _ _ 4 [.int .i64 4] from rfl) (Reps.one (show Kd.M (Kd.int .i64) _ _ _ 6 [.int .i64 6] from rfl) (Reps.one (show Kd.M (Kd.int .i64) _ _ _ 6 [.int .i64 6] from rfl) (Reps.one (show Kd.M (Kd.int .i64) _ _ _ 1 [.int .i64 1] from rfl) (Reps.one (show Kd.M (Kd.int .i64) _ _ _ 1 [.int .i64 1] from rfl) (Reps.one (show Kd.M (Kd.int .i64) _ _ _ 2 [.int .i64 2] from rfl) (Reps.one (show Kd.M (Kd.int .i64) _ _ _ 4 [.int .i64 4] from rfl) (Reps.one (show Kd.M (Kd.int .i64) _ _ _ 4 [.int .i64 4] from rfl) (Reps.one (show Kd.M (Kd.int .i64) _ _ _ 6 [.int .i64 6] from rfl) (Reps.one (show Kd.M (Kd.int .i64) _ _ _ 6 [.int .i64 6] from rfl) (Reps.none _ _))))))))))))))));intro v301 w13 ho14 hb hg_ hnew_;clear hg_ hnew_;(first|rw [← Ny300.out] at ho14|(simp only [Int.reduceToNat] at ho14;rw [← Ny300.out] at ho14));have n0_:=zz00 (Kd.R_lower ho14 (zz22 (by repeat (first|(with_reducible first|exact HB.out|apply zz03|apply zz01|apply zz02|refine zz10 ?_ GE299.out)|exact HB.out))));have n1_:=zz00 (zz34 (g:=gb299) (o:=.cells #[.int .i64 0,.int .i64 0,.bool false] 93 (0,0)) (by (with_reducible repeat (first|refine zz07 ?_ _|refine zz09 ?_|refine zz08 ?_ _));exact BK299.out) hb);have n2_:=zz00 (zz21 (by repeat (first|(with_reducible first|exact HB.out|apply zz03|apply zz01|apply zz02|refine zz10 ?_ GE299.out)|exact HB.out)) hb);clear BK299;clear HB;have HO302:=n0_;have BK299:=n1_;have HB:=n2_;clear n0_ n1_ n2_;clear hb ho14)|((with_reducible refine zz24 (N:=14) rfl ?_);refine Kd.R_lit (Kd.int .i64) _ 3 ?hg (N:=14) ?hd (xs:=([0,2,1,1,2,0,2,0,2,1,0,2,0,2] : List Int)) (inner:=[.int .i64 0,.int .i64 2,.int .i64 1,.int .i64 1,.int .i64 2,.int .i64 0,.int .i64 2,.int .i64 0,.int .i64 2,.int .i64 1,.int .i64 0,.int .i64 2,.int .i64 0,.int .i64 2]) (ok:=fun _=>True) (okp:=fun _=>True) ?hr ?hp (fun _ hk=>hk) trivial (Below.refl _ _) (Nat.le_refl _) (by simp) ?_;(case hd=>rfl);(case hg=>rfl);(case hr=>first|(go_simp;done)|(go_simp;rfl));(case hp=>exact (Reps.one (show Kd.M (Kd.int .i64) _ _ _ 0 [.int .i64 0] from rfl) (Reps.one (show Kd.M (Kd.int .i64) _ _ _ 2 [.int .i64 2] from rfl) (Reps.one (show Kd.M (Kd.int .i64) _ _ _ 1 [.int .i64 1] from rfl) (Reps.one (show Kd.M (Kd.int .i64) _ _ _ 1 [.int .i64 1] from rfl) (Reps.one (show Kd.M (Kd.int .i64) _ _ _ 2 [.int .i64 2] from rfl) (Reps.one (show Kd.M (Kd.int .i64) _ _ _ 0 [.int .i64 0] from rfl) (Reps.one (show Kd.M (Kd.int .i64) _ _ _ 2 [.int .i64 2] from rfl) (Reps.one (show Kd.M (Kd.int .i64) _ _ _ 0 [.int .i64 0] from rfl) (Reps.one (show Kd.M (Kd.int .i64) _ _ _ 2 [.int .i64 2] from rfl) (Reps.one (show Kd.M (Kd.int .i64) _ _ _ 1 [.int .i64 1] from rfl) (Reps.one (show Kd.M (Kd.int .i64) _ _ _ 0 [.int .i64 0] from rfl) (Reps.one (show Kd.M (Kd.int .i64) _ _ _ 2 [.int .i64 2] from rfl) (Reps.one (show Kd.M (Kd.int .i64) _ _ _ 0 [.int .i64 0] from rfl) (Reps.one (show Kd.M (Kd.int .i64) _ _ _ 2 [.int .i64 2] from rfl) (Reps.none _ _))))))))))))))));intro v304 w15 ho16 hb hg_ hnew_;clear hg_ hnew_;(first|rw [← Ny303.out] at ho16|(simp only [Int.reduceToNat] at ho16;rw [← Ny303.out] at ho16));have n0_:=zz00 (zz20 (by (with_reducible repeat (first|apply zz05|apply zz04|apply zz06));exact HO302.out) (Kd.R_base ho16) hb);have n1_:=zz00 (Kd.R_lower (Kd.R_new' ho16 (Kd.R_lt (by (with_reducible repeat (first|apply zz05|apply zz04|apply zz06));exact HO302.out))) (zz22 (by repeat (first|(with_reducible first|exact HB.out|apply zz03|apply zz01|apply zz02|refine zz10 ?_ GE299.out)|exact HB.out))));have n2_:=zz00 (zz34 (g:=gb299) (o:=.cells #[.int .i64 0,.int .i64 0,.bool false] 93 (0,0)) (by (with_reducible repeat (first|refine zz07 ?_ _|refine zz09 ?_|refine zz08 ?_ _));exact BK299.out) hb);have n3_:=zz00 (zz21 (by repeat (first|(with_reducible first|exact HB.out|apply zz03|apply zz01|apply zz02|refine zz10 ?_ GE299.out)|exact HB.out)) hb);clear HO302;clear BK299;clear HB;have HO302:=n0_;have HO305:=n1_;have BK299:=n2_;have HB:=n3_;clear n0_ n1_ n2_ n3_;clear hb ho16))
      have n0_ := zz00 (zz06 HO302.out)
      have n1_ := zz00 (zz06 HO305.out)
      have n2_ := zz00 (zz09 BK299.out)
      have n3_ := zz00 (zz02 HB.out)
      clear HO302
      clear HO305
      clear BK299
      clear HB
      have HO302 := n0_
      have HO305 := n1_
      have BK299 := n2_
      have HB := n3_
      clear n0_ n1_ n2_ n3_
      obtain ⟨Ao18, co18, eo18⟩ := Kd.R_slice HO302.out
      (first | subst eo18 | (injection eo18 with f1_ f2_ f3_; have f4_ := f1_.symm; have f5_ := f3_.symm; clear f1_ f2_ f3_; subst f4_; subst f5_))
      have p306 : 0 ≤ ((ji8) : Int) := zz31 (by first | (with_reducible assumption) | assumption)
      have q306 : (ji8) < (y300.length : Int) := zz31 (by first | (with_reducible assumption) | assumption)
      obtain ⟨ad306, e306, hx306_0⟩ := Kd.at_int (Kd.R_reads' HO302.out).2.2 (ji8) p306 q306
      cases e306
      replace p306 := eq_true p306
      replace q306 := eq_true q306
      obtain ⟨Ao19, co19, eo19⟩ := Kd.R_slice HO305.out
      (first | subst eo19 | (injection eo19 with f1_ f2_ f3_; have f4_ := f1_.symm; have f5_ := f3_.symm; clear f1_ f2_ f3_; subst f4_; subst f5_))
      have p307 : 0 ≤ ((ji8) : Int) := zz31 (by first | (with_reducible assumption) | assumption)
      have q307 : (ji8) < (y303.length : Int) := zz31 (by first | (with_reducible assumption) | assumption)
      obtain ⟨ad307, e307, hx307_0⟩ := Kd.at_int (Kd.R_reads' HO305.out).2.2 (ji8) p307 q307
      cases e307
      replace p307 := eq_true p307
      replace q307 := eq_true q307
      refine start_ (n:=15) (S:=fun w'=>w'.cell? (ad306.add ((ji8)).toNat) = some (.int .i64 (rd y300 (ji8))) ∧ w'.cell? (ad307.add ((ji8)).toNat) = some (.int .i64 (rd y303 (ji8)))) (ds:=[]) #[false,false,false,false,false,false,false,false,false,false,false,false,false,false,false] (by kernel_rfl) rfl rfl ⟨hx306_0,hx307_0⟩ (fun hHeld=>?_);refine with_tabW almanackerref07_Type.tab5 almanackerref07_Type.bits5 (fun HT_ HW_=>?_)
      generalize w15.drew = w17 at HO302 HO305 BK299 HB hx306_0 hx307_0 hHeld ⊢
      refine pure_ (i:=0) (N:=some 15) (v:=?_) (a':=?_) #[true,false,false,false,false,false,false,false,false,false,false,false,false,false,false] rfl rfl (any_of HT_.out (by kernel_rfl)) (fun _ _ _ h=>h) (Or.inl ⟨by rfl,?_⟩) ?_ ?_
      rotate_left
      ·
       intro w'
       go_simp
       with_reducible rfl
      rotate_left
      ·
       simp only [Act.put, zz11, zz12, zz13, i64_w, i32_w]
       rfl
      refine pure_ (i:=1) (N:=some 16) (v:=?_) (a':=?_) #[true,true,false,false,false,false,false,false,false,false,false,false,false,false,false] rfl rfl (any_of HT_.out (by kernel_rfl)) (fun _ _ _ h=>h) (Or.inl ⟨by rfl,?_⟩) ?_ ?_
      rotate_left
      ·
       intro w'
       go_simp
       with_reducible rfl
      rotate_left
      ·
       simp only [Act.put, zz11, zz12, zz13, i64_w, i32_w]
       rfl
      refine pure_ (i:=2) (N:=some 17) (v:=?_) (a':=?_) #[true,true,true,false,false,false,false,false,false,false,false,false,false,false,false] rfl rfl (any_of HT_.out (by kernel_rfl)) (fun _ _ _ h=>h) (Or.inl ⟨by rfl,?_⟩) ?_ ?_
      rotate_left
      ·
       intro w'
       go_simp
       with_reducible rfl
      rotate_left
      ·
       simp only [Act.put, zz11, zz12, zz13, i64_w, i32_w]
       rfl
      refine pure_ (i:=3) (N:=some 18) (v:=?_) (a':=?_) #[true,true,true,true,false,false,false,false,false,false,false,false,false,false,false] rfl rfl (any_of HT_.out (by kernel_rfl)) (fun _ _ _ h=>h) (Or.inl ⟨by rfl,?_⟩) ?_ ?_
      rotate_left
      ·
       intro w'
       go_simp
       with_reducible rfl
      rotate_left
      ·
       simp only [Act.put, zz11, zz12, zz13, i64_w, i32_w]
       rfl
      refine pure_ (i:=5) (N:=some 20) (v:=?_) (a':=?_) #[true,true,true,true,false,true,false,false,false,false,false,false,false,false,false] rfl rfl (any_of HT_.out (by kernel_rfl)) (fun _ _ _ h=>h) (Or.inl ⟨by rfl,?_⟩) ?_ ?_
      rotate_left
      ·
       intro w'
       go_simp
       with_reducible rfl
      rotate_left
      ·
       simp only [Act.put, zz11, zz12, zz13, i64_w, i32_w]
       rfl
      refine pure_ (i:=6) (N:=some 21) (v:=?_) (a':=?_) #[true,true,true,true,false,true,true,false,false,false,false,false,false,false,false] rfl rfl (any_of HT_.out (by kernel_rfl)) (fun _ _ _ h=>h) (Or.inl ⟨by rfl,?_⟩) ?_ ?_
      rotate_left
      ·
       intro w'
       go_simp
       with_reducible rfl
      rotate_left
      ·
       simp only [Act.put, zz11, zz12, zz13, i64_w, i32_w]
       rfl
      refine pure_ (i:=7) (N:=some 22) (v:=?_) (a':=?_) #[true,true,true,true,false,true,true,true,false,false,false,false,false,false,false] rfl rfl (any_of HT_.out (by kernel_rfl)) (fun _ _ _ h=>h) (Or.inl ⟨by rfl,?_⟩) ?_ ?_
      rotate_left
      ·
       intro w'
       go_simp
       with_reducible rfl
      rotate_left
      ·
       simp only [Act.put, zz11, zz12, zz13, i64_w, i32_w]
       rfl
      refine pure_ (i:=8) (N:=some 23) (v:=?_) (a':=?_) #[true,true,true,true,false,true,true,true,true,false,false,false,false,false,false] rfl rfl (any_of HT_.out (by kernel_rfl)) (fun _ _ _ h=>h) (Or.inl ⟨by rfl,?_⟩) ?_ ?_
      rotate_left
      ·
       intro w'
       go_simp
       with_reducible rfl
      rotate_left
      ·
       simp only [Act.put, zz11, zz12, zz13, i64_w, i32_w]
       rfl
      refine pure_ (i:=10) (N:=some 25) (v:=?_) (a':=?_) #[true,true,true,true,false,true,true,true,true,false,true,false,false,false,false] rfl rfl (any_of HT_.out (by kernel_rfl)) (fun _ _ _ h=>h) (Or.inl ⟨by rfl,?_⟩) ?_ ?_
      rotate_left
      ·
       intro w'
       go_simp
       with_reducible rfl
      rotate_left
      ·
       simp only [Act.put, zz11, zz12, zz13, i64_w, i32_w]
       rfl
      refine pure_ (i:=11) (N:=some 26) (v:=?_) (a':=?_) #[true,true,true,true,false,true,true,true,true,false,true,true,false,false,false] rfl rfl (any_of HT_.out (by kernel_rfl)) (fun _ _ _ h=>h) (Or.inl ⟨by rfl,?_⟩) ?_ ?_
      rotate_left
      ·
       intro w'
       go_simp
       with_reducible rfl
      rotate_left
      ·
       simp only [Act.put, zz11, zz12, zz13, i64_w, i32_w]
       rfl
      refine take_ (i:=4) (N:=some 19) (v:=?_) (a':=?_) #[true,true,true,true,true,true,true,true,true,false,true,true,false,false,false] rfl rfl (take_ofW HT_.out HW_.out (by kernel_rfl)) (fun _ _ _ h=>h) (Or.inl ⟨by rfl,?_⟩) hHeld ?_ ?_
      rotate_left
      ·
       rintro w' ⟨s0, s1⟩
       go_simp
       with_reducible rfl
      rotate_left
      ·
       simp only [Act.put, zz11, zz12, zz13, i64_w, i32_w]
       rfl
      refine take_ (i:=9) (N:=some 24) (v:=?_) (a':=?_) #[true,true,true,true,true,true,true,true,true,true,true,true,false,false,false] rfl rfl (take_ofW HT_.out HW_.out (by kernel_rfl)) (fun _ _ _ h=>h) (Or.inl ⟨by rfl,?_⟩) hHeld ?_ ?_
      rotate_left
      ·
       rintro w' ⟨s0, s1⟩
       go_simp
       with_reducible rfl
      rotate_left
      ·
       simp only [Act.put, zz11, zz12, zz13, i64_w, i32_w]
       rfl
      refine pure_ (i:=12) (N:=some 27) (v:=?_) (a':=?_) #[true,true,true,true,true,true,true,true,true,true,true,true,true,false,false] rfl rfl (any_of HT_.out (by kernel_rfl)) (fun _ _ _ h=>h) (Or.inl ⟨by rfl,?_⟩) ?_ ?_
      rotate_left
      ·
       intro w'
       go_simp
       with_reducible rfl
      rotate_left
      ·
       simp only [Act.put, zz11, zz12, zz13, i64_w, i32_w]
       rfl
      refine one_ (i:=13) (N:=none) #[true,true,true,true,true,true,true,true,true,true,true,true,true,true,false] rfl rfl (one_of HT_.out (by kernel_rfl)) (by decide) (fun K hK=>?_)
      have hs20 : w17.cell? ⟨gb299, 0, none⟩ = some (.int .i64 0) := (zz18 BK299.out 0).trans rfl
      have hfs20 := zz17 BK299.out 0
      have hs21 : w17.cell? ⟨gb299, 1, none⟩ = some (.int .i64 0) := (zz18 BK299.out 1).trans rfl
      have hfs21 := zz17 BK299.out 1
      have hs22 : w17.cell? ⟨gb299, 2, none⟩ = some (.bool false) := (zz18 BK299.out 2).trans rfl
      have hfs22 := zz17 BK299.out 2
      refine skip_ (w1 := ?_) (by rfl) rfl ?_ ?_
      rotate_left
      ·
       go_simp
       rfl
      refine hK.out _ _ ⟨((cell_far (p:=⟨gb299,_,none⟩) (by first|exact Kd.own_blk (Kd.R_ne HO302.out BK299.out (by decide))|(rw [add_block];exact Kd.own_blk (Kd.R_ne HO302.out BK299.out (by decide)))|(show (Addr.add _ _).block ≠ _;rw [add_block];exact Kd.own_blk (Kd.R_ne HO302.out BK299.out (by decide)))|(dsimp only;exact Kd.own_blk (Kd.R_ne HO302.out BK299.out (by decide)))) _).trans (((cell_far (p:=⟨gb299,_,none⟩) (by first|exact Kd.own_blk (Kd.R_ne HO302.out BK299.out (by decide))|(rw [add_block];exact Kd.own_blk (Kd.R_ne HO302.out BK299.out (by decide)))|(show (Addr.add _ _).block ≠ _;rw [add_block];exact Kd.own_blk (Kd.R_ne HO302.out BK299.out (by decide)))|(dsimp only;exact Kd.own_blk (Kd.R_ne HO302.out BK299.out (by decide)))) _).trans (((cell_far (p:=⟨gb299,_,none⟩) (by first|exact Kd.own_blk (Kd.R_ne HO302.out BK299.out (by decide))|(rw [add_block];exact Kd.own_blk (Kd.R_ne HO302.out BK299.out (by decide)))|(show (Addr.add _ _).block ≠ _;rw [add_block];exact Kd.own_blk (Kd.R_ne HO302.out BK299.out (by decide)))|(dsimp only;exact Kd.own_blk (Kd.R_ne HO302.out BK299.out (by decide)))) _).trans (hHeld.1)))))),((cell_far (p:=⟨gb299,_,none⟩) (by first|exact Kd.own_blk (Kd.R_ne HO305.out BK299.out (by decide))|(rw [add_block];exact Kd.own_blk (Kd.R_ne HO305.out BK299.out (by decide)))|(show (Addr.add _ _).block ≠ _;rw [add_block];exact Kd.own_blk (Kd.R_ne HO305.out BK299.out (by decide)))|(dsimp only;exact Kd.own_blk (Kd.R_ne HO305.out BK299.out (by decide)))) _).trans (((cell_far (p:=⟨gb299,_,none⟩) (by first|exact Kd.own_blk (Kd.R_ne HO305.out BK299.out (by decide))|(rw [add_block];exact Kd.own_blk (Kd.R_ne HO305.out BK299.out (by decide)))|(show (Addr.add _ _).block ≠ _;rw [add_block];exact Kd.own_blk (Kd.R_ne HO305.out BK299.out (by decide)))|(dsimp only;exact Kd.own_blk (Kd.R_ne HO305.out BK299.out (by decide)))) _).trans (((cell_far (p:=⟨gb299,_,none⟩) (by first|exact Kd.own_blk (Kd.R_ne HO305.out BK299.out (by decide))|(rw [add_block];exact Kd.own_blk (Kd.R_ne HO305.out BK299.out (by decide)))|(show (Addr.add _ _).block ≠ _;rw [add_block];exact Kd.own_blk (Kd.R_ne HO305.out BK299.out (by decide)))|(dsimp only;exact Kd.own_blk (Kd.R_ne HO305.out BK299.out (by decide)))) _).trans (hHeld.2))))))⟩ (fun hHeld=>?_)
      clear hK K
      refine pure_ (i:=14) (N:=some 3) (v:=?_) (a':=?_) #[true,true,true,true,true,true,true,true,true,true,true,true,true,true,true] rfl rfl (any_of HT_.out (by kernel_rfl)) (fun _ _ _ h=>h) (Or.inl ⟨by rfl,?_⟩) ?_ ?_
      rotate_left
      ·
       intro w'
       go_simp
       with_reducible rfl
      rotate_left
      ·
       simp only [Act.put, zz11, zz12, zz13, i64_w, i32_w]
       rfl
      refine done_ (done_of HT_.out (by kernel_rfl)) ?_
      try go_wp2
      refine bodyPost_ret (results_ct rfl _ _ gb299 93 #[.int .i64 (rd y300 (ji8)),.int .i64 (rd y303 (ji8)),.bool (decide (a0 > 7))] (0,0) _ rfl (by (with_reducible repeat (first|refine zz07 ?_ _|refine zz09 ?_|refine zz08 ?_ _));refine zz35 (cs:=#[.int .i64 (rd y300 (ji8)),.int .i64 (rd y303 (ji8)),.bool false]) ?_ 2 _ rfl;(with_reducible repeat (first|refine zz07 ?_ _|refine zz09 ?_|refine zz08 ?_ _));refine zz35 (cs:=#[.int .i64 (rd y300 (ji8)),.int .i64 0,.bool false]) ?_ 1 _ rfl;(with_reducible repeat (first|refine zz07 ?_ _|refine zz09 ?_|refine zz08 ?_ _));refine zz35 (cs:=#[.int .i64 0,.int .i64 0,.bool false]) ?_ 0 _ rfl;(with_reducible repeat (first|refine zz07 ?_ _|refine zz09 ?_|refine zz08 ?_ _));exact BK299.out) Tryz.underlying93 rfl (by kernel_rfl)) rfl ?_
      exact ⟨by first|rfl|(simp [errW_none,errW_some] <;> rfl)|(simp only [← hji8];first|rfl|(simp [errW_none,errW_some] <;> rfl))|(simp [*,errW_none,errW_some] <;> rfl),by repeat (first|(with_reducible first|exact HB.out|apply zz03|apply zz01|apply zz02|refine zz10 ?_ GE299.out)|exact HB.out)⟩
     ·
      rw [if_neg c11] at H
      exact absurd H (by simp)
    ·
     rw [if_neg c10] at H
     exact absurd H (by simp)
   ·
    rw [if_neg c9] at H
    exact absurd H (by simp)

def almanackerref07_Number.l0 : Nat → Int → Int → Int → Bool → Option (Int)
  | 0, _, _, _, _ => none
  | k + 1, x3, x309000, x309001, x309002 => if x3 ≤ 14 then ((almanackerref07_Type.f x3).bind fun bt309 => (if (bt309.1 == x309000 && (bt309.2.1 == x309001 && (bt309.2.2.1 == x309002))) = true then (some x3) else (almanackerref07_Number.l0 k (wrap64 (x3 + 1)) x309000 x309001 x309002))) else (some 0)
def almanackerref07_Number.f (k : Nat) (a0_0 : Int) (a0_1 : Int) (a0_2 : Bool) : Option (Int) := almanackerref07_Number.l0 k 1 a0_0 a0_1 a0_2
theorem almanackerref07_Number.mono_l : ∀ k, (∀ y0 y1 y2 y3, LeO (almanackerref07_Number.l0 k y0 y1 y2 y3) (almanackerref07_Number.l0 (k + 1) y0 y1 y2 y3))
 | 0 => fun _ _ _ _ r h => by simp [almanackerref07_Number.l0] at h
 | k + 1 => by
  have ih0 := almanackerref07_Number.mono_l k
  ·
   intro y0 y1 y2 y3
   unfold almanackerref07_Number.l0
   repeat' first
   | (with_reducible exact ih0 _ _ _ _)
   | (with_reducible exact LeO.refl _)
   | (with_reducible exact LeO.none _)
   | (with_reducible refine LeO.ite ?_ ?_)
   | (with_reducible refine LeO.bind ?_ (fun _ => ?_))
   | exact ih0 _ _ _ _
   | exact LeO.none _
   | refine LeO.ite ?_ ?_
   | refine LeO.bind ?_ (fun _ => ?_)
theorem almanackerref07_Number.mono : ∀ a0 a1 a2 k, LeO (almanackerref07_Number.f k a0 a1 a2) (almanackerref07_Number.f (k + 1) a0 a1 a2) := by
 intro a0 a1 a2 k
 have ih0 := almanackerref07_Number.mono_l k
 unfold almanackerref07_Number.f
 repeat' first
   | (with_reducible exact ih0 _ _ _ _)
   | (with_reducible exact LeO.refl _)
   | (with_reducible exact LeO.none _)
   | (with_reducible refine LeO.ite ?_ ?_)
   | (with_reducible refine LeO.bind ?_ (fun _ => ?_))
   | exact ih0 _ _ _ _
   | exact LeO.none _
   | refine LeO.ite ?_ ?_
   | refine LeO.bind ?_ (fun _ => ?_)
set_option maxHeartbeats 8000000 in
set_option maxRecDepth 100000 in
theorem almanackerref07_Number.calls (k : Nat) (a0_0 : Int) (a0_1 : Int) (a0_2 : Bool) (r : Int) (w : World) (h : almanackerref07_Number.f k a0_0 a0_1 a0_2 = some r) :
  Calls Tryz.prog 199 #[.agg #[.int .i64 a0_0, .int .i64 a0_1, .bool a0_2]] w fun e w' => e = .returned (.int .i64 r) ∧ Below w.heap.size w w' := by
 have hu93 := Tryz.underlying93
 have HB := zz00 (Below.refl w.heap.size w)
 have H : (almanackerref07_Number.l0 k 1 a0_0 a0_1 a0_2) = some r := h
 clear h
 have H' := zz00 H
 clear H
 go_enter Tryz.func199, Tryz.ntmps199
 go_wp2_with (first|((with_reducible refine zz24 (N:=1) rfl ?_);refine zz30 ?hg (N:=1) ?hd (cs:=#[.int .i64 a0_0,.int .i64 a0_1,.bool a0_2]) (t:=93) ?hr ?_;(case hd=>rfl);(case hg=>rfl);(case hr=>first|(go_simp;done)|(go_simp;rfl));intro gb308 hg w2 hbox hb;have n0_:=zz00 (zz21 (by repeat (first|(with_reducible first|exact HB.out|apply zz03|apply zz01|apply zz02)|exact HB.out)) hb);have n1_:=zz00 (hbox);have n2_:=zz00 ((by rw [hg];exact (zz22 (by repeat (first|(with_reducible first|exact HB.out|apply zz03|apply zz01|apply zz02)|exact HB.out))) : w.heap.size ≤ gb308));have n3_:=zz00 ((by rw [hg];exact (zz22 (by repeat (first|(with_reducible first|exact HB.out|apply zz03|apply zz01|apply zz02)|exact HB.out))) : w.heap.size ≤ gb308));clear HB;have HB:=n0_;have BK308:=n1_;have GW308:=n2_;have GE308:=n3_;clear n0_ n1_ n2_ n3_;clear hb hbox hg))
 go_loopg [3] k (fun kq v3 w'=>∃ (x3_1 : Int),v3 = .int .i64 x3_1 ∧ Aside0 (almanackerref07_Number.l0 kq x3_1 a0_0 a0_1 a0_2 = some r) ∧ Aside0 (kq ≤ k) ∧ Aside0 (w'.heap[gb308]? = some (.cells #[.int .i64 a0_0,.int .i64 a0_1,.bool a0_2] 93 (0,0))) ∧ Aside0 (Below w.heap.size w w'))
 case atStart=>exact ⟨(1),(by first|rfl|(simp;done)|(simp [*];done)),H',⟨Nat.le_refl _⟩,⟨by (with_reducible repeat (first|refine zz07 ?_ _|refine zz09 ?_|refine zz08 ?_ _));exact BK308.out⟩,⟨by repeat (first|(with_reducible first|exact HB.out|apply zz03|apply zz01|apply zz02|refine zz10 ?_ GE308.out)|exact HB.out)⟩⟩
 case round =>
  clear H'
  try clear c1
  try clear p2
  obtain ⟨x3_1, rfl, HA, HK1, BK308, HB⟩ := hrel
  cases gk with
  | zero => exact absurd HA.out (by simp [almanackerref07_Number.l0])
  | succ k1 =>
   have H := HA.out
   clear HA
   simp only [almanackerref07_Number.l0] at H
   by_cases c3 : x3_1 ≤ 14
   ·
    rw [if_pos c3] at H
    have c3b0 : decide (x3_1 ≤ 14) = true := decide_eq_true c3
    clear c3
    replace H := zz14.mp H
    obtain ⟨⟨t309, t310, t311, t312⟩, A40, H⟩ := H
    replace H : (if (t309 == a0_0 && (t310 == a0_1 && (t311 == a0_2))) = true then (some x3_1) else (almanackerref07_Number.l0 k1 (wrap64 (x3_1 + 1)) a0_0 a0_1 a0_2)) = some r := H
    have A4 := zz00 A40
    clear A40
    by_cases c5 : (t309 == a0_0 && (t310 == a0_1 && (t311 == a0_2))) = true
    ·
     rw [if_pos c5] at H
     have c5b0 : (t309 == a0_0 && (t310 == a0_1 && (t311 == a0_2))) = true := c5
     (try (have c5b1 : decide (t309 = a0_0 && (t310 == a0_1 && (t311 == a0_2))) = true := by simpa using c5))
     (try (have c5b2 : (t309 == a0_0 && (t310 == a0_1 && (t311 == a0_2))) = true := by simpa using c5))
     clear c5
     obtain rfl := Option.some.inj H
     go_wp2_with (first|((with_reducible refine zz23 (f:=240) rfl ?_);refine zz25 (some 12) rfl rfl Tryz.func240 (by kernel_rfl) rfl #[.int .i64 x3_1] rfl (by (try simp only [List.map_toArray,List.map_cons,List.map_nil]);first|done|rfl|(simp only [List.length_drop,List.length_take];rfl)) ?_;(with_reducible refine (almanackerref07_Type.calls x3_1 t309 t310 t311 t312 _ A4.out).mono ?_);rintro e w6 ⟨rfl,hb⟩;refine ⟨_,rfl,?_⟩;have n0_:=zz00 (zz34 (g:=gb308) (o:=.cells #[.int .i64 a0_0,.int .i64 a0_1,.bool a0_2] 93 (0,0)) (by (with_reducible repeat (first|refine zz07 ?_ _|refine zz09 ?_|refine zz08 ?_ _));exact BK308.out) hb);have n1_:=zz00 (zz21 (by repeat (first|(with_reducible first|exact HB.out|apply zz03|apply zz01|apply zz02|refine zz10 ?_ GE308.out)|exact HB.out)) hb);clear BK308;clear HB;have BK308:=n0_;have HB:=n1_;clear n0_ n1_;(try clear hb);(try clear hb2);(try clear hk);(try clear hi))|((with_reducible refine zz24 (N:=4) rfl ?_);refine zz30 ?hg (N:=4) ?hd (cs:=#[.int .i64 0,.int .i64 0,.bool false]) (t:=93) ?hr ?_;(case hd=>rfl);(case hg=>rfl);(case hr=>first|(go_simp;done)|(go_simp;rfl));intro gb313 hg w7 hbox hb;have n0_:=zz00 (zz34 (g:=gb308) (o:=.cells #[.int .i64 a0_0,.int .i64 a0_1,.bool a0_2] 93 (0,0)) (by (with_reducible repeat (first|refine zz07 ?_ _|refine zz09 ?_|refine zz08 ?_ _));exact BK308.out) hb);have n1_:=zz00 (zz21 (by repeat (first|(with_reducible first|exact HB.out|apply zz03|apply zz01|apply zz02|refine zz10 ?_ GE308.out)|exact HB.out)) hb);have n2_:=zz00 (hbox);have n3_:=zz00 ((by rw [hg];exact (zz22 (by repeat (first|(with_reducible first|exact HB.out|apply zz03|apply zz01|apply zz02|refine zz10 ?_ GE308.out)|exact HB.out))) : w.heap.size ≤ gb313));have n4_:=zz00 ((by rw [hg];exact (zz22 (by repeat (first|(with_reducible first|exact HB.out|apply zz03|apply zz01|apply zz02|refine zz10 ?_ GE308.out)|exact HB.out))) : w.heap.size ≤ gb313));have n5_:=zz00 ((by rw [hg];exact Nat.ne_of_lt (blk_lt (g:=gb308) (o:=.cells #[.int .i64 a0_0,.int .i64 a0_1,.bool a0_2] 93 (0,0)) (by (with_reducible repeat (first|refine zz07 ?_ _|refine zz09 ?_|refine zz08 ?_ _));exact BK308.out)) : gb308 ≠ gb313));have n6_:=zz00 ((by rw [hg];exact Nat.ne_of_gt (blk_lt (g:=gb308) (o:=.cells #[.int .i64 a0_0,.int .i64 a0_1,.bool a0_2] 93 (0,0)) (by (with_reducible repeat (first|refine zz07 ?_ _|refine zz09 ?_|refine zz08 ?_ _));exact BK308.out)) : gb313 ≠ gb308));clear BK308;clear HB;have BK308:=n0_;have HB:=n1_;have BK313:=n2_;have GW313:=n3_;have GE313:=n4_;have NB308_313:=n5_;have NB313_308:=n6_;clear n0_ n1_ n2_ n3_ n4_ n5_ n6_;clear hb hbox hg;have hnb8:=NB313_308.out;have hnc8:=NB308_313.out;have hcz9_0 : w7.cell? ⟨gb313,0,none⟩ = some (.int .i64 0):=(zz18 BK313.out 0).trans rfl;have hcz9_1 : w7.cell? ⟨gb313,1,none⟩ = some (.int .i64 0):=(zz18 BK313.out 1).trans rfl;have hcz9_2 : w7.cell? ⟨gb313,2,none⟩ = some (.bool false):=(zz18 BK313.out 2).trans rfl;have hfz9_0:=zz17 BK313.out 0;have hfz9_1:=zz17 BK313.out 1;have hfz9_2:=zz17 BK313.out 2;have hcz10_0 : w7.cell? ⟨gb308,0,none⟩ = some (.int .i64 a0_0):=(zz18 BK308.out 0).trans rfl;have hcz10_1 : w7.cell? ⟨gb308,1,none⟩ = some (.int .i64 a0_1):=(zz18 BK308.out 1).trans rfl;have hcz10_2 : w7.cell? ⟨gb308,2,none⟩ = some (.bool a0_2):=(zz18 BK308.out 2).trans rfl;have hfz10_0:=zz17 BK308.out 0;have hfz10_1:=zz17 BK308.out 1;have hfz10_2:=zz17 BK308.out 2))
     go_ret
     exact ⟨by first|rfl|(simp [errW_none,errW_some] <;> rfl)|(simp [*,errW_none,errW_some] <;> rfl),by repeat (first|(with_reducible first|exact HB.out|apply zz03|apply zz01|apply zz02|refine zz10 ?_ GE308.out|refine zz10 ?_ GE313.out)|exact HB.out)⟩
    ·
     rw [if_neg c5] at H
     have c5b0 : (t309 == a0_0 && (t310 == a0_1 && (t311 == a0_2))) = false := by simpa using c5
     (try (have c5b1 : decide (t309 = a0_0 && (t310 == a0_1 && (t311 == a0_2))) = false := by simpa using c5))
     (try (have c5b2 : (t309 == a0_0 && (t310 == a0_1 && (t311 == a0_2))) = false := by simpa using c5))
     (try (have c5b3 : ¬ (t309 = a0_0 && (t310 == a0_1 && (t311 == a0_2))) := by simpa using c5))
     clear c5
     have H' := zz00 H
     clear H
     go_wp2_with (first|((with_reducible refine zz23 (f:=240) rfl ?_);refine zz25 (some 12) rfl rfl Tryz.func240 (by kernel_rfl) rfl #[.int .i64 x3_1] rfl (by (try simp only [List.map_toArray,List.map_cons,List.map_nil]);first|done|rfl|(simp only [List.length_drop,List.length_take];rfl)) ?_;(with_reducible refine (almanackerref07_Type.calls x3_1 t309 t310 t311 t312 _ A4.out).mono ?_);rintro e w11 ⟨rfl,hb⟩;refine ⟨_,rfl,?_⟩;have n0_:=zz00 (zz34 (g:=gb308) (o:=.cells #[.int .i64 a0_0,.int .i64 a0_1,.bool a0_2] 93 (0,0)) (by (with_reducible repeat (first|refine zz07 ?_ _|refine zz09 ?_|refine zz08 ?_ _));exact BK308.out) hb);have n1_:=zz00 (zz21 (by repeat (first|(with_reducible first|exact HB.out|apply zz03|apply zz01|apply zz02|refine zz10 ?_ GE308.out)|exact HB.out)) hb);clear BK308;clear HB;have BK308:=n0_;have HB:=n1_;clear n0_ n1_;(try clear hb);(try clear hb2);(try clear hk);(try clear hi))|((with_reducible refine zz24 (N:=4) rfl ?_);refine zz30 ?hg (N:=4) ?hd (cs:=#[.int .i64 0,.int .i64 0,.bool false]) (t:=93) ?hr ?_;(case hd=>rfl);(case hg=>rfl);(case hr=>first|(go_simp;done)|(go_simp;rfl));intro gb313 hg w12 hbox hb;have n0_:=zz00 (zz34 (g:=gb308) (o:=.cells #[.int .i64 a0_0,.int .i64 a0_1,.bool a0_2] 93 (0,0)) (by (with_reducible repeat (first|refine zz07 ?_ _|refine zz09 ?_|refine zz08 ?_ _));exact BK308.out) hb);have n1_:=zz00 (zz21 (by repeat (first|(with_reducible first|exact HB.out|apply zz03|apply zz01|apply zz02|refine zz10 ?_ GE308.out)|exact HB.out)) hb);have n2_:=zz00 (hbox);have n3_:=zz00 ((by rw [hg];exact (zz22 (by repeat (first|(with_reducible first|exact HB.out|apply zz03|apply zz01|apply zz02|refine zz10 ?_ GE308.out)|exact HB.out))) : w.heap.size ≤ gb313));have n4_:=zz00 ((by rw [hg];exact (zz22 (by repeat (first|(with_reducible first|exact HB.out|apply zz03|apply zz01|apply zz02|refine zz10 ?_ GE308.out)|exact HB.out))) : w.heap.size ≤ gb313));have n5_:=zz00 ((by rw [hg];exact Nat.ne_of_lt (blk_lt (g:=gb308) (o:=.cells #[.int .i64 a0_0,.int .i64 a0_1,.bool a0_2] 93 (0,0)) (by (with_reducible repeat (first|refine zz07 ?_ _|refine zz09 ?_|refine zz08 ?_ _));exact BK308.out)) : gb308 ≠ gb313));have n6_:=zz00 ((by rw [hg];exact Nat.ne_of_gt (blk_lt (g:=gb308) (o:=.cells #[.int .i64 a0_0,.int .i64 a0_1,.bool a0_2] 93 (0,0)) (by (with_reducible repeat (first|refine zz07 ?_ _|refine zz09 ?_|refine zz08 ?_ _));exact BK308.out)) : gb313 ≠ gb308));clear BK308;clear HB;have BK308:=n0_;have HB:=n1_;have BK313:=n2_;have GW313:=n3_;have GE313:=n4_;have NB308_313:=n5_;have NB313_308:=n6_;clear n0_ n1_ n2_ n3_ n4_ n5_ n6_;clear hb hbox hg;have hnb13:=NB313_308.out;have hnc13:=NB308_313.out;have hcz14_0 : w12.cell? ⟨gb313,0,none⟩ = some (.int .i64 0):=(zz18 BK313.out 0).trans rfl;have hcz14_1 : w12.cell? ⟨gb313,1,none⟩ = some (.int .i64 0):=(zz18 BK313.out 1).trans rfl;have hcz14_2 : w12.cell? ⟨gb313,2,none⟩ = some (.bool false):=(zz18 BK313.out 2).trans rfl;have hfz14_0:=zz17 BK313.out 0;have hfz14_1:=zz17 BK313.out 1;have hfz14_2:=zz17 BK313.out 2;have hcz15_0 : w12.cell? ⟨gb308,0,none⟩ = some (.int .i64 a0_0):=(zz18 BK308.out 0).trans rfl;have hcz15_1 : w12.cell? ⟨gb308,1,none⟩ = some (.int .i64 a0_1):=(zz18 BK308.out 1).trans rfl;have hcz15_2 : w12.cell? ⟨gb308,2,none⟩ = some (.bool a0_2):=(zz18 BK308.out 2).trans rfl;have hfz15_0:=zz17 BK308.out 0;have hfz15_1:=zz17 BK308.out 1;have hfz15_2:=zz17 BK308.out 2))
     go_roundg k1
     case measure => have := HK1.out; omega
     case rel=>exact ⟨(wrap64 (x3_1 + 1)),(by first|rfl|(simp;done)|(simp [*];done)),H',⟨by have:=HK1.out;omega⟩,⟨by (with_reducible repeat (first|refine zz07 ?_ _|refine zz09 ?_|refine zz08 ?_ _));refine zz33 ?_ NB308_313.out _;(with_reducible repeat (first|refine zz07 ?_ _|refine zz09 ?_|refine zz08 ?_ _));refine zz33 ?_ NB308_313.out _;(with_reducible repeat (first|refine zz07 ?_ _|refine zz09 ?_|refine zz08 ?_ _));refine zz33 ?_ NB308_313.out _;(with_reducible repeat (first|refine zz07 ?_ _|refine zz09 ?_|refine zz08 ?_ _));exact BK308.out⟩,⟨by repeat (first|(with_reducible first|exact HB.out|apply zz03|apply zz01|apply zz02|refine zz10 ?_ GE308.out|refine zz10 ?_ GE313.out)|exact HB.out)⟩⟩
   ·
    rw [if_neg c3] at H
    have c3b0 : decide (x3_1 ≤ 14) = false := decide_eq_false c3
    clear c3
    obtain rfl := Option.some.inj H
    go_wp2
    go_ret
    exact ⟨by first|rfl|(simp [errW_none,errW_some] <;> rfl)|(simp [*,errW_none,errW_some] <;> rfl),by repeat (first|(with_reducible first|exact HB.out|apply zz03|apply zz01|apply zz02|refine zz10 ?_ GE308.out)|exact HB.out)⟩

end Go.Proofs.YtflpddhoiafhcaaGreatDoor.S
end
