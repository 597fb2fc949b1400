/- Texts of the proof of 'SpecialTells', joined by a program (part 3): contracts of functions, plain laws. -/
import Derived.Test.YtflpddhoiafhcaaGreatDoorJSpecialTells0
import Derived.Test.YtflpddhoiafhcaaGreatDoorJSpecialTells2
set_option linter.unusedVariables false
set_option linter.unusedSimpArgs false
section
-- Written by wip/hprint.py of this repo (holes typed by hand, all else by a program) over the seat YtflpddhoiafhcaaGreatDoor.
namespace Go.Proofs.YtflpddhoiafhcaaGreatDoor.S
open Go.Proofs.YtflpddhoiafhcaaGreatDoor.H
open Go.RowKit Go.Proofs.YtflpddhoiafhcaaGreatDoorW.PrintWords Go.Proofs.YtflpddhoiafhcaaGreatDoorW.PrintLast Go.Proofs.YtflpddhoiafhcaaGreatDoorW.PrintMore
attribute [local go_sem] max2_int min2_int max_two min_two max_three min_three max_four min_four   -- for this text's walks alone
set_option linter.unusedVariables false
set_option linter.unusedSimpArgs false

def newyear_First.f (k : Nat) (a0 : Int) : Option (Int × Int) := (molad_Of.f k a0 1).bind fun bt143 => (if bt143.2.2 = 0 then ((cycle_Leap.f a0).bind fun bt147 => ((cycle_Leap.f (wrap64 (a0 - 1))).bind fun bt149 => ((newyear_Delay.f k bt143.1 bt143.2.1 bt147.1 bt149.1).bind fun t151 => (some (wrap64 (bt143.1 + t151), 0))))) else (some (0, bt143.2.2)))
theorem newyear_First.mono : ∀ a0 k, LeO (newyear_First.f k a0) (newyear_First.f (k + 1) a0) := by
 intro a0 k
 unfold newyear_First.f
 repeat' first
   | (with_reducible exact molad_Of.mono _ _ _)
   | (with_reducible exact newyear_Delay.mono _ _ _ _ _)
   | (with_reducible exact LeO.refl _)
   | (with_reducible exact LeO.none _)
   | (with_reducible refine LeO.ite ?_ ?_)
   | (with_reducible refine LeO.bind ?_ (fun _ => ?_))
   | exact molad_Of.mono _ _ _
   | exact newyear_Delay.mono _ _ _ _ _
   | exact LeO.none _
   | refine LeO.ite ?_ ?_
   | refine LeO.bind ?_ (fun _ => ?_)
def newyear_First.T6 : Bool × List (List Nat × List Nat) := (true, [([], []), ([0], [0]), ([], []), ([], []), ([], []), ([2, 3, 4], [2, 3, 4]), ([1, 5], [1, 5]), ([6, 5, 0, 1, 2, 3, 4, 5, 6], [6]), ([7, 0, 1, 2, 3, 4, 5, 6, 7], [])])
def newyear_First.B6 : List Nat := [0, 1, 0, 0, 0, 28, 63, 127, 255]
theorem newyear_First.tab6 : rtab .any (opsOf Tryz.f80 6) = newyear_First.T6 := by kernel_rfl
theorem newyear_First.bits6 : waitsOk newyear_First.T6.2 newyear_First.B6 = true := by kernel_rfl
set_option maxHeartbeats 8000000 in
set_option maxRecDepth 100000 in
theorem newyear_First.calls (k : Nat) (a0 : Int) (r1 : Int) (r2 : Int) (w : World) (h : newyear_First.f k a0 = some (r1, r2)) :
  Calls Tryz.prog 80 #[.int .i64 a0] w fun e w' => e = .returned (.tuple #[.int .i64 r1, .int .i64 r2]) ∧ Below w.heap.size w w' := by
 have hu147 := Tryz.underlying147
 have HB := zz00 (Below.refl w.heap.size w)
 have H : ((molad_Of.f k a0 1).bind fun bt143=>(if bt143.2.2 = 0 then ((cycle_Leap.f a0).bind fun bt147=>((cycle_Leap.f (wrap64 (a0 - 1))).bind fun bt149=>((newyear_Delay.f k bt143.1 bt143.2.1 bt147.1 bt149.1).bind fun t151=>(some (wrap64 (bt143.1 + t151),0))))) else (some (0,bt143.2.2)))) = some (r1,r2):=h
 clear h
 replace H := zz14.mp H
 obtain ⟨⟨t143, t144, t145⟩, A20, H⟩ := H
 replace H : (if t145 = 0 then ((cycle_Leap.f a0).bind fun bt147=>((cycle_Leap.f (wrap64 (a0 - 1))).bind fun bt149=>((newyear_Delay.f k t143 t144 bt147.1 bt149.1).bind fun t151=>(some (wrap64 (t143 + t151),0))))) else (some (0,t145))) = some (r1,r2):=H
 have A2 := zz00 A20
 clear A20
 by_cases c3 : t145 = 0
 ·
  rw [if_pos c3] at H
  have c3b0 : (t145 == 0) = true := zz29.mpr c3
  have c3b1 : (t145 != 0) = false := zz26.mpr c3
  clear c3
  replace H := zz14.mp H
  obtain ⟨⟨t147, t148⟩, A40, H⟩ := H
  replace H : ((cycle_Leap.f (wrap64 (a0 - 1))).bind fun bt149 => ((newyear_Delay.f k t143 t144 t147 bt149.1).bind fun t151 => (some (wrap64 (t143 + t151), 0)))) = some (r1, r2) := H
  have A4 := zz00 A40
  clear A40
  replace H := zz14.mp H
  obtain ⟨⟨t149, t150⟩, A50, H⟩ := H
  replace H : ((newyear_Delay.f k t143 t144 t147 t149).bind fun t151 => (some (wrap64 (t143 + t151), 0))) = some (r1, r2) := H
  have A5 := zz00 A50
  clear A50
  replace H := zz14.mp H
  obtain ⟨t151, A60, H⟩ := H
  replace H : (some (wrap64 (t143 + t151), 0)) = some (r1, r2) := H
  have A6 := zz00 A60
  clear A60
  simp only [zz15, zz16] at H
  obtain ⟨rfl, rfl⟩ := H
  go_enter Tryz.func80, Tryz.ntmps80
  try go_wp2_with (first|((with_reducible refine zz23 (f:=131) rfl ?_);refine zz25 (some 12) rfl rfl Tryz.func131 (by kernel_rfl) rfl #[.int .i64 a0,.int .i64 1] rfl (by (try simp only [List.map_toArray,List.map_cons,List.map_nil]);first|done|rfl|(simp only [List.length_drop,List.length_take];rfl)) ?_;(with_reducible refine (molad_Of.calls k a0 1 t143 t144 t145 _ A2.out).mono ?_);rintro e w7 ⟨rfl,hb⟩;refine ⟨_,rfl,?_⟩;have n0_:=zz00 (zz21 (by repeat (first|(with_reducible first|exact HB.out|apply zz03|apply zz01|apply zz02)|exact HB.out)) hb);clear HB;have HB:=n0_;clear n0_;(try clear hb);(try clear hb2);(try clear hk);(try clear hi))|((with_reducible refine zz24 (N:=4) rfl ?_);refine zz30 ?hg (N:=4) ?hd (cs:=#[.int .i64 0,.int .i64 0]) (t:=147) ?hr ?_;(case hd=>rfl);(case hg=>rfl);(case hr=>first|(go_simp;done)|(go_simp;rfl));intro gb146 hg w8 hbox hb;have n0_:=zz00 (zz21 (by repeat (first|(with_reducible first|exact HB.out|apply zz03|apply zz01|apply zz02)|exact HB.out)) hb);have n1_:=zz00 (hbox);have n2_:=zz00 ((by rw [hg];exact (zz22 (by repeat (first|(with_reducible first|exact HB.out|apply zz03|apply zz01|apply zz02)|exact HB.out))) : w.heap.size ≤ gb146));have n3_:=zz00 ((by rw [hg];exact (zz22 (by repeat (first|(with_reducible first|exact HB.out|apply zz03|apply zz01|apply zz02)|exact HB.out))) : w.heap.size ≤ gb146));clear HB;have HB:=n0_;have BK146:=n1_;have GW146:=n2_;have GE146:=n3_;clear n0_ n1_ n2_ n3_;clear hb hbox hg;have hcz9_0 : w8.cell? ⟨gb146,0,none⟩ = some (.int .i64 0):=(zz18 BK146.out 0).trans rfl;have hcz9_1 : w8.cell? ⟨gb146,1,none⟩ = some (.int .i64 0):=(zz18 BK146.out 1).trans rfl;have hfz9_0:=zz17 BK146.out 0;have hfz9_1:=zz17 BK146.out 1)|((with_reducible refine zz23 (f:=103) rfl ?_);refine zz25 (some 20) rfl rfl Tryz.func103 (by kernel_rfl) rfl #[.int .i64 a0] rfl (by (try simp only [List.map_toArray,List.map_cons,List.map_nil]);first|done|rfl|(simp only [List.length_drop,List.length_take];rfl)) ?_;(with_reducible refine (cycle_Leap.calls a0 t147 t148 _ A4.out).mono ?_);rintro e w' ⟨rfl,⟨nd,rfl⟩⟩;refine ⟨_,rfl,?_⟩)|((with_reducible refine zz23 (f:=103) rfl ?_);refine zz25 (some 26) rfl rfl Tryz.func103 (by kernel_rfl) rfl #[.int .i64 (wrap64 (a0 - 1))] rfl (by (try simp only [List.map_toArray,List.map_cons,List.map_nil]);first|done|rfl|(simp only [List.length_drop,List.length_take];rfl)) ?_;(with_reducible refine (cycle_Leap.calls (wrap64 (a0 - 1)) t149 t150 _ A5.out).mono ?_);rintro e w' ⟨rfl,⟨nd,rfl⟩⟩;refine ⟨_,rfl,?_⟩))
  have n0_ : Aside0 (((w8.setCell ⟨gb146,0,none⟩ (.int .i64 t143)).setCell ⟨gb146,1,none⟩ (.int .i64 t144)).heap[gb146]? = some (.cells #[.int .i64 t143,.int .i64 t144] 147 (0,0))):=⟨by (with_reducible repeat (first|refine zz07 ?_ _|refine zz09 ?_|refine zz08 ?_ _));refine zz35 (cs:=#[.int .i64 t143,.int .i64 0]) ?_ 1 _ rfl;(with_reducible repeat (first|refine zz07 ?_ _|refine zz09 ?_|refine zz08 ?_ _));refine zz35 (cs:=#[.int .i64 0,.int .i64 0]) ?_ 0 _ rfl;(with_reducible repeat (first|refine zz07 ?_ _|refine zz09 ?_|refine zz08 ?_ _));exact BK146.out⟩
  have n1_ : Aside0 (Below w.heap.size w ((w8.setCell ⟨gb146,0,none⟩ (.int .i64 t143)).setCell ⟨gb146,1,none⟩ (.int .i64 t144))):=⟨by repeat (first|(with_reducible first|exact HB.out|apply zz03|apply zz01|apply zz02|refine zz10 ?_ GE146.out)|exact HB.out)⟩
  (try clear BK146)
  (try clear HB)
  generalize ((w8.setCell ⟨gb146, 0, none⟩ (.int .i64 t143)).setCell ⟨gb146, 1, none⟩ (.int .i64 t144)) = w10 at n0_ n1_ ⊢
  have BK146 := n0_
  have HB := n1_
  clear n0_ n1_
  (try (rw [drewN_self w10];generalize hq_ : World.drewN w10 _ = w10;have n0_ : Aside0 (w10.heap[gb146]? = some (.cells #[.int .i64 t143,.int .i64 t144] 147 (0,0))):=⟨by rw [← hq_];exact (by (with_reducible repeat (first|refine zz07 ?_ _|refine zz09 ?_|refine zz08 ?_ _));exact BK146.out)⟩;have n1_ : Aside0 (Below w.heap.size w w10):=⟨by rw [← hq_];exact (by repeat (first|(with_reducible first|exact HB.out|apply zz03|apply zz01|apply zz02|refine zz10 ?_ GE146.out)|exact HB.out))⟩;clear BK146 HB hq_;have BK146:=n0_;have HB:=n1_;clear n0_ n1_))
  have n0_ := zz00 (zz09 BK146.out)
  have n1_ := zz00 (zz02 HB.out)
  clear BK146
  clear HB
  have BK146 := n0_
  have HB := n1_
  clear n0_ n1_
  refine start_ (n:=9) (S:=fun w'=>w'.cell? ⟨gb146,0,none⟩ = some (.int .i64 t143) ∧ w'.cell? ⟨gb146,1,none⟩ = some (.int .i64 t144)) (ds:=[]) #[false,false,false,false,false,false,false,false,false] (by kernel_rfl) rfl rfl ⟨(zz18 BK146.out 0).trans rfl,(zz18 BK146.out 1).trans rfl⟩ (fun hHeld=>?_);refine with_tabW newyear_First.tab6 newyear_First.bits6 (fun HT_ HW_=>?_)
  generalize w10.drew = w11 at BK146 HB hHeld ⊢
  refine pure_ (i:=0) (N:=some 29) (v:=?_) (a':=?_) #[true,false,false,false,false,false,false,false,false] rfl rfl (any_of HT_.out (by kernel_rfl)) (fun _ _ _ h=>h) (Or.inl ⟨by rfl,?_⟩) ?_ ?_
  rotate_left
  ·
   intro w'
   go_simp
   with_reducible rfl
  rotate_left
  ·
   simp only [Act.put, zz11, zz12, zz13, i64_w, i32_w]
   rfl
  refine pure_ (i:=3) (N:=some 32) (v:=?_) (a':=?_) #[true,false,false,true,false,false,false,false,false] rfl rfl (any_of HT_.out (by kernel_rfl)) (fun _ _ _ h=>h) (Or.inl ⟨by rfl,?_⟩) ?_ ?_
  rotate_left
  ·
   intro w'
   go_simp
   with_reducible rfl
  rotate_left
  ·
   simp only [Act.put, zz11, zz12, zz13, i64_w, i32_w]
   rfl
  refine pure_ (i:=4) (N:=some 33) (v:=?_) (a':=?_) #[true,false,false,true,true,false,false,false,false] rfl rfl (any_of HT_.out (by kernel_rfl)) (fun _ _ _ h=>h) (Or.inl ⟨by rfl,?_⟩) ?_ ?_
  rotate_left
  ·
   intro w'
   go_simp
   with_reducible rfl
  rotate_left
  ·
   simp only [Act.put, zz11, zz12, zz13, i64_w, i32_w]
   rfl
  refine take_ (i:=1) (N:=some 30) (v:=?_) (a':=?_) #[true,true,false,true,true,false,false,false,false] rfl rfl (take_ofW HT_.out HW_.out (by kernel_rfl)) (fun _ _ _ h=>h) (Or.inl ⟨by rfl,?_⟩) hHeld ?_ ?_
  rotate_left
  ·
   rintro w' ⟨s0, s1⟩
   go_simp
   with_reducible rfl
  rotate_left
  ·
   simp only [Act.put, zz11, zz12, zz13, i64_w, i32_w]
   rfl
  refine take_ (i:=2) (N:=some 31) (v:=?_) (a':=?_) #[true,true,true,true,true,false,false,false,false] rfl rfl (take_ofW HT_.out HW_.out (by kernel_rfl)) (fun _ _ _ h=>h) (Or.inl ⟨by rfl,?_⟩) hHeld ?_ ?_
  rotate_left
  ·
   rintro w' ⟨s0, s1⟩
   go_simp
   with_reducible rfl
  rotate_left
  ·
   simp only [Act.put, zz11, zz12, zz13, i64_w, i32_w]
   rfl
  refine one_ (i := 5) (N := some 34) #[true, true, true, true, true, true, false, false, false] rfl rfl (one_of HT_.out (by kernel_rfl)) (by decide) (fun K hK => ?_)
  refine goes_ Tryz.func132 (by kernel_rfl) rfl #[.agg #[.int .i64 t143,.int .i64 t144],.bool t147,.bool t149] (by rfl) rfl rfl (by (try simp only [List.map_toArray,List.map_cons,List.map_nil]);first|done|rfl|(simp only [List.length_drop,List.length_take];rfl)) ?_
  with_reducible refine (newyear_Delay.calls k t143 t144 t147 t149 t151 _ A6.out).mono ?_
  rintro e w12 ⟨rfl, hb⟩
  refine ⟨_, rfl, ?_⟩
  have n0_:=zz00 (zz34 (g:=gb146) (o:=.cells #[.int .i64 t143,.int .i64 t144] 147 (0,0)) (by (with_reducible repeat (first|refine zz07 ?_ _|refine zz09 ?_|refine zz08 ?_ _));exact BK146.out) hb)
  have n1_:=zz00 (zz21 (by repeat (first|(with_reducible first|exact HB.out|apply zz03|apply zz01|apply zz02|refine zz10 ?_ GE146.out)|exact HB.out)) hb)
  clear BK146
  clear HB
  have BK146 := n0_
  have HB := n1_
  clear n0_ n1_
  (try clear hb)
  (try clear hb2)
  (try clear hk)
  (try clear hi)
  refine hK.out _ _ ⟨(zz18 BK146.out 0).trans rfl, (zz18 BK146.out 1).trans rfl⟩ (fun hHeld => ?_)
  clear hK K
  refine norm_ (a' := ?_) ?_ ?_
  rotate_left
  ·
   show Act.put _ (some 34) _ = _
   simp only [Act.put, zz11, zz12, zz13, i64_w, i32_w]
   rfl
  refine pure_ (i:=6) (N:=some 35) (v:=?_) (a':=?_) #[true,true,true,true,true,true,true,false,false] rfl rfl (any_of HT_.out (by kernel_rfl)) (fun _ _ _ h=>h) (Or.inl ⟨by rfl,?_⟩) ?_ ?_
  rotate_left
  ·
   intro w'
   go_simp
   with_reducible rfl
  rotate_left
  ·
   simp only [Act.put, zz11, zz12, zz13, i64_w, i32_w]
   rfl
  refine pure_ (i:=7) (N:=some 2) (v:=?_) (a':=?_) #[true,true,true,true,true,true,true,true,false] rfl rfl (any_of HT_.out (by kernel_rfl)) (fun _ _ _ h=>h) (Or.inl ⟨by rfl,?_⟩) ?_ ?_
  rotate_left
  ·
   intro w'
   go_simp
   with_reducible rfl
  rotate_left
  ·
   simp only [Act.put, zz11, zz12, zz13, i64_w, i32_w]
   rfl
  refine pure_ (i:=8) (N:=some 3) (v:=?_) (a':=?_) #[true,true,true,true,true,true,true,true,true] rfl rfl (any_of HT_.out (by kernel_rfl)) (fun _ _ _ h=>h) (Or.inl ⟨by rfl,?_⟩) ?_ ?_
  rotate_left
  ·
   intro w'
   go_simp
   with_reducible rfl
  rotate_left
  ·
   simp only [Act.put, zz11, zz12, zz13, i64_w, i32_w]
   rfl
  refine done_ (done_of HT_.out (by kernel_rfl)) ?_
  try go_wp2
  go_ret2
  exact ⟨by first|rfl|(simp [errW_none,errW_some] <;> rfl)|(simp [*,errW_none,errW_some] <;> rfl),by repeat (first|(with_reducible first|exact HB.out|apply zz03|apply zz01|apply zz02|refine zz10 ?_ GE146.out)|exact HB.out)⟩
 ·
  rw [if_neg c3] at H
  have c3b0 : (t145 == 0) = false := zz27.mpr c3
  have c3b1 : (t145 != 0) = true := zz28.mpr c3
  simp only [zz15, zz16] at H
  obtain ⟨rfl, rfl⟩ := H
  go_enter Tryz.func80, Tryz.ntmps80
  go_wp2_with (first|((with_reducible refine zz23 (f:=131) rfl ?_);refine zz25 (some 12) rfl rfl Tryz.func131 (by kernel_rfl) rfl #[.int .i64 a0,.int .i64 1] rfl (by (try simp only [List.map_toArray,List.map_cons,List.map_nil]);first|done|rfl|(simp only [List.length_drop,List.length_take];rfl)) ?_;(with_reducible refine (molad_Of.calls k a0 1 t143 t144 t145 _ A2.out).mono ?_);rintro e w13 ⟨rfl,hb⟩;refine ⟨_,rfl,?_⟩;have n0_:=zz00 (zz21 (by repeat (first|(with_reducible first|exact HB.out|apply zz03|apply zz01|apply zz02)|exact HB.out)) hb);clear HB;have HB:=n0_;clear n0_;(try clear hb);(try clear hb2);(try clear hk);(try clear hi))|((with_reducible refine zz24 (N:=4) rfl ?_);refine zz30 ?hg (N:=4) ?hd (cs:=#[.int .i64 0,.int .i64 0]) (t:=147) ?hr ?_;(case hd=>rfl);(case hg=>rfl);(case hr=>first|(go_simp;done)|(go_simp;rfl));intro gb146 hg w14 hbox hb;have n0_:=zz00 (zz21 (by repeat (first|(with_reducible first|exact HB.out|apply zz03|apply zz01|apply zz02)|exact HB.out)) hb);have n1_:=zz00 (hbox);have n2_:=zz00 ((by rw [hg];exact (zz22 (by repeat (first|(with_reducible first|exact HB.out|apply zz03|apply zz01|apply zz02)|exact HB.out))) : w.heap.size ≤ gb146));have n3_:=zz00 ((by rw [hg];exact (zz22 (by repeat (first|(with_reducible first|exact HB.out|apply zz03|apply zz01|apply zz02)|exact HB.out))) : w.heap.size ≤ gb146));clear HB;have HB:=n0_;have BK146:=n1_;have GW146:=n2_;have GE146:=n3_;clear n0_ n1_ n2_ n3_;clear hb hbox hg;have hcz15_0 : w14.cell? ⟨gb146,0,none⟩ = some (.int .i64 0):=(zz18 BK146.out 0).trans rfl;have hcz15_1 : w14.cell? ⟨gb146,1,none⟩ = some (.int .i64 0):=(zz18 BK146.out 1).trans rfl;have hfz15_0:=zz17 BK146.out 0;have hfz15_1:=zz17 BK146.out 1))
  go_ret2
  exact ⟨by first|rfl|(simp [errW_none,errW_some] <;> rfl)|(simp [*,errW_none,errW_some] <;> rfl),by repeat (first|(with_reducible first|exact HB.out|apply zz03|apply zz01|apply zz02|refine zz10 ?_ GE146.out)|exact HB.out)⟩

def keviah_Long.j0 : Nat → Int → Bool → Option (Int × Int)
  | 0, _, _ => none
  | k + 1, x0, x13 => if x13 = true then (some (0, 2)) else ((newyear_First.f k x0).bind fun bt152 => ((newyear_First.f k (wrap64 (x0 + 1))).bind fun bt154 => (some (wrap64 (bt154.1 - bt152.1), 0))))
def keviah_Long.f (k : Nat) (a0 : Int) : Option (Int × Int) := if a0 < 1 then (keviah_Long.j0 k a0 true) else (keviah_Long.j0 k a0 (decide (a0 > 9999)))
theorem keviah_Long.mono_l : ∀ k, (∀ y0 y1, LeO (keviah_Long.j0 k y0 y1) (keviah_Long.j0 (k + 1) y0 y1))
 | 0 => fun _ _ r h => by simp [keviah_Long.j0] at h
 | k + 1 => by
  have ih0 := keviah_Long.mono_l k
  ·
   intro y0 y1
   unfold keviah_Long.j0
   repeat' first
   | (with_reducible exact ih0 _ _)
   | (with_reducible exact newyear_First.mono _ _)
   | (with_reducible exact LeO.refl _)
   | (with_reducible exact LeO.none _)
   | (with_reducible refine LeO.ite ?_ ?_)
   | (with_reducible refine LeO.bind ?_ (fun _ => ?_))
   | exact ih0 _ _
   | exact newyear_First.mono _ _
   | exact LeO.none _
   | refine LeO.ite ?_ ?_
   | refine LeO.bind ?_ (fun _ => ?_)
theorem keviah_Long.mono : ∀ a0 k, LeO (keviah_Long.f k a0) (keviah_Long.f (k + 1) a0) := by
 intro a0 k
 have ih0 := keviah_Long.mono_l k
 unfold keviah_Long.f
 repeat' first
   | (with_reducible exact ih0 _ _)
   | (with_reducible exact newyear_First.mono _ _)
   | (with_reducible exact LeO.refl _)
   | (with_reducible exact LeO.none _)
   | (with_reducible refine LeO.ite ?_ ?_)
   | (with_reducible refine LeO.bind ?_ (fun _ => ?_))
   | exact ih0 _ _
   | exact newyear_First.mono _ _
   | exact LeO.none _
   | refine LeO.ite ?_ ?_
   | refine LeO.bind ?_ (fun _ => ?_)
set_option maxHeartbeats 8000000 in
set_option maxRecDepth 100000 in
theorem keviah_Long.calls (k : Nat) (a0 : Int) (r1 : Int) (r2 : Int) (w : World) (h : keviah_Long.f k a0 = some (r1, r2)) :
  Calls Tryz.prog 143 #[.int .i64 a0] w fun e w' => e = .returned (.tuple #[.int .i64 r1, .int .i64 r2]) ∧ Below w.heap.size w w' := by
 have HB := zz00 (Below.refl w.heap.size w)
 have H : (if a0 < 1 then (keviah_Long.j0 k a0 true) else (keviah_Long.j0 k a0 (decide (a0 > 9999)))) = some (r1, r2) := h
 clear h
 have HC2 := zz00 H
 clear H
 go_enter Tryz.func143, Tryz.ntmps143
 go_upto_region 1 with (fail)
 go_cut [13] (fun v13 wc => ∃ (kq : Nat) (x13_1 : Bool), v13 = .bool x13_1 ∧ Aside0 (keviah_Long.j0 kq a0 x13_1 = some (r1, r2)) ∧ Aside0 (kq ≤ k) ∧ Aside0 (Below w.heap.size w wc))
 case first =>
  have H := HC2.out
  clear HC2
  by_cases c3 : a0 < 1
  ·
   rw [if_pos c3] at H
   have c3b0 : decide (a0 < 1) = true := decide_eq_true c3
   clear c3
   (first | rw [c3b0] | (simp only [i64_w, i32_w]; rw [c3b0]) | skip)
   have H' := zz00 H
   clear H
   go_wp2
   go_meet
   case rel=>exact ⟨_,(true),(by first|rfl|(simp;done)|(simp [*];done)),H',⟨by first|omega|exact Nat.le_refl _⟩,⟨by repeat (first|(with_reducible first|exact HB.out|apply zz03|apply zz01|apply zz02)|exact HB.out)⟩⟩
  ·
   rw [if_neg c3] at H
   have c3b0 : decide (a0 < 1) = false := decide_eq_false c3
   clear c3
   (first | rw [c3b0] | (simp only [i64_w, i32_w]; rw [c3b0]) | skip)
   have H' := zz00 H
   clear H
   go_wp2
   go_meet
   case rel=>exact ⟨_,(decide (a0 > 9999)),(by first|rfl|(simp;done)|(simp [*];done)),H',⟨by first|omega|exact Nat.le_refl _⟩,⟨by repeat (first|(with_reducible first|exact HB.out|apply zz03|apply zz01|apply zz02)|exact HB.out)⟩⟩
 case rest =>
  clear HC2
  try clear c1
  try clear p2
  try clear c3
  try clear c3b0
  obtain ⟨kq, x13_1, rfl, HA, HJ1, HB⟩ := hcut
  cases kq with
  | zero => exact absurd HA.out (by simp [keviah_Long.j0])
  | succ kj1 =>
   have H := HA.out
   clear HA
   simp only [keviah_Long.j0] at H
   by_cases c4 : x13_1 = true
   ·
    subst c4
    have H1 : (some (0, 2)) = some (r1, r2) := by rw [if_pos rfl] at H; exact H
    clear H
    have H := H1
    clear H1
    simp only [zz15, zz16] at H
    obtain ⟨rfl, rfl⟩ := H
    go_wp2
    go_ret2
    exact ⟨by first|rfl|(simp [errW_none,errW_some] <;> rfl)|(simp [*,errW_none,errW_some] <;> rfl),by repeat (first|(with_reducible first|exact HB.out|apply zz03|apply zz01|apply zz02)|exact HB.out)⟩
   ·
    replace c4 := zz32.mpr c4
    subst c4
    have H1 : ((newyear_First.f kj1 a0).bind fun bt152=>((newyear_First.f kj1 (wrap64 (a0 + 1))).bind fun bt154=>(some (wrap64 (bt154.1 - bt152.1),0)))) = some (r1,r2):=by rw [if_neg (show ¬ (false = true) by decide)] at H;exact H
    clear H
    have H := H1
    clear H1
    replace H := zz14.mp H
    obtain ⟨⟨t152, t153⟩, A50, H⟩ := H
    replace H : ((newyear_First.f kj1 (wrap64 (a0 + 1))).bind fun bt154 => (some (wrap64 (bt154.1 - t152), 0))) = some (r1, r2) := H
    have A5 := zz00 A50
    clear A50
    replace H := zz14.mp H
    obtain ⟨⟨t154, t155⟩, A60, H⟩ := H
    replace H : (some (wrap64 (t154 - t152), 0)) = some (r1, r2) := H
    have A6 := zz00 A60
    clear A60
    simp only [zz15, zz16] at H
    obtain ⟨rfl, rfl⟩ := H
    go_wp2_with (first|((with_reducible refine zz23 (f:=80) rfl ?_);refine zz25 (some 16) rfl rfl Tryz.func80 (by kernel_rfl) rfl #[.int .i64 a0] rfl (by (try simp only [List.map_toArray,List.map_cons,List.map_nil]);first|done|rfl|(simp only [List.length_drop,List.length_take];rfl)) ?_;(with_reducible refine (newyear_First.calls kj1 a0 t152 t153 _ A5.out).mono ?_);rintro e w7 ⟨rfl,hb⟩;refine ⟨_,rfl,?_⟩;have n0_:=zz00 (zz21 (by repeat (first|(with_reducible first|exact HB.out|apply zz03|apply zz01|apply zz02)|exact HB.out)) hb);clear HB;have HB:=n0_;clear n0_;(try clear hb);(try clear hb2);(try clear hk);(try clear hi))|((with_reducible refine zz23 (f:=80) rfl ?_);refine zz25 (some 22) rfl rfl Tryz.func80 (by kernel_rfl) rfl #[.int .i64 (wrap64 (a0 + 1))] rfl (by (try simp only [List.map_toArray,List.map_cons,List.map_nil]);first|done|rfl|(simp only [List.length_drop,List.length_take];rfl)) ?_;(with_reducible refine (newyear_First.calls kj1 (wrap64 (a0 + 1)) t154 t155 _ A6.out).mono ?_);rintro e w8 ⟨rfl,hb⟩;refine ⟨_,rfl,?_⟩;have n0_:=zz00 (zz21 (by repeat (first|(with_reducible first|exact HB.out|apply zz03|apply zz01|apply zz02)|exact HB.out)) hb);clear HB;have HB:=n0_;clear n0_;(try clear hb);(try clear hb2);(try clear hk);(try clear hi)))
    go_ret2
    exact ⟨by first|rfl|(simp [errW_none,errW_some] <;> rfl)|(simp [*,errW_none,errW_some] <;> rfl),by repeat (first|(with_reducible first|exact HB.out|apply zz03|apply zz01|apply zz02)|exact HB.out)⟩

def keviah_Of.f (k : Nat) (a0 : Int) : Option (Int × Int × Bool × Int) := (keviah_Long.f k a0).bind fun bt157 => (if bt157.2 = 0 then ((newyear_First.f k a0).bind fun bt159 => ((cycle_Leap.f a0).bind fun bt161 => ((molad_Weekday.f bt159.1).bind fun t163 => (some (t163, Int.tmod (wrap64 (bt157.1 - 353)) 30, bt161.1, 0))))) else (some (0, 0, false, bt157.2)))
theorem keviah_Of.mono : ∀ a0 k, LeO (keviah_Of.f k a0) (keviah_Of.f (k + 1) a0) := by
 intro a0 k
 unfold keviah_Of.f
 repeat' first
   | (with_reducible exact keviah_Long.mono _ _)
   | (with_reducible exact newyear_First.mono _ _)
   | (with_reducible exact LeO.refl _)
   | (with_reducible exact LeO.none _)
   | (with_reducible refine LeO.ite ?_ ?_)
   | (with_reducible refine LeO.bind ?_ (fun _ => ?_))
   | exact keviah_Long.mono _ _
   | exact newyear_First.mono _ _
   | exact LeO.none _
   | refine LeO.ite ?_ ?_
   | refine LeO.bind ?_ (fun _ => ?_)
set_option maxHeartbeats 8000000 in
set_option maxRecDepth 100000 in
theorem keviah_Of.calls (k : Nat) (a0 : Int) (r1 : Int) (r2 : Int) (r3 : Bool) (r4 : Int) (w : World) (h : keviah_Of.f k a0 = some (r1, r2, r3, r4)) :
  Calls Tryz.prog 93 #[.int .i64 a0] w fun e w' => e = .returned (.tuple #[.agg #[.int .i64 r1, .int .i64 r2, .bool r3], .int .i64 r4]) ∧ Below w.heap.size w w' := by
 have hu93 := Tryz.underlying93
 have HB := zz00 (Below.refl w.heap.size w)
 have H : ((keviah_Long.f k a0).bind fun bt157=>(if bt157.2 = 0 then ((newyear_First.f k a0).bind fun bt159=>((cycle_Leap.f a0).bind fun bt161=>((molad_Weekday.f bt159.1).bind fun t163=>(some (t163,Int.tmod (wrap64 (bt157.1 - 353)) 30,bt161.1,0))))) else (some (0,0,false,bt157.2)))) = some (r1,r2,r3,r4):=h
 clear h
 replace H := zz14.mp H
 obtain ⟨⟨t157, t158⟩, A20, H⟩ := H
 replace H : (if t158 = 0 then ((newyear_First.f k a0).bind fun bt159=>((cycle_Leap.f a0).bind fun bt161=>((molad_Weekday.f bt159.1).bind fun t163=>(some (t163,Int.tmod (wrap64 (t157 - 353)) 30,bt161.1,0))))) else (some (0,0,false,t158))) = some (r1,r2,r3,r4):=H
 have A2 := zz00 A20
 clear A20
 by_cases c3 : t158 = 0
 ·
  rw [if_pos c3] at H
  have c3b0 : (t158 == 0) = true := zz29.mpr c3
  have c3b1 : (t158 != 0) = false := zz26.mpr c3
  clear c3
  replace H := zz14.mp H
  obtain ⟨⟨t159, t160⟩, A40, H⟩ := H
  replace H : ((cycle_Leap.f a0).bind fun bt161 => ((molad_Weekday.f t159).bind fun t163 => (some (t163, Int.tmod (wrap64 (t157 - 353)) 30, bt161.1, 0)))) = some (r1, r2, r3, r4) := H
  have A4 := zz00 A40
  clear A40
  replace H := zz14.mp H
  obtain ⟨⟨t161, t162⟩, A50, H⟩ := H
  replace H : ((molad_Weekday.f t159).bind fun t163 => (some (t163, Int.tmod (wrap64 (t157 - 353)) 30, t161, 0))) = some (r1, r2, r3, r4) := H
  have A5 := zz00 A50
  clear A50
  replace H := zz14.mp H
  obtain ⟨t163, A60, H⟩ := H
  replace H : (some (t163, Int.tmod (wrap64 (t157 - 353)) 30, t161, 0)) = some (r1, r2, r3, r4) := H
  have A6 := zz00 A60
  clear A60
  simp only [zz15, zz16] at H
  obtain ⟨rfl, rfl, rfl, rfl⟩ := H
  go_enter Tryz.func93, Tryz.ntmps93
  go_wp2_with (first|((with_reducible refine zz24 (N:=2) rfl ?_);refine zz30 ?hg (N:=2) ?hd (cs:=#[.int .i64 0,.int .i64 0,.bool false]) (t:=93) ?hr ?_;(case hd=>rfl);(case hg=>rfl);(case hr=>first|(go_simp;done)|(go_simp;rfl));intro gb156 hg w7 hbox hb;have n0_:=zz00 (zz21 (by repeat (first|(with_reducible first|exact HB.out|apply zz03|apply zz01|apply zz02)|exact HB.out)) hb);have n1_:=zz00 (hbox);have n2_:=zz00 ((by rw [hg];exact (zz22 (by repeat (first|(with_reducible first|exact HB.out|apply zz03|apply zz01|apply zz02)|exact HB.out))) : w.heap.size ≤ gb156));have n3_:=zz00 ((by rw [hg];exact (zz22 (by repeat (first|(with_reducible first|exact HB.out|apply zz03|apply zz01|apply zz02)|exact HB.out))) : w.heap.size ≤ gb156));clear HB;have HB:=n0_;have BK156:=n1_;have GW156:=n2_;have GE156:=n3_;clear n0_ n1_ n2_ n3_;clear hb hbox hg)|((with_reducible refine zz23 (f:=143) rfl ?_);refine zz25 (some 12) rfl rfl Tryz.func143 (by kernel_rfl) rfl #[.int .i64 a0] rfl (by (try simp only [List.map_toArray,List.map_cons,List.map_nil]);first|done|rfl|(simp only [List.length_drop,List.length_take];rfl)) ?_;(with_reducible refine (keviah_Long.calls k a0 t157 t158 _ A2.out).mono ?_);rintro e w8 ⟨rfl,hb⟩;refine ⟨_,rfl,?_⟩;have n0_:=zz00 (zz34 (g:=gb156) (o:=.cells #[.int .i64 0,.int .i64 0,.bool false] 93 (0,0)) (by (with_reducible repeat (first|refine zz07 ?_ _|refine zz09 ?_|refine zz08 ?_ _));exact BK156.out) hb);have n1_:=zz00 (zz21 (by repeat (first|(with_reducible first|exact HB.out|apply zz03|apply zz01|apply zz02|refine zz10 ?_ GE156.out)|exact HB.out)) hb);clear BK156;clear HB;have BK156:=n0_;have HB:=n1_;clear n0_ n1_;(try clear hb);(try clear hb2);(try clear hk);(try clear hi))|((with_reducible refine zz23 (f:=80) rfl ?_);refine zz25 (some 21) rfl rfl Tryz.func80 (by kernel_rfl) rfl #[.int .i64 a0] rfl (by (try simp only [List.map_toArray,List.map_cons,List.map_nil]);first|done|rfl|(simp only [List.length_drop,List.length_take];rfl)) ?_;(with_reducible refine (newyear_First.calls k a0 t159 t160 _ A4.out).mono ?_);rintro e w9 ⟨rfl,hb⟩;refine ⟨_,rfl,?_⟩;have n0_:=zz00 (zz34 (g:=gb156) (o:=.cells #[.int .i64 0,.int .i64 0,.bool false] 93 (0,0)) (by (with_reducible repeat (first|refine zz07 ?_ _|refine zz09 ?_|refine zz08 ?_ _));exact BK156.out) hb);have n1_:=zz00 (zz21 (by repeat (first|(with_reducible first|exact HB.out|apply zz03|apply zz01|apply zz02|refine zz10 ?_ GE156.out)|exact HB.out)) hb);clear BK156;clear HB;have BK156:=n0_;have HB:=n1_;clear n0_ n1_;(try clear hb);(try clear hb2);(try clear hk);(try clear hi))|((with_reducible refine zz23 (f:=103) rfl ?_);refine zz25 (some 26) rfl rfl Tryz.func103 (by kernel_rfl) rfl #[.int .i64 a0] rfl (by (try simp only [List.map_toArray,List.map_cons,List.map_nil]);first|done|rfl|(simp only [List.length_drop,List.length_take];rfl)) ?_;(with_reducible refine (cycle_Leap.calls a0 t161 t162 _ A5.out).mono ?_);rintro e w' ⟨rfl,⟨nd,rfl⟩⟩;refine ⟨_,rfl,?_⟩;(try (rw [drewN_self w9];generalize hq_ : World.drewN w9 _ = w9;have n0_ : Aside0 (w9.heap[gb156]? = some (.cells #[.int .i64 0,.int .i64 0,.bool false] 93 (0,0))):=⟨by rw [← hq_];exact (by (with_reducible repeat (first|refine zz07 ?_ _|refine zz09 ?_|refine zz08 ?_ _));exact BK156.out)⟩;have n1_ : Aside0 (Below w.heap.size w w9):=⟨by rw [← hq_];exact (by repeat (first|(with_reducible first|exact HB.out|apply zz03|apply zz01|apply zz02|refine zz10 ?_ GE156.out)|exact HB.out))⟩;clear BK156 HB hq_;have BK156:=n0_;have HB:=n1_;clear n0_ n1_)))|((with_reducible refine zz23 (f:=130) rfl ?_);refine zz25 (some 30) rfl rfl Tryz.func130 (by kernel_rfl) rfl #[.int .i64 t159] rfl (by (try simp only [List.map_toArray,List.map_cons,List.map_nil]);first|done|rfl|(simp only [List.length_drop,List.length_take];rfl)) ?_;(with_reducible refine (molad_Weekday.calls t159 t163 _ A6.out).mono ?_);rintro e w' ⟨rfl,⟨nd,rfl⟩⟩;refine ⟨_,rfl,?_⟩;(try (rw [drewN_self w9];generalize hq_ : World.drewN w9 _ = w9;have n0_ : Aside0 (w9.heap[gb156]? = some (.cells #[.int .i64 0,.int .i64 0,.bool false] 93 (0,0))):=⟨by rw [← hq_];exact (by (with_reducible repeat (first|refine zz07 ?_ _|refine zz09 ?_|refine zz08 ?_ _));exact BK156.out)⟩;have n1_ : Aside0 (Below w.heap.size w w9):=⟨by rw [← hq_];exact (by repeat (first|(with_reducible first|exact HB.out|apply zz03|apply zz01|apply zz02|refine zz10 ?_ GE156.out)|exact HB.out))⟩;clear BK156 HB hq_;have BK156:=n0_;have HB:=n1_;clear n0_ n1_));have hcz10_0 : w9.cell? ⟨gb156,0,none⟩ = some (.int .i64 0):=(zz18 BK156.out 0).trans rfl;have hcz10_1 : w9.cell? ⟨gb156,1,none⟩ = some (.int .i64 0):=(zz18 BK156.out 1).trans rfl;have hcz10_2 : w9.cell? ⟨gb156,2,none⟩ = some (.bool false):=(zz18 BK156.out 2).trans rfl;have hfz10_0:=zz17 BK156.out 0;have hfz10_1:=zz17 BK156.out 1;have hfz10_2:=zz17 BK156.out 2))
  refine bodyPost_ret (results_ct rfl _ _ gb156 93 #[.int .i64 t163,.int .i64 (Int.tmod (wrap64 (t157 - 353)) 30),.bool t161] (0,0) _ rfl (by (with_reducible repeat (first|refine zz07 ?_ _|refine zz09 ?_|refine zz08 ?_ _));refine zz35 (cs:=#[.int .i64 t163,.int .i64 (Int.tmod (wrap64 (t157 - 353)) 30),.bool false]) ?_ 2 _ rfl;(with_reducible repeat (first|refine zz07 ?_ _|refine zz09 ?_|refine zz08 ?_ _));refine zz35 (cs:=#[.int .i64 t163,.int .i64 0,.bool false]) ?_ 1 _ rfl;(with_reducible repeat (first|refine zz07 ?_ _|refine zz09 ?_|refine zz08 ?_ _));refine zz35 (cs:=#[.int .i64 0,.int .i64 0,.bool false]) ?_ 0 _ rfl;(with_reducible repeat (first|refine zz07 ?_ _|refine zz09 ?_|refine zz08 ?_ _));exact BK156.out) Tryz.underlying93 rfl (by kernel_rfl)) rfl ?_
  exact ⟨by first|rfl|(simp [errW_none,errW_some] <;> rfl)|(simp [*,errW_none,errW_some] <;> rfl),by repeat (first|(with_reducible first|exact HB.out|apply zz03|apply zz01|apply zz02|refine zz10 ?_ GE156.out)|exact HB.out)⟩
 ·
  rw [if_neg c3] at H
  have c3b0 : (t158 == 0) = false := zz27.mpr c3
  have c3b1 : (t158 != 0) = true := zz28.mpr c3
  simp only [zz15, zz16] at H
  obtain ⟨rfl, rfl, rfl, rfl⟩ := H
  go_enter Tryz.func93, Tryz.ntmps93
  go_wp2_with (first|((with_reducible refine zz24 (N:=2) rfl ?_);refine zz30 ?hg (N:=2) ?hd (cs:=#[.int .i64 0,.int .i64 0,.bool false]) (t:=93) ?hr ?_;(case hd=>rfl);(case hg=>rfl);(case hr=>first|(go_simp;done)|(go_simp;rfl));intro gb156 hg w11 hbox hb;have n0_:=zz00 (zz21 (by repeat (first|(with_reducible first|exact HB.out|apply zz03|apply zz01|apply zz02)|exact HB.out)) hb);have n1_:=zz00 (hbox);have n2_:=zz00 ((by rw [hg];exact (zz22 (by repeat (first|(with_reducible first|exact HB.out|apply zz03|apply zz01|apply zz02)|exact HB.out))) : w.heap.size ≤ gb156));have n3_:=zz00 ((by rw [hg];exact (zz22 (by repeat (first|(with_reducible first|exact HB.out|apply zz03|apply zz01|apply zz02)|exact HB.out))) : w.heap.size ≤ gb156));clear HB;have HB:=n0_;have BK156:=n1_;have GW156:=n2_;have GE156:=n3_;clear n0_ n1_ n2_ n3_;clear hb hbox hg)|((with_reducible refine zz23 (f:=143) rfl ?_);refine zz25 (some 12) rfl rfl Tryz.func143 (by kernel_rfl) rfl #[.int .i64 a0] rfl (by (try simp only [List.map_toArray,List.map_cons,List.map_nil]);first|done|rfl|(simp only [List.length_drop,List.length_take];rfl)) ?_;(with_reducible refine (keviah_Long.calls k a0 t157 t158 _ A2.out).mono ?_);rintro e w12 ⟨rfl,hb⟩;refine ⟨_,rfl,?_⟩;have n0_:=zz00 (zz34 (g:=gb156) (o:=.cells #[.int .i64 0,.int .i64 0,.bool false] 93 (0,0)) (by (with_reducible repeat (first|refine zz07 ?_ _|refine zz09 ?_|refine zz08 ?_ _));exact BK156.out) hb);have n1_:=zz00 (zz21 (by repeat (first|(with_reducible first|exact HB.out|apply zz03|apply zz01|apply zz02|refine zz10 ?_ GE156.out)|exact HB.out)) hb);clear BK156;clear HB;have BK156:=n0_;have HB:=n1_;clear n0_ n1_;(try clear hb);(try clear hb2);(try clear hk);(try clear hi);have hcz13_0 : w12.cell? ⟨gb156,0,none⟩ = some (.int .i64 0):=(zz18 BK156.out 0).trans rfl;have hcz13_1 : w12.cell? ⟨gb156,1,none⟩ = some (.int .i64 0):=(zz18 BK156.out 1).trans rfl;have hcz13_2 : w12.cell? ⟨gb156,2,none⟩ = some (.bool false):=(zz18 BK156.out 2).trans rfl;have hfz13_0:=zz17 BK156.out 0;have hfz13_1:=zz17 BK156.out 1;have hfz13_2:=zz17 BK156.out 2))
  refine bodyPost_ret (results_ct rfl _ _ gb156 93 #[.int .i64 0,.int .i64 0,.bool false] (0,0) _ rfl (by (with_reducible repeat (first|refine zz07 ?_ _|refine zz09 ?_|refine zz08 ?_ _));refine zz35 (cs:=#[.int .i64 0,.int .i64 0,.bool false]) ?_ 2 _ rfl;(with_reducible repeat (first|refine zz07 ?_ _|refine zz09 ?_|refine zz08 ?_ _));refine zz35 (cs:=#[.int .i64 0,.int .i64 0,.bool false]) ?_ 1 _ rfl;(with_reducible repeat (first|refine zz07 ?_ _|refine zz09 ?_|refine zz08 ?_ _));refine zz35 (cs:=#[.int .i64 0,.int .i64 0,.bool false]) ?_ 0 _ rfl;(with_reducible repeat (first|refine zz07 ?_ _|refine zz09 ?_|refine zz08 ?_ _));exact BK156.out) Tryz.underlying93 rfl (by kernel_rfl)) rfl ?_
  exact ⟨by first|rfl|(simp [errW_none,errW_some] <;> rfl)|(simp [*,errW_none,errW_some] <;> rfl),by repeat (first|(with_reducible first|exact HB.out|apply zz03|apply zz01|apply zz02|refine zz10 ?_ GE156.out)|exact HB.out)⟩

def code_Right.f (a0_0 : Int) (a0_1 : Bool) : Option (Bool) := if a0_0 > 0 then (if a0_0 ≤ 12 then (if a0_0 = 5 then (some true) else (some (!a0_1))) else (some false)) else (some false)
set_option maxHeartbeats 8000000 in
set_option maxRecDepth 100000 in
theorem code_Right.calls (a0_0 : Int) (a0_1 : Bool) (r : Bool) (w : World) (h : code_Right.f a0_0 a0_1 = some r) :
  Calls Tryz.prog 113 #[.agg #[.int .i64 a0_0, .bool a0_1]] w fun e w' => e = .returned (.bool r) ∧ Below w.heap.size w w' := by
 have hu32 := Tryz.underlying32
 have HB := zz00 (Below.refl w.heap.size w)
 have H : (if a0_0 > 0 then (if a0_0 ≤ 12 then (if a0_0 = 5 then (some true) else (some (!a0_1))) else (some false)) else (some false)) = some r := h
 clear h
 by_cases c2 : a0_0 > 0
 ·
  rw [if_pos c2] at H
  have c2b0 : decide (0 < a0_0) = true := decide_eq_true c2
  clear c2
  by_cases c3 : a0_0 ≤ 12
  ·
   rw [if_pos c3] at H
   have c3b0 : decide (a0_0 ≤ 12) = true := decide_eq_true c3
   clear c3
   by_cases c4 : a0_0 = 5
   ·
    rw [if_pos c4] at H
    have c4b0 : (a0_0 == 5) = true := zz29.mpr c4
    have c4b1 : (a0_0 != 5) = false := zz26.mpr c4
    clear c4
    obtain rfl := Option.some.inj H
    go_enter Tryz.func113, Tryz.ntmps113
    go_wp2_with (first|((with_reducible refine zz24 (N:=1) rfl ?_);refine zz30 ?hg (N:=1) ?hd (cs:=#[.int .i64 a0_0,.bool a0_1]) (t:=32) ?hr ?_;(case hd=>rfl);(case hg=>rfl);(case hr=>first|(go_simp;done)|(go_simp;rfl));intro gb164 hg w5 hbox hb;have n0_:=zz00 (zz21 (by repeat (first|(with_reducible first|exact HB.out|apply zz03|apply zz01|apply zz02)|exact HB.out)) hb);have n1_:=zz00 (hbox);have n2_:=zz00 ((by rw [hg];exact (zz22 (by repeat (first|(with_reducible first|exact HB.out|apply zz03|apply zz01|apply zz02)|exact HB.out))) : w.heap.size ≤ gb164));have n3_:=zz00 ((by rw [hg];exact (zz22 (by repeat (first|(with_reducible first|exact HB.out|apply zz03|apply zz01|apply zz02)|exact HB.out))) : w.heap.size ≤ gb164));clear HB;have HB:=n0_;have BK164:=n1_;have GW164:=n2_;have GE164:=n3_;clear n0_ n1_ n2_ n3_;clear hb hbox hg;have hcz6_0 : w5.cell? ⟨gb164,0,none⟩ = some (.int .i64 a0_0):=(zz18 BK164.out 0).trans rfl;have hcz6_1 : w5.cell? ⟨gb164,1,none⟩ = some (.bool a0_1):=(zz18 BK164.out 1).trans rfl;have hfz6_0:=zz17 BK164.out 0;have hfz6_1:=zz17 BK164.out 1))
    go_ret
    exact ⟨by first|rfl|(simp [errW_none,errW_some] <;> rfl)|(simp [*,errW_none,errW_some] <;> rfl),by repeat (first|(with_reducible first|exact HB.out|apply zz03|apply zz01|apply zz02|refine zz10 ?_ GE164.out)|exact HB.out)⟩
   ·
    rw [if_neg c4] at H
    have c4b0 : (a0_0 == 5) = false := zz27.mpr c4
    have c4b1 : (a0_0 != 5) = true := zz28.mpr c4
    obtain rfl := Option.some.inj H
    go_enter Tryz.func113, Tryz.ntmps113
    go_wp2_with (first|((with_reducible refine zz24 (N:=1) rfl ?_);refine zz30 ?hg (N:=1) ?hd (cs:=#[.int .i64 a0_0,.bool a0_1]) (t:=32) ?hr ?_;(case hd=>rfl);(case hg=>rfl);(case hr=>first|(go_simp;done)|(go_simp;rfl));intro gb164 hg w7 hbox hb;have n0_:=zz00 (zz21 (by repeat (first|(with_reducible first|exact HB.out|apply zz03|apply zz01|apply zz02)|exact HB.out)) hb);have n1_:=zz00 (hbox);have n2_:=zz00 ((by rw [hg];exact (zz22 (by repeat (first|(with_reducible first|exact HB.out|apply zz03|apply zz01|apply zz02)|exact HB.out))) : w.heap.size ≤ gb164));have n3_:=zz00 ((by rw [hg];exact (zz22 (by repeat (first|(with_reducible first|exact HB.out|apply zz03|apply zz01|apply zz02)|exact HB.out))) : w.heap.size ≤ gb164));clear HB;have HB:=n0_;have BK164:=n1_;have GW164:=n2_;have GE164:=n3_;clear n0_ n1_ n2_ n3_;clear hb hbox hg;have hcz8_0 : w7.cell? ⟨gb164,0,none⟩ = some (.int .i64 a0_0):=(zz18 BK164.out 0).trans rfl;have hcz8_1 : w7.cell? ⟨gb164,1,none⟩ = some (.bool a0_1):=(zz18 BK164.out 1).trans rfl;have hfz8_0:=zz17 BK164.out 0;have hfz8_1:=zz17 BK164.out 1))
    go_ret
    exact ⟨by first|rfl|(simp [errW_none,errW_some] <;> rfl)|(simp [*,errW_none,errW_some] <;> rfl),by repeat (first|(with_reducible first|exact HB.out|apply zz03|apply zz01|apply zz02|refine zz10 ?_ GE164.out)|exact HB.out)⟩
  ·
   rw [if_neg c3] at H
   have c3b0 : decide (a0_0 ≤ 12) = false := decide_eq_false c3
   clear c3
   obtain rfl := Option.some.inj H
   go_enter Tryz.func113, Tryz.ntmps113
   go_wp2_with (first|((with_reducible refine zz24 (N:=1) rfl ?_);refine zz30 ?hg (N:=1) ?hd (cs:=#[.int .i64 a0_0,.bool a0_1]) (t:=32) ?hr ?_;(case hd=>rfl);(case hg=>rfl);(case hr=>first|(go_simp;done)|(go_simp;rfl));intro gb164 hg w9 hbox hb;have n0_:=zz00 (zz21 (by repeat (first|(with_reducible first|exact HB.out|apply zz03|apply zz01|apply zz02)|exact HB.out)) hb);have n1_:=zz00 (hbox);have n2_:=zz00 ((by rw [hg];exact (zz22 (by repeat (first|(with_reducible first|exact HB.out|apply zz03|apply zz01|apply zz02)|exact HB.out))) : w.heap.size ≤ gb164));have n3_:=zz00 ((by rw [hg];exact (zz22 (by repeat (first|(with_reducible first|exact HB.out|apply zz03|apply zz01|apply zz02)|exact HB.out))) : w.heap.size ≤ gb164));clear HB;have HB:=n0_;have BK164:=n1_;have GW164:=n2_;have GE164:=n3_;clear n0_ n1_ n2_ n3_;clear hb hbox hg;have hcz10_0 : w9.cell? ⟨gb164,0,none⟩ = some (.int .i64 a0_0):=(zz18 BK164.out 0).trans rfl;have hcz10_1 : w9.cell? ⟨gb164,1,none⟩ = some (.bool a0_1):=(zz18 BK164.out 1).trans rfl;have hfz10_0:=zz17 BK164.out 0;have hfz10_1:=zz17 BK164.out 1))
   go_ret
   exact ⟨by first|rfl|(simp [errW_none,errW_some] <;> rfl)|(simp [*,errW_none,errW_some] <;> rfl),by repeat (first|(with_reducible first|exact HB.out|apply zz03|apply zz01|apply zz02|refine zz10 ?_ GE164.out)|exact HB.out)⟩
 ·
  rw [if_neg c2] at H
  have c2b0 : decide (0 < a0_0) = false := decide_eq_false c2
  clear c2
  obtain rfl := Option.some.inj H
  go_enter Tryz.func113, Tryz.ntmps113
  go_wp2_with (first|((with_reducible refine zz24 (N:=1) rfl ?_);refine zz30 ?hg (N:=1) ?hd (cs:=#[.int .i64 a0_0,.bool a0_1]) (t:=32) ?hr ?_;(case hd=>rfl);(case hg=>rfl);(case hr=>first|(go_simp;done)|(go_simp;rfl));intro gb164 hg w11 hbox hb;have n0_:=zz00 (zz21 (by repeat (first|(with_reducible first|exact HB.out|apply zz03|apply zz01|apply zz02)|exact HB.out)) hb);have n1_:=zz00 (hbox);have n2_:=zz00 ((by rw [hg];exact (zz22 (by repeat (first|(with_reducible first|exact HB.out|apply zz03|apply zz01|apply zz02)|exact HB.out))) : w.heap.size ≤ gb164));have n3_:=zz00 ((by rw [hg];exact (zz22 (by repeat (first|(with_reducible first|exact HB.out|apply zz03|apply zz01|apply zz02)|exact HB.out))) : w.heap.size ≤ gb164));clear HB;have HB:=n0_;have BK164:=n1_;have GW164:=n2_;have GE164:=n3_;clear n0_ n1_ n2_ n3_;clear hb hbox hg;have hcz12_0 : w11.cell? ⟨gb164,0,none⟩ = some (.int .i64 a0_0):=(zz18 BK164.out 0).trans rfl;have hcz12_1 : w11.cell? ⟨gb164,1,none⟩ = some (.bool a0_1):=(zz18 BK164.out 1).trans rfl;have hfz12_0:=zz17 BK164.out 0;have hfz12_1:=zz17 BK164.out 1))
  go_ret
  exact ⟨by first|rfl|(simp [errW_none,errW_some] <;> rfl)|(simp [*,errW_none,errW_some] <;> rfl),by repeat (first|(with_reducible first|exact HB.out|apply zz03|apply zz01|apply zz02|refine zz10 ?_ GE164.out)|exact HB.out)⟩

def code_Place.j0 : Nat → Bool → Bool → Int → Bool → Option (Int × Bool)
  | 0, _, _, _, _ => none
  | k + 1, x0, x6, x166000, x166001 => if x6 = true then (some (0, false)) else (if x0 = true then (if x166001 = true then (some (wrap64 (x166000 + 1), true)) else (if x166000 > 5 then (some (wrap64 (x166000 + 1), true)) else (some (x166000, true)))) else (some (x166000, true)))
def code_Place.f (k : Nat) (a0 : Bool) (a1_0 : Int) (a1_1 : Bool) : Option (Int × Bool) := (code_Right.f a1_0 a1_1).bind fun t166 => (if t166 = true then (if a1_1 = true then (code_Place.j0 k a0 (!a0) a1_0 a1_1) else (code_Place.j0 k a0 false a1_0 a1_1)) else (code_Place.j0 k a0 true a1_0 a1_1))
theorem code_Place.mono_l : ∀ k, (∀ y0 y1 y2 y3, LeO (code_Place.j0 k y0 y1 y2 y3) (code_Place.j0 (k + 1) y0 y1 y2 y3))
 | 0 => fun _ _ _ _ r h => by simp [code_Place.j0] at h
 | k + 1 => by
  have ih0 := code_Place.mono_l k
  ·
   intro y0 y1 y2 y3
   unfold code_Place.j0
   repeat' first
   | (with_reducible exact ih0 _ _ _ _)
   | (with_reducible exact LeO.refl _)
   | (with_reducible exact LeO.none _)
   | (with_reducible refine LeO.ite ?_ ?_)
   | (with_reducible refine LeO.bind ?_ (fun _ => ?_))
   | exact ih0 _ _ _ _
   | exact LeO.none _
   | refine LeO.ite ?_ ?_
   | refine LeO.bind ?_ (fun _ => ?_)
theorem code_Place.mono : ∀ a0 a1 a2 k, LeO (code_Place.f k a0 a1 a2) (code_Place.f (k + 1) a0 a1 a2) := by
 intro a0 a1 a2 k
 have ih0 := code_Place.mono_l k
 unfold code_Place.f
 repeat' first
   | (with_reducible exact ih0 _ _ _ _)
   | (with_reducible exact LeO.refl _)
   | (with_reducible exact LeO.none _)
   | (with_reducible refine LeO.ite ?_ ?_)
   | (with_reducible refine LeO.bind ?_ (fun _ => ?_))
   | exact ih0 _ _ _ _
   | exact LeO.none _
   | refine LeO.ite ?_ ?_
   | refine LeO.bind ?_ (fun _ => ?_)
set_option maxHeartbeats 8000000 in
set_option maxRecDepth 100000 in
theorem code_Place.calls (k : Nat) (a0 : Bool) (a1_0 : Int) (a1_1 : Bool) (r1 : Int) (r2 : Bool) (w : World) (h : code_Place.f k a0 a1_0 a1_1 = some (r1, r2)) :
  Calls Tryz.prog 149 #[.bool a0, .agg #[.int .i64 a1_0, .bool a1_1]] w fun e w' => e = .returned (.tuple #[.int .i64 r1, .bool r2]) ∧ Below w.heap.size w w' := by
 have hu32 := Tryz.underlying32
 have HB := zz00 (Below.refl w.heap.size w)
 have H : ((code_Right.f a1_0 a1_1).bind fun t166=>(if t166 = true then (if a1_1 = true then (code_Place.j0 k a0 (!a0) a1_0 a1_1) else (code_Place.j0 k a0 false a1_0 a1_1)) else (code_Place.j0 k a0 true a1_0 a1_1))) = some (r1,r2):=h
 clear h
 have HC3 := zz00 H
 clear H
 go_enter Tryz.func149, Tryz.ntmps149
 go_upto_region 1 with (first|((with_reducible refine zz24 (N:=3) rfl ?_);refine zz30 ?hg (N:=3) ?hd (cs:=#[.int .i64 a1_0,.bool a1_1]) (t:=32) ?hr ?_;(case hd=>rfl);(case hg=>rfl);(case hr=>first|(go_simp;done)|(go_simp;rfl));intro gb165 hg w4 hbox hb;have n0_:=zz00 (zz21 (by repeat (first|(with_reducible first|exact HB.out|apply zz03|apply zz01|apply zz02)|exact HB.out)) hb);have n1_:=zz00 (hbox);have n2_:=zz00 ((by rw [hg];exact (zz22 (by repeat (first|(with_reducible first|exact HB.out|apply zz03|apply zz01|apply zz02)|exact HB.out))) : w.heap.size ≤ gb165));have n3_:=zz00 ((by rw [hg];exact (zz22 (by repeat (first|(with_reducible first|exact HB.out|apply zz03|apply zz01|apply zz02)|exact HB.out))) : w.heap.size ≤ gb165));clear HB;have HB:=n0_;have BK165:=n1_;have GW165:=n2_;have GE165:=n3_;clear n0_ n1_ n2_ n3_;clear hb hbox hg))
 (try simp only [Act.put, zz11, zz12, zz13])
 go_cut [6] (fun v6 wc=>∃ (kq : Nat) (x6_2 : Bool),v6 = .bool x6_2 ∧ Aside0 (code_Place.j0 kq a0 x6_2 a1_0 a1_1 = some (r1,r2)) ∧ Aside0 (kq ≤ k) ∧ Aside0 (wc.heap[gb165]? = some (.cells #[.int .i64 a1_0,.bool a1_1] 32 (0,0))) ∧ Aside0 (Below w.heap.size w wc))
 case first =>
  have H := HC3.out
  clear HC3
  replace H := zz14.mp H
  obtain ⟨t166, A50, H⟩ := H
  replace H : (if t166 = true then (if a1_1 = true then (code_Place.j0 k a0 (!a0) a1_0 a1_1) else (code_Place.j0 k a0 false a1_0 a1_1)) else (code_Place.j0 k a0 true a1_0 a1_1)) = some (r1, r2) := H
  have A5 := zz00 A50
  clear A50
  by_cases c6 : t166 = true
  ·
   subst c6
   have H1 : (if a1_1 = true then (code_Place.j0 k a0 (!a0) a1_0 a1_1) else (code_Place.j0 k a0 false a1_0 a1_1)) = some (r1, r2) := by rw [if_pos rfl] at H; exact H
   clear H
   have H := H1
   clear H1
   by_cases c7 : a1_1 = true
   ·
    subst c7
    have H1 : (code_Place.j0 k a0 (!a0) a1_0 true) = some (r1, r2) := by rw [if_pos rfl] at H; exact H
    clear H
    have H := H1
    clear H1
    have H' := zz00 H
    clear H
    have hcz8_0 : w4.cell? ⟨gb165, 0, none⟩ = some (.int .i64 a1_0) := (zz18 BK165.out 0).trans rfl
    have hcz8_1 : w4.cell? ⟨gb165, 1, none⟩ = some (.bool true) := (zz18 BK165.out 1).trans rfl
    have hfz8_0 := zz17 BK165.out 0
    have hfz8_1 := zz17 BK165.out 1
    go_wp2_with (first|((with_reducible refine zz23 (f:=113) rfl ?_);refine zz25 (some 8) rfl rfl Tryz.func113 (by kernel_rfl) rfl #[.agg #[.int .i64 a1_0,.bool true]] rfl (by (try simp only [List.map_toArray,List.map_cons,List.map_nil]);first|done|rfl|(simp only [List.length_drop,List.length_take];rfl)) ?_;(with_reducible refine (code_Right.calls a1_0 true true _ A5.out).mono ?_);rintro e w9 ⟨rfl,hb⟩;refine ⟨_,rfl,?_⟩;have n0_:=zz00 (zz34 (g:=gb165) (o:=.cells #[.int .i64 a1_0,.bool true] 32 (0,0)) (by (with_reducible repeat (first|refine zz07 ?_ _|refine zz09 ?_|refine zz08 ?_ _));exact BK165.out) hb);have n1_:=zz00 (zz21 (by repeat (first|(with_reducible first|exact HB.out|apply zz03|apply zz01|apply zz02|refine zz10 ?_ GE165.out)|exact HB.out)) hb);clear BK165;clear HB;have BK165:=n0_;have HB:=n1_;clear n0_ n1_;(try clear hb);(try clear hb2);(try clear hk);(try clear hi);have hcz10_0 : w9.cell? ⟨gb165,0,none⟩ = some (.int .i64 a1_0):=(zz18 BK165.out 0).trans rfl;have hcz10_1 : w9.cell? ⟨gb165,1,none⟩ = some (.bool true):=(zz18 BK165.out 1).trans rfl;have hfz10_0:=zz17 BK165.out 0;have hfz10_1:=zz17 BK165.out 1))
    go_meet
    case rel=>exact ⟨_,(!a0),(by first|rfl|(simp;done)|(simp [*];done)),H',⟨by first|omega|exact Nat.le_refl _⟩,⟨by (with_reducible repeat (first|refine zz07 ?_ _|refine zz09 ?_|refine zz08 ?_ _));exact BK165.out⟩,⟨by repeat (first|(with_reducible first|exact HB.out|apply zz03|apply zz01|apply zz02|refine zz10 ?_ GE165.out)|exact HB.out)⟩⟩
   ·
    replace c7 := zz32.mpr c7
    subst c7
    have H1 : (code_Place.j0 k a0 false a1_0 false) = some (r1, r2) := by rw [if_neg (show ¬ (false = true) by decide)] at H; exact H
    clear H
    have H := H1
    clear H1
    have H' := zz00 H
    clear H
    have hcz11_0 : w4.cell? ⟨gb165, 0, none⟩ = some (.int .i64 a1_0) := (zz18 BK165.out 0).trans rfl
    have hcz11_1 : w4.cell? ⟨gb165, 1, none⟩ = some (.bool false) := (zz18 BK165.out 1).trans rfl
    have hfz11_0 := zz17 BK165.out 0
    have hfz11_1 := zz17 BK165.out 1
    go_wp2_with (first|((with_reducible refine zz23 (f:=113) rfl ?_);refine zz25 (some 8) rfl rfl Tryz.func113 (by kernel_rfl) rfl #[.agg #[.int .i64 a1_0,.bool false]] rfl (by (try simp only [List.map_toArray,List.map_cons,List.map_nil]);first|done|rfl|(simp only [List.length_drop,List.length_take];rfl)) ?_;(with_reducible refine (code_Right.calls a1_0 false true _ A5.out).mono ?_);rintro e w12 ⟨rfl,hb⟩;refine ⟨_,rfl,?_⟩;have n0_:=zz00 (zz34 (g:=gb165) (o:=.cells #[.int .i64 a1_0,.bool false] 32 (0,0)) (by (with_reducible repeat (first|refine zz07 ?_ _|refine zz09 ?_|refine zz08 ?_ _));exact BK165.out) hb);have n1_:=zz00 (zz21 (by repeat (first|(with_reducible first|exact HB.out|apply zz03|apply zz01|apply zz02|refine zz10 ?_ GE165.out)|exact HB.out)) hb);clear BK165;clear HB;have BK165:=n0_;have HB:=n1_;clear n0_ n1_;(try clear hb);(try clear hb2);(try clear hk);(try clear hi);have hcz13_0 : w12.cell? ⟨gb165,0,none⟩ = some (.int .i64 a1_0):=(zz18 BK165.out 0).trans rfl;have hcz13_1 : w12.cell? ⟨gb165,1,none⟩ = some (.bool false):=(zz18 BK165.out 1).trans rfl;have hfz13_0:=zz17 BK165.out 0;have hfz13_1:=zz17 BK165.out 1))
    go_meet
    case rel=>exact ⟨_,(false),(by first|rfl|(simp;done)|(simp [*];done)),H',⟨by first|omega|exact Nat.le_refl _⟩,⟨by (with_reducible repeat (first|refine zz07 ?_ _|refine zz09 ?_|refine zz08 ?_ _));exact BK165.out⟩,⟨by repeat (first|(with_reducible first|exact HB.out|apply zz03|apply zz01|apply zz02|refine zz10 ?_ GE165.out)|exact HB.out)⟩⟩
  ·
   replace c6 := zz32.mpr c6
   subst c6
   have H1 : (code_Place.j0 k a0 true a1_0 a1_1) = some (r1, r2) := by rw [if_neg (show ¬ (false = true) by decide)] at H; exact H
   clear H
   have H := H1
   clear H1
   have H' := zz00 H
   clear H
   have hcz14_0 : w4.cell? ⟨gb165, 0, none⟩ = some (.int .i64 a1_0) := (zz18 BK165.out 0).trans rfl
   have hcz14_1 : w4.cell? ⟨gb165, 1, none⟩ = some (.bool a1_1) := (zz18 BK165.out 1).trans rfl
   have hfz14_0 := zz17 BK165.out 0
   have hfz14_1 := zz17 BK165.out 1
   go_wp2_with (first|((with_reducible refine zz23 (f:=113) rfl ?_);refine zz25 (some 8) rfl rfl Tryz.func113 (by kernel_rfl) rfl #[.agg #[.int .i64 a1_0,.bool a1_1]] rfl (by (try simp only [List.map_toArray,List.map_cons,List.map_nil]);first|done|rfl|(simp only [List.length_drop,List.length_take];rfl)) ?_;(with_reducible refine (code_Right.calls a1_0 a1_1 false _ A5.out).mono ?_);rintro e w15 ⟨rfl,hb⟩;refine ⟨_,rfl,?_⟩;have n0_:=zz00 (zz34 (g:=gb165) (o:=.cells #[.int .i64 a1_0,.bool a1_1] 32 (0,0)) (by (with_reducible repeat (first|refine zz07 ?_ _|refine zz09 ?_|refine zz08 ?_ _));exact BK165.out) hb);have n1_:=zz00 (zz21 (by repeat (first|(with_reducible first|exact HB.out|apply zz03|apply zz01|apply zz02|refine zz10 ?_ GE165.out)|exact HB.out)) hb);clear BK165;clear HB;have BK165:=n0_;have HB:=n1_;clear n0_ n1_;(try clear hb);(try clear hb2);(try clear hk);(try clear hi)))
   go_meet
   case rel=>exact ⟨_,(true),(by first|rfl|(simp;done)|(simp [*];done)),H',⟨by first|omega|exact Nat.le_refl _⟩,⟨by (with_reducible repeat (first|refine zz07 ?_ _|refine zz09 ?_|refine zz08 ?_ _));exact BK165.out⟩,⟨by repeat (first|(with_reducible first|exact HB.out|apply zz03|apply zz01|apply zz02|refine zz10 ?_ GE165.out)|exact HB.out)⟩⟩
 case rest =>
  clear HC3
  try clear c1
  try clear p2
  try clear c6
  try clear c7
  try clear c11
  try clear c14
  try clear hcz10_0
  try clear hcz10_1
  try clear hcz11_0
  try clear hcz11_1
  try clear hcz13_0
  try clear hcz13_1
  try clear hcz14_0
  try clear hcz14_1
  try clear hcz8_0
  try clear hcz8_1
  try clear hfz10_0
  try clear hfz10_1
  try clear hfz11_0
  try clear hfz11_1
  try clear hfz13_0
  try clear hfz13_1
  try clear hfz14_0
  try clear hfz14_1
  try clear hfz8_0
  try clear hfz8_1
  obtain ⟨kq, x6_2, rfl, HA, HJ2, BK165, HB⟩ := hcut
  cases kq with
  | zero => exact absurd HA.out (by simp [code_Place.j0])
  | succ kj2 =>
   have H := HA.out
   clear HA
   simp only [code_Place.j0] at H
   by_cases c16 : x6_2 = true
   ·
    subst c16
    have H1 : (some (0, false)) = some (r1, r2) := by rw [if_pos rfl] at H; exact H
    clear H
    have H := H1
    clear H1
    simp only [zz15, zz16] at H
    obtain ⟨rfl, rfl⟩ := H
    go_wp2
    go_ret2
    exact ⟨by first|rfl|(simp [errW_none,errW_some] <;> rfl)|(simp [*,errW_none,errW_some] <;> rfl),by repeat (first|(with_reducible first|exact HB.out|apply zz03|apply zz01|apply zz02|refine zz10 ?_ GE165.out)|exact HB.out)⟩
   ·
    replace c16 := zz32.mpr c16
    subst c16
    have H1 : (if a0 = true then (if a1_1 = true then (some (wrap64 (a1_0 + 1),true)) else (if a1_0 > 5 then (some (wrap64 (a1_0 + 1),true)) else (some (a1_0,true)))) else (some (a1_0,true))) = some (r1,r2):=by rw [if_neg (show ¬ (false = true) by decide)] at H;exact H
    clear H
    have H := H1
    clear H1
    by_cases c17 : a0 = true
    ·
     subst c17
     have H1 : (if a1_1 = true then (some (wrap64 (a1_0 + 1),true)) else (if a1_0 > 5 then (some (wrap64 (a1_0 + 1),true)) else (some (a1_0,true)))) = some (r1,r2):=by rw [if_pos rfl] at H;exact H
     clear H
     have H := H1
     clear H1
     by_cases c18 : a1_1 = true
     ·
      subst c18
      have H1 : (some (wrap64 (a1_0 + 1), true)) = some (r1, r2) := by rw [if_pos rfl] at H; exact H
      clear H
      have H := H1
      clear H1
      simp only [zz15, zz16] at H
      obtain ⟨rfl, rfl⟩ := H
      have hcz19_0 : wc.cell? ⟨gb165, 0, none⟩ = some (.int .i64 a1_0) := (zz18 BK165.out 0).trans rfl
      have hcz19_1 : wc.cell? ⟨gb165, 1, none⟩ = some (.bool true) := (zz18 BK165.out 1).trans rfl
      have hfz19_0 := zz17 BK165.out 0
      have hfz19_1 := zz17 BK165.out 1
      go_wp2
      go_ret2
      exact ⟨by first|rfl|(simp [errW_none,errW_some] <;> rfl)|(simp [*,errW_none,errW_some] <;> rfl),by repeat (first|(with_reducible first|exact HB.out|apply zz03|apply zz01|apply zz02|refine zz10 ?_ GE165.out)|exact HB.out)⟩
     ·
      replace c18 := zz32.mpr c18
      subst c18
      have H1 : (if a1_0 > 5 then (some (wrap64 (a1_0 + 1), true)) else (some (a1_0, true))) = some (r1, r2) := by rw [if_neg (show ¬ (false = true) by decide)] at H; exact H
      clear H
      have H := H1
      clear H1
      by_cases c20 : a1_0 > 5
      ·
       rw [if_pos c20] at H
       have c20b0 : decide (5 < a1_0) = true := decide_eq_true c20
       clear c20
       simp only [zz15, zz16] at H
       obtain ⟨rfl, rfl⟩ := H
       have hcz21_0 : wc.cell? ⟨gb165, 0, none⟩ = some (.int .i64 a1_0) := (zz18 BK165.out 0).trans rfl
       have hcz21_1 : wc.cell? ⟨gb165, 1, none⟩ = some (.bool false) := (zz18 BK165.out 1).trans rfl
       have hfz21_0 := zz17 BK165.out 0
       have hfz21_1 := zz17 BK165.out 1
       go_wp2
       go_ret2
       exact ⟨by first|rfl|(simp [errW_none,errW_some] <;> rfl)|(simp [*,errW_none,errW_some] <;> rfl),by repeat (first|(with_reducible first|exact HB.out|apply zz03|apply zz01|apply zz02|refine zz10 ?_ GE165.out)|exact HB.out)⟩
      ·
       rw [if_neg c20] at H
       have c20b0 : decide (5 < a1_0) = false := decide_eq_false c20
       clear c20
       simp only [zz15, zz16] at H
       obtain ⟨rfl, rfl⟩ := H
       have hcz22_0 : wc.cell? ⟨gb165, 0, none⟩ = some (.int .i64 a1_0) := (zz18 BK165.out 0).trans rfl
       have hcz22_1 : wc.cell? ⟨gb165, 1, none⟩ = some (.bool false) := (zz18 BK165.out 1).trans rfl
       have hfz22_0 := zz17 BK165.out 0
       have hfz22_1 := zz17 BK165.out 1
       go_wp2
       go_ret2
       exact ⟨by first|rfl|(simp [errW_none,errW_some] <;> rfl)|(simp [*,errW_none,errW_some] <;> rfl),by repeat (first|(with_reducible first|exact HB.out|apply zz03|apply zz01|apply zz02|refine zz10 ?_ GE165.out)|exact HB.out)⟩
    ·
     replace c17 := zz32.mpr c17
     subst c17
     have H1 : (some (a1_0, true)) = some (r1, r2) := by rw [if_neg (show ¬ (false = true) by decide)] at H; exact H
     clear H
     have H := H1
     clear H1
     simp only [zz15, zz16] at H
     obtain ⟨rfl, rfl⟩ := H
     have hcz23_0 : wc.cell? ⟨gb165, 0, none⟩ = some (.int .i64 a1_0) := (zz18 BK165.out 0).trans rfl
     have hcz23_1 : wc.cell? ⟨gb165, 1, none⟩ = some (.bool a1_1) := (zz18 BK165.out 1).trans rfl
     have hfz23_0 := zz17 BK165.out 0
     have hfz23_1 := zz17 BK165.out 1
     go_wp2
     go_ret2
     exact ⟨by first|rfl|(simp [errW_none,errW_some] <;> rfl)|(simp [*,errW_none,errW_some] <;> rfl),by repeat (first|(with_reducible first|exact HB.out|apply zz03|apply zz01|apply zz02|refine zz10 ?_ GE165.out)|exact HB.out)⟩

end Go.Proofs.YtflpddhoiafhcaaGreatDoor.S
end

section
-- Written by wip/hprint.py of this repo (holes typed by hand, all else by a program) over the seat YtflpddhoiafhcaaGreatDoor.
namespace Go.Proofs.YtflpddhoiafhcaaGreatDoor.S
open Go.Proofs.YtflpddhoiafhcaaGreatDoor.H
open Go.RowKit Go.Proofs.YtflpddhoiafhcaaGreatDoorW.PrintWords Go.Proofs.YtflpddhoiafhcaaGreatDoorW.PrintLast Go.Proofs.YtflpddhoiafhcaaGreatDoorW.PrintMore
attribute [local go_sem] max2_int min2_int max_two min_two max_three min_three max_four min_four   -- for this text's walks alone
set_option linter.unusedVariables false
set_option linter.unusedSimpArgs false

def heb_find.f (k : Nat) (a0 : Int) (a1_0 : Int) (a1_1 : Bool) : Option (Int × Int × Bool × Int × Int) := (keviah_Of.f k a0).bind fun bt169 => (if bt169.2.2.2 = 0 then ((code_Place.f k bt169.2.2.1 a1_0 a1_1).bind fun bt174 => (if bt174.2 = true then (some (bt169.1, bt169.2.1, bt169.2.2.1, bt174.1, 0)) else (some (0, 0, false, 0, 3)))) else (some (0, 0, false, 0, bt169.2.2.2)))
theorem heb_find.mono : ∀ a0 a1 a2 k, LeO (heb_find.f k a0 a1 a2) (heb_find.f (k + 1) a0 a1 a2) := by
 intro a0 a1 a2 k
 unfold heb_find.f
 repeat' first
   | (with_reducible exact code_Place.mono _ _ _ _)
   | (with_reducible exact keviah_Of.mono _ _)
   | (with_reducible exact LeO.refl _)
   | (with_reducible exact LeO.none _)
   | (with_reducible refine LeO.ite ?_ ?_)
   | (with_reducible refine LeO.bind ?_ (fun _ => ?_))
   | exact code_Place.mono _ _ _ _
   | exact keviah_Of.mono _ _
   | exact LeO.none _
   | refine LeO.ite ?_ ?_
   | refine LeO.bind ?_ (fun _ => ?_)
set_option maxHeartbeats 8000000 in
set_option maxRecDepth 100000 in
theorem heb_find.calls (k : Nat) (a0 : Int) (a1_0 : Int) (a1_1 : Bool) (r1 : Int) (r2 : Int) (r3 : Bool) (r4 : Int) (r5 : Int) (w : World) (h : heb_find.f k a0 a1_0 a1_1 = some (r1, r2, r3, r4, r5)) :
  Calls Tryz.prog 101 #[.int .i64 a0,.agg #[.int .i64 a1_0,.bool a1_1]] w fun e w'=>e = .returned (.tuple #[.agg #[.int .i64 r1,.int .i64 r2,.bool r3,.int .i64 r4],.int .i64 r5]) ∧ Below w.heap.size w w':=by
 have hu32 := Tryz.underlying32
 have hu95 := Tryz.underlying95
 have hu93 := Tryz.underlying93
 have HB := zz00 (Below.refl w.heap.size w)
 have H : ((keviah_Of.f k a0).bind fun bt169=>(if bt169.2.2.2 = 0 then ((code_Place.f k bt169.2.2.1 a1_0 a1_1).bind fun bt174=>(if bt174.2 = true then (some (bt169.1,bt169.2.1,bt169.2.2.1,bt174.1,0)) else (some (0,0,false,0,3)))) else (some (0,0,false,0,bt169.2.2.2)))) = some (r1,r2,r3,r4,r5):=h
 clear h
 replace H := zz14.mp H
 obtain ⟨⟨t169, t170, t171, t172⟩, A30, H⟩ := H
 replace H : (if t172 = 0 then ((code_Place.f k t171 a1_0 a1_1).bind fun bt174=>(if bt174.2 = true then (some (t169,t170,t171,bt174.1,0)) else (some (0,0,false,0,3)))) else (some (0,0,false,0,t172))) = some (r1,r2,r3,r4,r5):=H
 have A3 := zz00 A30
 clear A30
 by_cases c4 : t172 = 0
 ·
  rw [if_pos c4] at H
  have c4b0 : (t172 == 0) = true := zz29.mpr c4
  have c4b1 : (t172 != 0) = false := zz26.mpr c4
  clear c4
  replace H := zz14.mp H
  obtain ⟨⟨t174, t175⟩, A50, H⟩ := H
  replace H : (if t175 = true then (some (t169, t170, t171, t174, 0)) else (some (0, 0, false, 0, 3))) = some (r1, r2, r3, r4, r5) := H
  have A5 := zz00 A50
  clear A50
  by_cases c6 : t175 = true
  ·
   subst c6
   have H1 : (some (t169, t170, t171, t174, 0)) = some (r1, r2, r3, r4, r5) := by rw [if_pos rfl] at H; exact H
   clear H
   have H := H1
   clear H1
   simp only [zz15, zz16] at H
   obtain ⟨rfl, rfl, rfl, rfl, rfl⟩ := H
   go_enter Tryz.func101, Tryz.ntmps101
   go_wp2_with (first|((with_reducible refine zz24 (N:=3) rfl ?_);refine zz30 ?hg (N:=3) ?hd (cs:=#[.int .i64 a1_0,.bool a1_1]) (t:=32) ?hr ?_;(case hd=>rfl);(case hg=>rfl);(case hr=>first|(go_simp;done)|(go_simp;rfl));intro gb167 hg w7 hbox hb;have n0_:=zz00 (zz21 (by repeat (first|(with_reducible first|exact HB.out|apply zz03|apply zz01|apply zz02)|exact HB.out)) hb);have n1_:=zz00 (hbox);have n2_:=zz00 ((by rw [hg];exact (zz22 (by repeat (first|(with_reducible first|exact HB.out|apply zz03|apply zz01|apply zz02)|exact HB.out))) : w.heap.size ≤ gb167));have n3_:=zz00 ((by rw [hg];exact (zz22 (by repeat (first|(with_reducible first|exact HB.out|apply zz03|apply zz01|apply zz02)|exact HB.out))) : w.heap.size ≤ gb167));clear HB;have HB:=n0_;have BK167:=n1_;have GW167:=n2_;have GE167:=n3_;clear n0_ n1_ n2_ n3_;clear hb hbox hg)|((with_reducible refine zz24 (N:=4) rfl ?_);refine zz30 ?hg (N:=4) ?hd (cs:=#[.int .i64 0,.int .i64 0,.bool false,.int .i64 0]) (t:=95) ?hr ?_;(case hd=>rfl);(case hg=>rfl);(case hr=>first|(go_simp;done)|(go_simp;rfl));intro gb168 hg w8 hbox hb;have n0_:=zz00 (zz34 (g:=gb167) (o:=.cells #[.int .i64 a1_0,.bool a1_1] 32 (0,0)) (by (with_reducible repeat (first|refine zz07 ?_ _|refine zz09 ?_|refine zz08 ?_ _));exact BK167.out) hb);have n1_:=zz00 (zz21 (by repeat (first|(with_reducible first|exact HB.out|apply zz03|apply zz01|apply zz02|refine zz10 ?_ GE167.out)|exact HB.out)) hb);have n2_:=zz00 (hbox);have n3_:=zz00 ((by rw [hg];exact (zz22 (by repeat (first|(with_reducible first|exact HB.out|apply zz03|apply zz01|apply zz02|refine zz10 ?_ GE167.out)|exact HB.out))) : w.heap.size ≤ gb168));have n4_:=zz00 ((by rw [hg];exact (zz22 (by repeat (first|(with_reducible first|exact HB.out|apply zz03|apply zz01|apply zz02|refine zz10 ?_ GE167.out)|exact HB.out))) : w.heap.size ≤ gb168));have n5_:=zz00 ((by rw [hg];exact Nat.ne_of_lt (blk_lt (g:=gb167) (o:=.cells #[.int .i64 a1_0,.bool a1_1] 32 (0,0)) (by (with_reducible repeat (first|refine zz07 ?_ _|refine zz09 ?_|refine zz08 ?_ _));exact BK167.out)) : gb167 ≠ gb168));have n6_:=zz00 ((by rw [hg];exact Nat.ne_of_gt (blk_lt (g:=gb167) (o:=.cells #[.int .i64 a1_0,.bool a1_1] 32 (0,0)) (by (with_reducible repeat (first|refine zz07 ?_ _|refine zz09 ?_|refine zz08 ?_ _));exact BK167.out)) : gb168 ≠ gb167));clear BK167;clear HB;have BK167:=n0_;have HB:=n1_;have BK168:=n2_;have GW168:=n3_;have GE168:=n4_;have NB167_168:=n5_;have NB168_167:=n6_;clear n0_ n1_ n2_ n3_ n4_ n5_ n6_;clear hb hbox hg)|((with_reducible refine zz23 (f:=93) rfl ?_);refine zz25 (some 12) rfl rfl Tryz.func93 (by kernel_rfl) rfl #[.int .i64 a0] rfl (by (try simp only [List.map_toArray,List.map_cons,List.map_nil]);first|done|rfl|(simp only [List.length_drop,List.length_take];rfl)) ?_;(with_reducible refine (keviah_Of.calls k a0 t169 t170 t171 t172 _ A3.out).mono ?_);rintro e w9 ⟨rfl,hb⟩;refine ⟨_,rfl,?_⟩;have n0_:=zz00 (zz34 (g:=gb167) (o:=.cells #[.int .i64 a1_0,.bool a1_1] 32 (0,0)) (by (with_reducible repeat (first|refine zz07 ?_ _|refine zz09 ?_|refine zz08 ?_ _));exact BK167.out) hb);have n1_:=zz00 (zz34 (g:=gb168) (o:=.cells #[.int .i64 0,.int .i64 0,.bool false,.int .i64 0] 95 (0,0)) (by (with_reducible repeat (first|refine zz07 ?_ _|refine zz09 ?_|refine zz08 ?_ _));exact BK168.out) hb);have n2_:=zz00 (zz21 (by repeat (first|(with_reducible first|exact HB.out|apply zz03|apply zz01|apply zz02|refine zz10 ?_ GE167.out|refine zz10 ?_ GE168.out)|exact HB.out)) hb);clear BK167;clear BK168;clear HB;have BK167:=n0_;have BK168:=n1_;have HB:=n2_;clear n0_ n1_ n2_;(try clear hb);(try clear hb2);(try clear hk);(try clear hi))|((with_reducible refine zz24 (N:=6) rfl ?_);refine zz30 ?hg (N:=6) ?hd (cs:=#[.int .i64 0,.int .i64 0,.bool false]) (t:=93) ?hr ?_;(case hd=>rfl);(case hg=>rfl);(case hr=>first|(go_simp;done)|(go_simp;rfl));intro gb173 hg w10 hbox hb;have n0_:=zz00 (zz34 (g:=gb167) (o:=.cells #[.int .i64 a1_0,.bool a1_1] 32 (0,0)) (by (with_reducible repeat (first|refine zz07 ?_ _|refine zz09 ?_|refine zz08 ?_ _));exact BK167.out) hb);have n1_:=zz00 (zz34 (g:=gb168) (o:=.cells #[.int .i64 0,.int .i64 0,.bool false,.int .i64 0] 95 (0,0)) (by (with_reducible repeat (first|refine zz07 ?_ _|refine zz09 ?_|refine zz08 ?_ _));exact BK168.out) hb);have n2_:=zz00 (zz21 (by repeat (first|(with_reducible first|exact HB.out|apply zz03|apply zz01|apply zz02|refine zz10 ?_ GE167.out|refine zz10 ?_ GE168.out)|exact HB.out)) hb);have n3_:=zz00 (hbox);have n4_:=zz00 ((by rw [hg];exact (zz22 (by repeat (first|(with_reducible first|exact HB.out|apply zz03|apply zz01|apply zz02|refine zz10 ?_ GE167.out|refine zz10 ?_ GE168.out)|exact HB.out))) : w.heap.size ≤ gb173));have n5_:=zz00 ((by rw [hg];exact (zz22 (by repeat (first|(with_reducible first|exact HB.out|apply zz03|apply zz01|apply zz02|refine zz10 ?_ GE167.out|refine zz10 ?_ GE168.out)|exact HB.out))) : w.heap.size ≤ gb173));have n6_:=zz00 ((by rw [hg];exact Nat.ne_of_lt (blk_lt (g:=gb167) (o:=.cells #[.int .i64 a1_0,.bool a1_1] 32 (0,0)) (by (with_reducible repeat (first|refine zz07 ?_ _|refine zz09 ?_|refine zz08 ?_ _));exact BK167.out)) : gb167 ≠ gb173));have n7_:=zz00 ((by rw [hg];exact Nat.ne_of_gt (blk_lt (g:=gb167) (o:=.cells #[.int .i64 a1_0,.bool a1_1] 32 (0,0)) (by (with_reducible repeat (first|refine zz07 ?_ _|refine zz09 ?_|refine zz08 ?_ _));exact BK167.out)) : gb173 ≠ gb167));have n8_:=zz00 ((by rw [hg];exact Nat.ne_of_lt (blk_lt (g:=gb168) (o:=.cells #[.int .i64 0,.int .i64 0,.bool false,.int .i64 0] 95 (0,0)) (by (with_reducible repeat (first|refine zz07 ?_ _|refine zz09 ?_|refine zz08 ?_ _));exact BK168.out)) : gb168 ≠ gb173));have n9_:=zz00 ((by rw [hg];exact Nat.ne_of_gt (blk_lt (g:=gb168) (o:=.cells #[.int .i64 0,.int .i64 0,.bool false,.int .i64 0] 95 (0,0)) (by (with_reducible repeat (first|refine zz07 ?_ _|refine zz09 ?_|refine zz08 ?_ _));exact BK168.out)) : gb173 ≠ gb168));clear BK167;clear BK168;clear HB;have BK167:=n0_;have BK168:=n1_;have HB:=n2_;have BK173:=n3_;have GW173:=n4_;have GE173:=n5_;have NB167_173:=n6_;have NB173_167:=n7_;have NB168_173:=n8_;have NB173_168:=n9_;clear n0_ n1_ n2_ n3_ n4_ n5_ n6_ n7_ n8_ n9_;clear hb hbox hg;have hnb11:=NB173_167.out;have hnc11:=NB167_173.out;have hnb12:=NB173_168.out;have hnc12:=NB168_173.out;have hcz13_0 : w10.cell? ⟨gb173,0,none⟩ = some (.int .i64 0):=(zz18 BK173.out 0).trans rfl;have hcz13_1 : w10.cell? ⟨gb173,1,none⟩ = some (.int .i64 0):=(zz18 BK173.out 1).trans rfl;have hcz13_2 : w10.cell? ⟨gb173,2,none⟩ = some (.bool false):=(zz18 BK173.out 2).trans rfl;have hfz13_0:=zz17 BK173.out 0;have hfz13_1:=zz17 BK173.out 1;have hfz13_2:=zz17 BK173.out 2;have hnb14:=NB167_168.out;have hnc14:=NB168_167.out;have hcz15_0 : w10.cell? ⟨gb167,0,none⟩ = some (.int .i64 a1_0):=(zz18 BK167.out 0).trans rfl;have hcz15_1 : w10.cell? ⟨gb167,1,none⟩ = some (.bool a1_1):=(zz18 BK167.out 1).trans rfl;have hfz15_0:=zz17 BK167.out 0;have hfz15_1:=zz17 BK167.out 1)|((with_reducible refine zz23 (f:=149) rfl ?_);refine zz25 (some 23) rfl rfl Tryz.func149 (by kernel_rfl) rfl #[.bool t171,.agg #[.int .i64 a1_0,.bool a1_1]] rfl (by (try simp only [List.map_toArray,List.map_cons,List.map_nil]);first|done|rfl|(simp only [List.length_drop,List.length_take];rfl)) ?_;(with_reducible refine (code_Place.calls k t171 a1_0 a1_1 t174 true _ A5.out).mono ?_);rintro e w16 ⟨rfl,hb⟩;refine ⟨_,rfl,?_⟩;have n0_:=zz00 (zz34 (g:=gb167) (o:=.cells #[.int .i64 a1_0,.bool a1_1] 32 (0,0)) (by (with_reducible repeat (first|refine zz07 ?_ _|refine zz09 ?_|refine zz08 ?_ _));refine zz33 ?_ NB167_173.out _;(with_reducible repeat (first|refine zz07 ?_ _|refine zz09 ?_|refine zz08 ?_ _));refine zz33 ?_ NB167_173.out _;(with_reducible repeat (first|refine zz07 ?_ _|refine zz09 ?_|refine zz08 ?_ _));refine zz33 ?_ NB167_173.out _;(with_reducible repeat (first|refine zz07 ?_ _|refine zz09 ?_|refine zz08 ?_ _));exact BK167.out) hb);have n1_:=zz00 (zz34 (g:=gb168) (o:=.cells #[.int .i64 0,.int .i64 0,.bool false,.int .i64 0] 95 (0,0)) (by (with_reducible repeat (first|refine zz07 ?_ _|refine zz09 ?_|refine zz08 ?_ _));refine zz33 ?_ NB168_173.out _;(with_reducible repeat (first|refine zz07 ?_ _|refine zz09 ?_|refine zz08 ?_ _));refine zz33 ?_ NB168_173.out _;(with_reducible repeat (first|refine zz07 ?_ _|refine zz09 ?_|refine zz08 ?_ _));refine zz33 ?_ NB168_173.out _;(with_reducible repeat (first|refine zz07 ?_ _|refine zz09 ?_|refine zz08 ?_ _));exact BK168.out) hb);have n2_:=zz00 (zz34 (g:=gb173) (o:=.cells #[.int .i64 t169,.int .i64 t170,.bool t171] 93 (0,0)) (by (with_reducible repeat (first|refine zz07 ?_ _|refine zz09 ?_|refine zz08 ?_ _));refine zz35 (cs:=#[.int .i64 t169,.int .i64 t170,.bool false]) ?_ 2 _ rfl;(with_reducible repeat (first|refine zz07 ?_ _|refine zz09 ?_|refine zz08 ?_ _));refine zz35 (cs:=#[.int .i64 t169,.int .i64 0,.bool false]) ?_ 1 _ rfl;(with_reducible repeat (first|refine zz07 ?_ _|refine zz09 ?_|refine zz08 ?_ _));refine zz35 (cs:=#[.int .i64 0,.int .i64 0,.bool false]) ?_ 0 _ rfl;(with_reducible repeat (first|refine zz07 ?_ _|refine zz09 ?_|refine zz08 ?_ _));exact BK173.out) hb);have n3_:=zz00 (zz21 (by repeat (first|(with_reducible first|exact HB.out|apply zz03|apply zz01|apply zz02|refine zz10 ?_ GE167.out|refine zz10 ?_ GE168.out|refine zz10 ?_ GE173.out)|exact HB.out)) hb);clear BK167;clear BK168;clear BK173;clear HB;have BK167:=n0_;have BK168:=n1_;have BK173:=n2_;have HB:=n3_;clear n0_ n1_ n2_ n3_;(try clear hb);(try clear hb2);(try clear hk);(try clear hi);have hcz17_0 : w16.cell? ⟨gb173,0,none⟩ = some (.int .i64 t169):=(zz18 BK173.out 0).trans rfl;have hcz17_1 : w16.cell? ⟨gb173,1,none⟩ = some (.int .i64 t170):=(zz18 BK173.out 1).trans rfl;have hcz17_2 : w16.cell? ⟨gb173,2,none⟩ = some (.bool t171):=(zz18 BK173.out 2).trans rfl;have hfz17_0:=zz17 BK173.out 0;have hfz17_1:=zz17 BK173.out 1;have hfz17_2:=zz17 BK173.out 2;have hcz18_0 : w16.cell? ⟨gb168,0,none⟩ = some (.int .i64 0):=(zz18 BK168.out 0).trans rfl;have hcz18_1 : w16.cell? ⟨gb168,1,none⟩ = some (.int .i64 0):=(zz18 BK168.out 1).trans rfl;have hcz18_2 : w16.cell? ⟨gb168,2,none⟩ = some (.bool false):=(zz18 BK168.out 2).trans rfl;have hcz18_3 : w16.cell? ⟨gb168,3,none⟩ = some (.int .i64 0):=(zz18 BK168.out 3).trans rfl;have hfz18_0:=zz17 BK168.out 0;have hfz18_1:=zz17 BK168.out 1;have hfz18_2:=zz17 BK168.out 2;have hfz18_3:=zz17 BK168.out 3))
   refine bodyPost_ret (results_ct rfl _ _ gb168 95 #[.int .i64 t169,.int .i64 t170,.bool t171,.int .i64 t174] (0,0) _ rfl (by (with_reducible repeat (first|refine zz07 ?_ _|refine zz09 ?_|refine zz08 ?_ _));refine zz35 (cs:=#[.int .i64 t169,.int .i64 t170,.bool t171,.int .i64 0]) ?_ 3 _ rfl;(with_reducible repeat (first|refine zz07 ?_ _|refine zz09 ?_|refine zz08 ?_ _));refine zz35 (cs:=#[.int .i64 t169,.int .i64 t170,.bool false,.int .i64 0]) ?_ 2 _ rfl;(with_reducible repeat (first|refine zz07 ?_ _|refine zz09 ?_|refine zz08 ?_ _));refine zz35 (cs:=#[.int .i64 t169,.int .i64 0,.bool false,.int .i64 0]) ?_ 1 _ rfl;(with_reducible repeat (first|refine zz07 ?_ _|refine zz09 ?_|refine zz08 ?_ _));refine zz35 (cs:=#[.int .i64 0,.int .i64 0,.bool false,.int .i64 0]) ?_ 0 _ rfl;(with_reducible repeat (first|refine zz07 ?_ _|refine zz09 ?_|refine zz08 ?_ _));exact BK168.out) Tryz.underlying95 rfl (by kernel_rfl)) rfl ?_
   exact ⟨by first|rfl|(simp [errW_none,errW_some] <;> rfl)|(simp [*,errW_none,errW_some] <;> rfl),by repeat (first|(with_reducible first|exact HB.out|apply zz03|apply zz01|apply zz02|refine zz10 ?_ GE167.out|refine zz10 ?_ GE168.out|refine zz10 ?_ GE173.out)|exact HB.out)⟩
  ·
   replace c6 := zz32.mpr c6
   subst c6
   have H1 : (some (0, 0, false, 0, 3)) = some (r1, r2, r3, r4, r5) := by rw [if_neg (show ¬ (false = true) by decide)] at H; exact H
   clear H
   have H := H1
   clear H1
   simp only [zz15, zz16] at H
   obtain ⟨rfl, rfl, rfl, rfl, rfl⟩ := H
   go_enter Tryz.func101, Tryz.ntmps101
   go_wp2_with (first|((with_reducible refine zz24 (N:=3) rfl ?_);refine zz30 ?hg (N:=3) ?hd (cs:=#[.int .i64 a1_0,.bool a1_1]) (t:=32) ?hr ?_;(case hd=>rfl);(case hg=>rfl);(case hr=>first|(go_simp;done)|(go_simp;rfl));intro gb167 hg w19 hbox hb;have n0_:=zz00 (zz21 (by repeat (first|(with_reducible first|exact HB.out|apply zz03|apply zz01|apply zz02)|exact HB.out)) hb);have n1_:=zz00 (hbox);have n2_:=zz00 ((by rw [hg];exact (zz22 (by repeat (first|(with_reducible first|exact HB.out|apply zz03|apply zz01|apply zz02)|exact HB.out))) : w.heap.size ≤ gb167));have n3_:=zz00 ((by rw [hg];exact (zz22 (by repeat (first|(with_reducible first|exact HB.out|apply zz03|apply zz01|apply zz02)|exact HB.out))) : w.heap.size ≤ gb167));clear HB;have HB:=n0_;have BK167:=n1_;have GW167:=n2_;have GE167:=n3_;clear n0_ n1_ n2_ n3_;clear hb hbox hg)|((with_reducible refine zz24 (N:=4) rfl ?_);refine zz30 ?hg (N:=4) ?hd (cs:=#[.int .i64 0,.int .i64 0,.bool false,.int .i64 0]) (t:=95) ?hr ?_;(case hd=>rfl);(case hg=>rfl);(case hr=>first|(go_simp;done)|(go_simp;rfl));intro gb168 hg w20 hbox hb;have n0_:=zz00 (zz34 (g:=gb167) (o:=.cells #[.int .i64 a1_0,.bool a1_1] 32 (0,0)) (by (with_reducible repeat (first|refine zz07 ?_ _|refine zz09 ?_|refine zz08 ?_ _));exact BK167.out) hb);have n1_:=zz00 (zz21 (by repeat (first|(with_reducible first|exact HB.out|apply zz03|apply zz01|apply zz02|refine zz10 ?_ GE167.out)|exact HB.out)) hb);have n2_:=zz00 (hbox);have n3_:=zz00 ((by rw [hg];exact (zz22 (by repeat (first|(with_reducible first|exact HB.out|apply zz03|apply zz01|apply zz02|refine zz10 ?_ GE167.out)|exact HB.out))) : w.heap.size ≤ gb168));have n4_:=zz00 ((by rw [hg];exact (zz22 (by repeat (first|(with_reducible first|exact HB.out|apply zz03|apply zz01|apply zz02|refine zz10 ?_ GE167.out)|exact HB.out))) : w.heap.size ≤ gb168));have n5_:=zz00 ((by rw [hg];exact Nat.ne_of_lt (blk_lt (g:=gb167) (o:=.cells #[.int .i64 a1_0,.bool a1_1] 32 (0,0)) (by (with_reducible repeat (first|refine zz07 ?_ _|refine zz09 ?_|refine zz08 ?_ _));exact BK167.out)) : gb167 ≠ gb168));have n6_:=zz00 ((by rw [hg];exact Nat.ne_of_gt (blk_lt (g:=gb167) (o:=.cells #[.int .i64 a1_0,.bool a1_1] 32 (0,0)) (by (with_reducible repeat (first|refine zz07 ?_ _|refine zz09 ?_|refine zz08 ?_ _));exact BK167.out)) : gb168 ≠ gb167));clear BK167;clear HB;have BK167:=n0_;have HB:=n1_;have BK168:=n2_;have GW168:=n3_;have GE168:=n4_;have NB167_168:=n5_;have NB168_167:=n6_;clear n0_ n1_ n2_ n3_ n4_ n5_ n6_;clear hb hbox hg)|((with_reducible refine zz23 (f:=93) rfl ?_);refine zz25 (some 12) rfl rfl Tryz.func93 (by kernel_rfl) rfl #[.int .i64 a0] rfl (by (try simp only [List.map_toArray,List.map_cons,List.map_nil]);first|done|rfl|(simp only [List.length_drop,List.length_take];rfl)) ?_;(with_reducible refine (keviah_Of.calls k a0 t169 t170 t171 t172 _ A3.out).mono ?_);rintro e w21 ⟨rfl,hb⟩;refine ⟨_,rfl,?_⟩;have n0_:=zz00 (zz34 (g:=gb167) (o:=.cells #[.int .i64 a1_0,.bool a1_1] 32 (0,0)) (by (with_reducible repeat (first|refine zz07 ?_ _|refine zz09 ?_|refine zz08 ?_ _));exact BK167.out) hb);have n1_:=zz00 (zz34 (g:=gb168) (o:=.cells #[.int .i64 0,.int .i64 0,.bool false,.int .i64 0] 95 (0,0)) (by (with_reducible repeat (first|refine zz07 ?_ _|refine zz09 ?_|refine zz08 ?_ _));exact BK168.out) hb);have n2_:=zz00 (zz21 (by repeat (first|(with_reducible first|exact HB.out|apply zz03|apply zz01|apply zz02|refine zz10 ?_ GE167.out|refine zz10 ?_ GE168.out)|exact HB.out)) hb);clear BK167;clear BK168;clear HB;have BK167:=n0_;have BK168:=n1_;have HB:=n2_;clear n0_ n1_ n2_;(try clear hb);(try clear hb2);(try clear hk);(try clear hi))|((with_reducible refine zz24 (N:=6) rfl ?_);refine zz30 ?hg (N:=6) ?hd (cs:=#[.int .i64 0,.int .i64 0,.bool false]) (t:=93) ?hr ?_;(case hd=>rfl);(case hg=>rfl);(case hr=>first|(go_simp;done)|(go_simp;rfl));intro gb173 hg w22 hbox hb;have n0_:=zz00 (zz34 (g:=gb167) (o:=.cells #[.int .i64 a1_0,.bool a1_1] 32 (0,0)) (by (with_reducible repeat (first|refine zz07 ?_ _|refine zz09 ?_|refine zz08 ?_ _));exact BK167.out) hb);have n1_:=zz00 (zz34 (g:=gb168) (o:=.cells #[.int .i64 0,.int .i64 0,.bool false,.int .i64 0] 95 (0,0)) (by (with_reducible repeat (first|refine zz07 ?_ _|refine zz09 ?_|refine zz08 ?_ _));exact BK168.out) hb);have n2_:=zz00 (zz21 (by repeat (first|(with_reducible first|exact HB.out|apply zz03|apply zz01|apply zz02|refine zz10 ?_ GE167.out|refine zz10 ?_ GE168.out)|exact HB.out)) hb);have n3_:=zz00 (hbox);have n4_:=zz00 ((by rw [hg];exact (zz22 (by repeat (first|(with_reducible first|exact HB.out|apply zz03|apply zz01|apply zz02|refine zz10 ?_ GE167.out|refine zz10 ?_ GE168.out)|exact HB.out))) : w.heap.size ≤ gb173));have n5_:=zz00 ((by rw [hg];exact (zz22 (by repeat (first|(with_reducible first|exact HB.out|apply zz03|apply zz01|apply zz02|refine zz10 ?_ GE167.out|refine zz10 ?_ GE168.out)|exact HB.out))) : w.heap.size ≤ gb173));have n6_:=zz00 ((by rw [hg];exact Nat.ne_of_lt (blk_lt (g:=gb167) (o:=.cells #[.int .i64 a1_0,.bool a1_1] 32 (0,0)) (by (with_reducible repeat (first|refine zz07 ?_ _|refine zz09 ?_|refine zz08 ?_ _));exact BK167.out)) : gb167 ≠ gb173));have n7_:=zz00 ((by rw [hg];exact Nat.ne_of_gt (blk_lt (g:=gb167) (o:=.cells #[.int .i64 a1_0,.bool a1_1] 32 (0,0)) (by (with_reducible repeat (first|refine zz07 ?_ _|refine zz09 ?_|refine zz08 ?_ _));exact BK167.out)) : gb173 ≠ gb167));have n8_:=zz00 ((by rw [hg];exact Nat.ne_of_lt (blk_lt (g:=gb168) (o:=.cells #[.int .i64 0,.int .i64 0,.bool false,.int .i64 0] 95 (0,0)) (by (with_reducible repeat (first|refine zz07 ?_ _|refine zz09 ?_|refine zz08 ?_ _));exact BK168.out)) : gb168 ≠ gb173));have n9_:=zz00 ((by rw [hg];exact Nat.ne_of_gt (blk_lt (g:=gb168) (o:=.cells #[.int .i64 0,.int .i64 0,.bool false,.int .i64 0] 95 (0,0)) (by (with_reducible repeat (first|refine zz07 ?_ _|refine zz09 ?_|refine zz08 ?_ _));exact BK168.out)) : gb173 ≠ gb168));clear BK167;clear BK168;clear HB;have BK167:=n0_;have BK168:=n1_;have HB:=n2_;have BK173:=n3_;have GW173:=n4_;have GE173:=n5_;have NB167_173:=n6_;have NB173_167:=n7_;have NB168_173:=n8_;have NB173_168:=n9_;clear n0_ n1_ n2_ n3_ n4_ n5_ n6_ n7_ n8_ n9_;clear hb hbox hg;have hnb23:=NB173_167.out;have hnc23:=NB167_173.out;have hnb24:=NB173_168.out;have hnc24:=NB168_173.out;have hcz25_0 : w22.cell? ⟨gb173,0,none⟩ = some (.int .i64 0):=(zz18 BK173.out 0).trans rfl;have hcz25_1 : w22.cell? ⟨gb173,1,none⟩ = some (.int .i64 0):=(zz18 BK173.out 1).trans rfl;have hcz25_2 : w22.cell? ⟨gb173,2,none⟩ = some (.bool false):=(zz18 BK173.out 2).trans rfl;have hfz25_0:=zz17 BK173.out 0;have hfz25_1:=zz17 BK173.out 1;have hfz25_2:=zz17 BK173.out 2;have hnb26:=NB167_168.out;have hnc26:=NB168_167.out;have hcz27_0 : w22.cell? ⟨gb167,0,none⟩ = some (.int .i64 a1_0):=(zz18 BK167.out 0).trans rfl;have hcz27_1 : w22.cell? ⟨gb167,1,none⟩ = some (.bool a1_1):=(zz18 BK167.out 1).trans rfl;have hfz27_0:=zz17 BK167.out 0;have hfz27_1:=zz17 BK167.out 1)|((with_reducible refine zz23 (f:=149) rfl ?_);refine zz25 (some 23) rfl rfl Tryz.func149 (by kernel_rfl) rfl #[.bool t171,.agg #[.int .i64 a1_0,.bool a1_1]] rfl (by (try simp only [List.map_toArray,List.map_cons,List.map_nil]);first|done|rfl|(simp only [List.length_drop,List.length_take];rfl)) ?_;(with_reducible refine (code_Place.calls k t171 a1_0 a1_1 t174 false _ A5.out).mono ?_);rintro e w28 ⟨rfl,hb⟩;refine ⟨_,rfl,?_⟩;have n0_:=zz00 (zz34 (g:=gb167) (o:=.cells #[.int .i64 a1_0,.bool a1_1] 32 (0,0)) (by (with_reducible repeat (first|refine zz07 ?_ _|refine zz09 ?_|refine zz08 ?_ _));refine zz33 ?_ NB167_173.out _;(with_reducible repeat (first|refine zz07 ?_ _|refine zz09 ?_|refine zz08 ?_ _));refine zz33 ?_ NB167_173.out _;(with_reducible repeat (first|refine zz07 ?_ _|refine zz09 ?_|refine zz08 ?_ _));refine zz33 ?_ NB167_173.out _;(with_reducible repeat (first|refine zz07 ?_ _|refine zz09 ?_|refine zz08 ?_ _));exact BK167.out) hb);have n1_:=zz00 (zz34 (g:=gb168) (o:=.cells #[.int .i64 0,.int .i64 0,.bool false,.int .i64 0] 95 (0,0)) (by (with_reducible repeat (first|refine zz07 ?_ _|refine zz09 ?_|refine zz08 ?_ _));refine zz33 ?_ NB168_173.out _;(with_reducible repeat (first|refine zz07 ?_ _|refine zz09 ?_|refine zz08 ?_ _));refine zz33 ?_ NB168_173.out _;(with_reducible repeat (first|refine zz07 ?_ _|refine zz09 ?_|refine zz08 ?_ _));refine zz33 ?_ NB168_173.out _;(with_reducible repeat (first|refine zz07 ?_ _|refine zz09 ?_|refine zz08 ?_ _));exact BK168.out) hb);have n2_:=zz00 (zz34 (g:=gb173) (o:=.cells #[.int .i64 t169,.int .i64 t170,.bool t171] 93 (0,0)) (by (with_reducible repeat (first|refine zz07 ?_ _|refine zz09 ?_|refine zz08 ?_ _));refine zz35 (cs:=#[.int .i64 t169,.int .i64 t170,.bool false]) ?_ 2 _ rfl;(with_reducible repeat (first|refine zz07 ?_ _|refine zz09 ?_|refine zz08 ?_ _));refine zz35 (cs:=#[.int .i64 t169,.int .i64 0,.bool false]) ?_ 1 _ rfl;(with_reducible repeat (first|refine zz07 ?_ _|refine zz09 ?_|refine zz08 ?_ _));refine zz35 (cs:=#[.int .i64 0,.int .i64 0,.bool false]) ?_ 0 _ rfl;(with_reducible repeat (first|refine zz07 ?_ _|refine zz09 ?_|refine zz08 ?_ _));exact BK173.out) hb);have n3_:=zz00 (zz21 (by repeat (first|(with_reducible first|exact HB.out|apply zz03|apply zz01|apply zz02|refine zz10 ?_ GE167.out|refine zz10 ?_ GE168.out|refine zz10 ?_ GE173.out)|exact HB.out)) hb);clear BK167;clear BK168;clear BK173;clear HB;have BK167:=n0_;have BK168:=n1_;have BK173:=n2_;have HB:=n3_;clear n0_ n1_ n2_ n3_;(try clear hb);(try clear hb2);(try clear hk);(try clear hi);have hcz29_0 : w28.cell? ⟨gb168,0,none⟩ = some (.int .i64 0):=(zz18 BK168.out 0).trans rfl;have hcz29_1 : w28.cell? ⟨gb168,1,none⟩ = some (.int .i64 0):=(zz18 BK168.out 1).trans rfl;have hcz29_2 : w28.cell? ⟨gb168,2,none⟩ = some (.bool false):=(zz18 BK168.out 2).trans rfl;have hcz29_3 : w28.cell? ⟨gb168,3,none⟩ = some (.int .i64 0):=(zz18 BK168.out 3).trans rfl;have hfz29_0:=zz17 BK168.out 0;have hfz29_1:=zz17 BK168.out 1;have hfz29_2:=zz17 BK168.out 2;have hfz29_3:=zz17 BK168.out 3))
   refine bodyPost_ret (results_ct rfl _ _ gb168 95 #[.int .i64 0,.int .i64 0,.bool false,.int .i64 0] (0,0) _ rfl (by (with_reducible repeat (first|refine zz07 ?_ _|refine zz09 ?_|refine zz08 ?_ _));refine zz35 (cs:=#[.int .i64 0,.int .i64 0,.bool false,.int .i64 0]) ?_ 3 _ rfl;(with_reducible repeat (first|refine zz07 ?_ _|refine zz09 ?_|refine zz08 ?_ _));refine zz35 (cs:=#[.int .i64 0,.int .i64 0,.bool false,.int .i64 0]) ?_ 2 _ rfl;(with_reducible repeat (first|refine zz07 ?_ _|refine zz09 ?_|refine zz08 ?_ _));refine zz35 (cs:=#[.int .i64 0,.int .i64 0,.bool false,.int .i64 0]) ?_ 1 _ rfl;(with_reducible repeat (first|refine zz07 ?_ _|refine zz09 ?_|refine zz08 ?_ _));refine zz35 (cs:=#[.int .i64 0,.int .i64 0,.bool false,.int .i64 0]) ?_ 0 _ rfl;(with_reducible repeat (first|refine zz07 ?_ _|refine zz09 ?_|refine zz08 ?_ _));exact BK168.out) Tryz.underlying95 rfl (by kernel_rfl)) rfl ?_
   exact ⟨by first|rfl|(simp [errW_none,errW_some] <;> rfl)|(simp [*,errW_none,errW_some] <;> rfl),by repeat (first|(with_reducible first|exact HB.out|apply zz03|apply zz01|apply zz02|refine zz10 ?_ GE167.out|refine zz10 ?_ GE168.out|refine zz10 ?_ GE173.out)|exact HB.out)⟩
 ·
  rw [if_neg c4] at H
  have c4b0 : (t172 == 0) = false := zz27.mpr c4
  have c4b1 : (t172 != 0) = true := zz28.mpr c4
  simp only [zz15, zz16] at H
  obtain ⟨rfl, rfl, rfl, rfl, rfl⟩ := H
  go_enter Tryz.func101, Tryz.ntmps101
  go_wp2_with (first|((with_reducible refine zz24 (N:=3) rfl ?_);refine zz30 ?hg (N:=3) ?hd (cs:=#[.int .i64 a1_0,.bool a1_1]) (t:=32) ?hr ?_;(case hd=>rfl);(case hg=>rfl);(case hr=>first|(go_simp;done)|(go_simp;rfl));intro gb167 hg w30 hbox hb;have n0_:=zz00 (zz21 (by repeat (first|(with_reducible first|exact HB.out|apply zz03|apply zz01|apply zz02)|exact HB.out)) hb);have n1_:=zz00 (hbox);have n2_:=zz00 ((by rw [hg];exact (zz22 (by repeat (first|(with_reducible first|exact HB.out|apply zz03|apply zz01|apply zz02)|exact HB.out))) : w.heap.size ≤ gb167));have n3_:=zz00 ((by rw [hg];exact (zz22 (by repeat (first|(with_reducible first|exact HB.out|apply zz03|apply zz01|apply zz02)|exact HB.out))) : w.heap.size ≤ gb167));clear HB;have HB:=n0_;have BK167:=n1_;have GW167:=n2_;have GE167:=n3_;clear n0_ n1_ n2_ n3_;clear hb hbox hg)|((with_reducible refine zz24 (N:=4) rfl ?_);refine zz30 ?hg (N:=4) ?hd (cs:=#[.int .i64 0,.int .i64 0,.bool false,.int .i64 0]) (t:=95) ?hr ?_;(case hd=>rfl);(case hg=>rfl);(case hr=>first|(go_simp;done)|(go_simp;rfl));intro gb168 hg w31 hbox hb;have n0_:=zz00 (zz34 (g:=gb167) (o:=.cells #[.int .i64 a1_0,.bool a1_1] 32 (0,0)) (by (with_reducible repeat (first|refine zz07 ?_ _|refine zz09 ?_|refine zz08 ?_ _));exact BK167.out) hb);have n1_:=zz00 (zz21 (by repeat (first|(with_reducible first|exact HB.out|apply zz03|apply zz01|apply zz02|refine zz10 ?_ GE167.out)|exact HB.out)) hb);have n2_:=zz00 (hbox);have n3_:=zz00 ((by rw [hg];exact (zz22 (by repeat (first|(with_reducible first|exact HB.out|apply zz03|apply zz01|apply zz02|refine zz10 ?_ GE167.out)|exact HB.out))) : w.heap.size ≤ gb168));have n4_:=zz00 ((by rw [hg];exact (zz22 (by repeat (first|(with_reducible first|exact HB.out|apply zz03|apply zz01|apply zz02|refine zz10 ?_ GE167.out)|exact HB.out))) : w.heap.size ≤ gb168));have n5_:=zz00 ((by rw [hg];exact Nat.ne_of_lt (blk_lt (g:=gb167) (o:=.cells #[.int .i64 a1_0,.bool a1_1] 32 (0,0)) (by (with_reducible repeat (first|refine zz07 ?_ _|refine zz09 ?_|refine zz08 ?_ _));exact BK167.out)) : gb167 ≠ gb168));have n6_:=zz00 ((by rw [hg];exact Nat.ne_of_gt (blk_lt (g:=gb167) (o:=.cells #[.int .i64 a1_0,.bool a1_1] 32 (0,0)) (by (with_reducible repeat (first|refine zz07 ?_ _|refine zz09 ?_|refine zz08 ?_ _));exact BK167.out)) : gb168 ≠ gb167));clear BK167;clear HB;have BK167:=n0_;have HB:=n1_;have BK168:=n2_;have GW168:=n3_;have GE168:=n4_;have NB167_168:=n5_;have NB168_167:=n6_;clear n0_ n1_ n2_ n3_ n4_ n5_ n6_;clear hb hbox hg)|((with_reducible refine zz23 (f:=93) rfl ?_);refine zz25 (some 12) rfl rfl Tryz.func93 (by kernel_rfl) rfl #[.int .i64 a0] rfl (by (try simp only [List.map_toArray,List.map_cons,List.map_nil]);first|done|rfl|(simp only [List.length_drop,List.length_take];rfl)) ?_;(with_reducible refine (keviah_Of.calls k a0 t169 t170 t171 t172 _ A3.out).mono ?_);rintro e w32 ⟨rfl,hb⟩;refine ⟨_,rfl,?_⟩;have n0_:=zz00 (zz34 (g:=gb167) (o:=.cells #[.int .i64 a1_0,.bool a1_1] 32 (0,0)) (by (with_reducible repeat (first|refine zz07 ?_ _|refine zz09 ?_|refine zz08 ?_ _));exact BK167.out) hb);have n1_:=zz00 (zz34 (g:=gb168) (o:=.cells #[.int .i64 0,.int .i64 0,.bool false,.int .i64 0] 95 (0,0)) (by (with_reducible repeat (first|refine zz07 ?_ _|refine zz09 ?_|refine zz08 ?_ _));exact BK168.out) hb);have n2_:=zz00 (zz21 (by repeat (first|(with_reducible first|exact HB.out|apply zz03|apply zz01|apply zz02|refine zz10 ?_ GE167.out|refine zz10 ?_ GE168.out)|exact HB.out)) hb);clear BK167;clear BK168;clear HB;have BK167:=n0_;have BK168:=n1_;have HB:=n2_;clear n0_ n1_ n2_;(try clear hb);(try clear hb2);(try clear hk);(try clear hi))|((with_reducible refine zz24 (N:=6) rfl ?_);refine zz30 ?hg (N:=6) ?hd (cs:=#[.int .i64 0,.int .i64 0,.bool false]) (t:=93) ?hr ?_;(case hd=>rfl);(case hg=>rfl);(case hr=>first|(go_simp;done)|(go_simp;rfl));intro gb173 hg w33 hbox hb;have n0_:=zz00 (zz34 (g:=gb167) (o:=.cells #[.int .i64 a1_0,.bool a1_1] 32 (0,0)) (by (with_reducible repeat (first|refine zz07 ?_ _|refine zz09 ?_|refine zz08 ?_ _));exact BK167.out) hb);have n1_:=zz00 (zz34 (g:=gb168) (o:=.cells #[.int .i64 0,.int .i64 0,.bool false,.int .i64 0] 95 (0,0)) (by (with_reducible repeat (first|refine zz07 ?_ _|refine zz09 ?_|refine zz08 ?_ _));exact BK168.out) hb);have n2_:=zz00 (zz21 (by repeat (first|(with_reducible first|exact HB.out|apply zz03|apply zz01|apply zz02|refine zz10 ?_ GE167.out|refine zz10 ?_ GE168.out)|exact HB.out)) hb);have n3_:=zz00 (hbox);have n4_:=zz00 ((by rw [hg];exact (zz22 (by repeat (first|(with_reducible first|exact HB.out|apply zz03|apply zz01|apply zz02|refine zz10 ?_ GE167.out|refine zz10 ?_ GE168.out)|exact HB.out))) : w.heap.size ≤ gb173));have n5_:=zz00 ((by rw [hg];exact (zz22 (by repeat (first|(with_reducible first|exact HB.out|apply zz03|apply zz01|apply zz02|refine zz10 ?_ GE167.out|refine zz10 ?_ GE168.out)|exact HB.out))) : w.heap.size ≤ gb173));have n6_:=zz00 ((by rw [hg];exact Nat.ne_of_lt (blk_lt (g:=gb167) (o:=.cells #[.int .i64 a1_0,.bool a1_1] 32 (0,0)) (by (with_reducible repeat (first|refine zz07 ?_ _|refine zz09 ?_|refine zz08 ?_ _));exact BK167.out)) : gb167 ≠ gb173));have n7_:=zz00 ((by rw [hg];exact Nat.ne_of_gt (blk_lt (g:=gb167) (o:=.cells #[.int .i64 a1_0,.bool a1_1] 32 (0,0)) (by (with_reducible repeat (first|refine zz07 ?_ _|refine zz09 ?_|refine zz08 ?_ _));exact BK167.out)) : gb173 ≠ gb167));have n8_:=zz00 ((by rw [hg];exact Nat.ne_of_lt (blk_lt (g:=gb168) (o:=.cells #[.int .i64 0,.int .i64 0,.bool false,.int .i64 0] 95 (0,0)) (by (with_reducible repeat (first|refine zz07 ?_ _|refine zz09 ?_|refine zz08 ?_ _));exact BK168.out)) : gb168 ≠ gb173));have n9_:=zz00 ((by rw [hg];exact Nat.ne_of_gt (blk_lt (g:=gb168) (o:=.cells #[.int .i64 0,.int .i64 0,.bool false,.int .i64 0] 95 (0,0)) (by (with_reducible repeat (first|refine zz07 ?_ _|refine zz09 ?_|refine zz08 ?_ _));exact BK168.out)) : gb173 ≠ gb168));clear BK167;clear BK168;clear HB;have BK167:=n0_;have BK168:=n1_;have HB:=n2_;have BK173:=n3_;have GW173:=n4_;have GE173:=n5_;have NB167_173:=n6_;have NB173_167:=n7_;have NB168_173:=n8_;have NB173_168:=n9_;clear n0_ n1_ n2_ n3_ n4_ n5_ n6_ n7_ n8_ n9_;clear hb hbox hg;have hnb34:=NB173_167.out;have hnc34:=NB167_173.out;have hnb35:=NB173_168.out;have hnc35:=NB168_173.out;have hcz36_0 : w33.cell? ⟨gb173,0,none⟩ = some (.int .i64 0):=(zz18 BK173.out 0).trans rfl;have hcz36_1 : w33.cell? ⟨gb173,1,none⟩ = some (.int .i64 0):=(zz18 BK173.out 1).trans rfl;have hcz36_2 : w33.cell? ⟨gb173,2,none⟩ = some (.bool false):=(zz18 BK173.out 2).trans rfl;have hfz36_0:=zz17 BK173.out 0;have hfz36_1:=zz17 BK173.out 1;have hfz36_2:=zz17 BK173.out 2;have hnb37:=NB168_167.out;have hnc37:=NB167_168.out;have hcz38_0 : w33.cell? ⟨gb168,0,none⟩ = some (.int .i64 0):=(zz18 BK168.out 0).trans rfl;have hcz38_1 : w33.cell? ⟨gb168,1,none⟩ = some (.int .i64 0):=(zz18 BK168.out 1).trans rfl;have hcz38_2 : w33.cell? ⟨gb168,2,none⟩ = some (.bool false):=(zz18 BK168.out 2).trans rfl;have hcz38_3 : w33.cell? ⟨gb168,3,none⟩ = some (.int .i64 0):=(zz18 BK168.out 3).trans rfl;have hfz38_0:=zz17 BK168.out 0;have hfz38_1:=zz17 BK168.out 1;have hfz38_2:=zz17 BK168.out 2;have hfz38_3:=zz17 BK168.out 3))
  refine bodyPost_ret (results_ct rfl _ _ gb168 95 #[.int .i64 0,.int .i64 0,.bool false,.int .i64 0] (0,0) _ rfl (by (with_reducible repeat (first|refine zz07 ?_ _|refine zz09 ?_|refine zz08 ?_ _));refine zz35 (cs:=#[.int .i64 0,.int .i64 0,.bool false,.int .i64 0]) ?_ 3 _ rfl;(with_reducible repeat (first|refine zz07 ?_ _|refine zz09 ?_|refine zz08 ?_ _));refine zz35 (cs:=#[.int .i64 0,.int .i64 0,.bool false,.int .i64 0]) ?_ 2 _ rfl;(with_reducible repeat (first|refine zz07 ?_ _|refine zz09 ?_|refine zz08 ?_ _));refine zz35 (cs:=#[.int .i64 0,.int .i64 0,.bool false,.int .i64 0]) ?_ 1 _ rfl;(with_reducible repeat (first|refine zz07 ?_ _|refine zz09 ?_|refine zz08 ?_ _));refine zz35 (cs:=#[.int .i64 0,.int .i64 0,.bool false,.int .i64 0]) ?_ 0 _ rfl;(with_reducible repeat (first|refine zz07 ?_ _|refine zz09 ?_|refine zz08 ?_ _));refine zz33 ?_ NB168_173.out _;(with_reducible repeat (first|refine zz07 ?_ _|refine zz09 ?_|refine zz08 ?_ _));refine zz33 ?_ NB168_173.out _;(with_reducible repeat (first|refine zz07 ?_ _|refine zz09 ?_|refine zz08 ?_ _));refine zz33 ?_ NB168_173.out _;(with_reducible repeat (first|refine zz07 ?_ _|refine zz09 ?_|refine zz08 ?_ _));exact BK168.out) Tryz.underlying95 rfl (by kernel_rfl)) rfl ?_
  exact ⟨by first|rfl|(simp [errW_none,errW_some] <;> rfl)|(simp [*,errW_none,errW_some] <;> rfl),by repeat (first|(with_reducible first|exact HB.out|apply zz03|apply zz01|apply zz02|refine zz10 ?_ GE167.out|refine zz10 ?_ GE168.out|refine zz10 ?_ GE173.out)|exact HB.out)⟩

def heb_look.f (k : Nat) (a0_0 : Int) (a0_1 : Int) (a0_2 : Bool) (a0_3 : Int) : Option (Int × Int × Bool × Int × Int) := (heb_find.f k a0_0 a0_1 a0_2).bind fun bt178 => (if bt178.2.2.2.2 = 0 then (if a0_3 < 1 then (some (0, 0, false, 0, 4)) else ((month_Days.f bt178.1 bt178.2.1 bt178.2.2.1 bt178.2.2.2.1).bind fun t184 => (if a0_3 > t184 then (some (0, 0, false, 0, 4)) else (some (bt178.1, bt178.2.1, bt178.2.2.1, bt178.2.2.2.1, 0))))) else (some (0, 0, false, 0, bt178.2.2.2.2)))
theorem heb_look.mono : ∀ a0 a1 a2 a3 k, LeO (heb_look.f k a0 a1 a2 a3) (heb_look.f (k + 1) a0 a1 a2 a3) := by
 intro a0 a1 a2 a3 k
 unfold heb_look.f
 repeat' first
   | (with_reducible exact heb_find.mono _ _ _ _)
   | (with_reducible exact LeO.refl _)
   | (with_reducible exact LeO.none _)
   | (with_reducible refine LeO.ite ?_ ?_)
   | (with_reducible refine LeO.bind ?_ (fun _ => ?_))
   | exact heb_find.mono _ _ _ _
   | exact LeO.none _
   | refine LeO.ite ?_ ?_
   | refine LeO.bind ?_ (fun _ => ?_)
def heb_look.T4 : Bool × List (List Nat × List Nat) := (true, [([], []), ([0], [0]), ([1], [1]), ([2], [2]), ([3], [3]), ([4, 3], [3, 4]), ([3], [3]), ([6, 3], [3, 6]), ([3], [3]), ([8, 3], [3, 8]), ([7, 9, 3, 3], [3, 7, 9]), ([5, 10, 3], [3, 5, 10]), ([3, 11], [3, 11]), ([12, 10], [12])])
def heb_look.B4 : List Nat := [0, 1, 3, 7, 15, 31, 15, 79, 15, 271, 975, 2047, 4095, 8191]
theorem heb_look.tab4 : rtab .any (opsOf Tryz.f79 4) = heb_look.T4 := by kernel_rfl
theorem heb_look.bits4 : waitsOk heb_look.T4.2 heb_look.B4 = true := by kernel_rfl
set_option maxHeartbeats 8000000 in
set_option maxRecDepth 100000 in
theorem heb_look.calls (k : Nat) (a0_0 : Int) (a0_1 : Int) (a0_2 : Bool) (a0_3 : Int) (r1 : Int) (r2 : Int) (r3 : Bool) (r4 : Int) (r5 : Int) (w : World) (HGT : GlobT w) (h : heb_look.f k a0_0 a0_1 a0_2 a0_3 = some (r1, r2, r3, r4, r5)) :
  Calls Tryz.prog 79 #[.agg #[.int .i64 a0_0,.int .i64 a0_1,.bool a0_2,.int .i64 a0_3]] w fun e w'=>e = .returned (.tuple #[.agg #[.int .i64 r1,.int .i64 r2,.bool r3,.int .i64 r4],.int .i64 r5]) ∧ Below w.heap.size w w':=by
 have hu34 := Tryz.underlying34
 have hu95 := Tryz.underlying95
 have hu32 := Tryz.underlying32
 have hu93 := Tryz.underlying93
 have HB := zz00 (Below.refl w.heap.size w)
 have H : ((heb_find.f k a0_0 a0_1 a0_2).bind fun bt178=>(if bt178.2.2.2.2 = 0 then (if a0_3 < 1 then (some (0,0,false,0,4)) else ((month_Days.f bt178.1 bt178.2.1 bt178.2.2.1 bt178.2.2.2.1).bind fun t184=>(if a0_3 > t184 then (some (0,0,false,0,4)) else (some (bt178.1,bt178.2.1,bt178.2.2.1,bt178.2.2.2.1,0))))) else (some (0,0,false,0,bt178.2.2.2.2)))) = some (r1,r2,r3,r4,r5):=h
 clear h
 replace H := zz14.mp H
 obtain ⟨⟨t178, t179, t180, t181, t182⟩, A20, H⟩ := H
 replace H : (if t182 = 0 then (if a0_3 < 1 then (some (0,0,false,0,4)) else ((month_Days.f t178 t179 t180 t181).bind fun t184=>(if a0_3 > t184 then (some (0,0,false,0,4)) else (some (t178,t179,t180,t181,0))))) else (some (0,0,false,0,t182))) = some (r1,r2,r3,r4,r5):=H
 have A2 := zz00 A20
 clear A20
 by_cases c3 : t182 = 0
 ·
  rw [if_pos c3] at H
  have c3b0 : (t182 == 0) = true := zz29.mpr c3
  have c3b1 : (t182 != 0) = false := zz26.mpr c3
  clear c3
  by_cases c4 : a0_3 < 1
  ·
   rw [if_pos c4] at H
   have c4b0 : decide (a0_3 < 1) = true := decide_eq_true c4
   clear c4
   simp only [zz15, zz16] at H
   obtain ⟨rfl, rfl, rfl, rfl, rfl⟩ := H
   go_enter Tryz.func79, Tryz.ntmps79
   try go_wp2_with (first|((with_reducible refine zz24 (N:=1) rfl ?_);refine zz30 ?hg (N:=1) ?hd (cs:=#[.int .i64 a0_0,.int .i64 a0_1,.bool a0_2,.int .i64 a0_3]) (t:=34) ?hr ?_;(case hd=>rfl);(case hg=>rfl);(case hr=>first|(go_simp;done)|(go_simp;rfl));intro gb176 hg w5 hbox hb;have n0_:=zz00 (zz21 (by repeat (first|(with_reducible first|exact HB.out|apply zz03|apply zz01|apply zz02)|exact HB.out)) hb);have n1_:=zz00 (hbox);have n2_:=zz00 ((by rw [hg];exact (zz22 (by repeat (first|(with_reducible first|exact HB.out|apply zz03|apply zz01|apply zz02)|exact HB.out))) : w.heap.size ≤ gb176));have n3_:=zz00 ((by rw [hg];exact (zz22 (by repeat (first|(with_reducible first|exact HB.out|apply zz03|apply zz01|apply zz02)|exact HB.out))) : w.heap.size ≤ gb176));clear HB;have HB:=n0_;have BK176:=n1_;have GW176:=n2_;have GE176:=n3_;clear n0_ n1_ n2_ n3_;clear hb hbox hg)|((with_reducible refine zz24 (N:=2) rfl ?_);refine zz30 ?hg (N:=2) ?hd (cs:=#[.int .i64 0,.int .i64 0,.bool false,.int .i64 0]) (t:=95) ?hr ?_;(case hd=>rfl);(case hg=>rfl);(case hr=>first|(go_simp;done)|(go_simp;rfl));intro gb177 hg w6 hbox hb;have n0_:=zz00 (zz34 (g:=gb176) (o:=.cells #[.int .i64 a0_0,.int .i64 a0_1,.bool a0_2,.int .i64 a0_3] 34 (0,0)) (by (with_reducible repeat (first|refine zz07 ?_ _|refine zz09 ?_|refine zz08 ?_ _));exact BK176.out) hb);have n1_:=zz00 (zz21 (by repeat (first|(with_reducible first|exact HB.out|apply zz03|apply zz01|apply zz02|refine zz10 ?_ GE176.out)|exact HB.out)) hb);have n2_:=zz00 (hbox);have n3_:=zz00 ((by rw [hg];exact (zz22 (by repeat (first|(with_reducible first|exact HB.out|apply zz03|apply zz01|apply zz02|refine zz10 ?_ GE176.out)|exact HB.out))) : w.heap.size ≤ gb177));have n4_:=zz00 ((by rw [hg];exact (zz22 (by repeat (first|(with_reducible first|exact HB.out|apply zz03|apply zz01|apply zz02|refine zz10 ?_ GE176.out)|exact HB.out))) : w.heap.size ≤ gb177));have n5_:=zz00 ((by rw [hg];exact Nat.ne_of_lt (blk_lt (g:=gb176) (o:=.cells #[.int .i64 a0_0,.int .i64 a0_1,.bool a0_2,.int .i64 a0_3] 34 (0,0)) (by (with_reducible repeat (first|refine zz07 ?_ _|refine zz09 ?_|refine zz08 ?_ _));exact BK176.out)) : gb176 ≠ gb177));have n6_:=zz00 ((by rw [hg];exact Nat.ne_of_gt (blk_lt (g:=gb176) (o:=.cells #[.int .i64 a0_0,.int .i64 a0_1,.bool a0_2,.int .i64 a0_3] 34 (0,0)) (by (with_reducible repeat (first|refine zz07 ?_ _|refine zz09 ?_|refine zz08 ?_ _));exact BK176.out)) : gb177 ≠ gb176));clear BK176;clear HB;have BK176:=n0_;have HB:=n1_;have BK177:=n2_;have GW177:=n3_;have GE177:=n4_;have NB176_177:=n5_;have NB177_176:=n6_;clear n0_ n1_ n2_ n3_ n4_ n5_ n6_;clear hb hbox hg;have hnb7:=NB176_177.out;have hnc7:=NB177_176.out;have hcz8_0 : w6.cell? ⟨gb176,0,none⟩ = some (.int .i64 a0_0):=(zz18 BK176.out 0).trans rfl;have hcz8_1 : w6.cell? ⟨gb176,1,none⟩ = some (.int .i64 a0_1):=(zz18 BK176.out 1).trans rfl;have hcz8_2 : w6.cell? ⟨gb176,2,none⟩ = some (.bool a0_2):=(zz18 BK176.out 2).trans rfl;have hcz8_3 : w6.cell? ⟨gb176,3,none⟩ = some (.int .i64 a0_3):=(zz18 BK176.out 3).trans rfl;have hfz8_0:=zz17 BK176.out 0;have hfz8_1:=zz17 BK176.out 1;have hfz8_2:=zz17 BK176.out 2;have hfz8_3:=zz17 BK176.out 3)|((with_reducible refine zz23 (f:=101) rfl ?_);refine zz25 (some 11) rfl rfl Tryz.func101 (by kernel_rfl) rfl #[.int .i64 a0_0,.agg #[.int .i64 a0_1,.bool a0_2]] rfl (by (try simp only [List.map_toArray,List.map_cons,List.map_nil]);first|done|rfl|(simp only [List.length_drop,List.length_take];rfl)) ?_;(with_reducible refine (heb_find.calls k a0_0 a0_1 a0_2 t178 t179 t180 t181 t182 _ A2.out).mono ?_);rintro e w9 ⟨rfl,hb⟩;refine ⟨_,rfl,?_⟩;have n0_:=zz00 (zz34 (g:=gb176) (o:=.cells #[.int .i64 a0_0,.int .i64 a0_1,.bool a0_2,.int .i64 a0_3] 34 (0,0)) (by (with_reducible repeat (first|refine zz07 ?_ _|refine zz09 ?_|refine zz08 ?_ _));exact BK176.out) hb);have n1_:=zz00 (zz34 (g:=gb177) (o:=.cells #[.int .i64 0,.int .i64 0,.bool false,.int .i64 0] 95 (0,0)) (by (with_reducible repeat (first|refine zz07 ?_ _|refine zz09 ?_|refine zz08 ?_ _));exact BK177.out) hb);have n2_:=zz00 (zz21 (by repeat (first|(with_reducible first|exact HB.out|apply zz03|apply zz01|apply zz02|refine zz10 ?_ GE176.out|refine zz10 ?_ GE177.out)|exact HB.out)) hb);clear BK176;clear BK177;clear HB;have BK176:=n0_;have BK177:=n1_;have HB:=n2_;clear n0_ n1_ n2_;(try clear hb);(try clear hb2);(try clear hk);(try clear hi))|((with_reducible refine zz24 (N:=4) rfl ?_);refine zz30 ?hg (N:=4) ?hd (cs:=#[.int .i64 0,.int .i64 0,.bool false,.int .i64 0]) (t:=95) ?hr ?_;(case hd=>rfl);(case hg=>rfl);(case hr=>first|(go_simp;done)|(go_simp;rfl));intro gb183 hg w10 hbox hb;have n0_:=zz00 (zz34 (g:=gb176) (o:=.cells #[.int .i64 a0_0,.int .i64 a0_1,.bool a0_2,.int .i64 a0_3] 34 (0,0)) (by (with_reducible repeat (first|refine zz07 ?_ _|refine zz09 ?_|refine zz08 ?_ _));exact BK176.out) hb);have n1_:=zz00 (zz34 (g:=gb177) (o:=.cells #[.int .i64 0,.int .i64 0,.bool false,.int .i64 0] 95 (0,0)) (by (with_reducible repeat (first|refine zz07 ?_ _|refine zz09 ?_|refine zz08 ?_ _));exact BK177.out) hb);have n2_:=zz00 (zz21 (by repeat (first|(with_reducible first|exact HB.out|apply zz03|apply zz01|apply zz02|refine zz10 ?_ GE176.out|refine zz10 ?_ GE177.out)|exact HB.out)) hb);have n3_:=zz00 (hbox);have n4_:=zz00 ((by rw [hg];exact (zz22 (by repeat (first|(with_reducible first|exact HB.out|apply zz03|apply zz01|apply zz02|refine zz10 ?_ GE176.out|refine zz10 ?_ GE177.out)|exact HB.out))) : w.heap.size ≤ gb183));have n5_:=zz00 ((by rw [hg];exact (zz22 (by repeat (first|(with_reducible first|exact HB.out|apply zz03|apply zz01|apply zz02|refine zz10 ?_ GE176.out|refine zz10 ?_ GE177.out)|exact HB.out))) : w.heap.size ≤ gb183));have n6_:=zz00 ((by rw [hg];exact Nat.ne_of_lt (blk_lt (g:=gb176) (o:=.cells #[.int .i64 a0_0,.int .i64 a0_1,.bool a0_2,.int .i64 a0_3] 34 (0,0)) (by (with_reducible repeat (first|refine zz07 ?_ _|refine zz09 ?_|refine zz08 ?_ _));exact BK176.out)) : gb176 ≠ gb183));have n7_:=zz00 ((by rw [hg];exact Nat.ne_of_gt (blk_lt (g:=gb176) (o:=.cells #[.int .i64 a0_0,.int .i64 a0_1,.bool a0_2,.int .i64 a0_3] 34 (0,0)) (by (with_reducible repeat (first|refine zz07 ?_ _|refine zz09 ?_|refine zz08 ?_ _));exact BK176.out)) : gb183 ≠ gb176));have n8_:=zz00 ((by rw [hg];exact Nat.ne_of_lt (blk_lt (g:=gb177) (o:=.cells #[.int .i64 0,.int .i64 0,.bool false,.int .i64 0] 95 (0,0)) (by (with_reducible repeat (first|refine zz07 ?_ _|refine zz09 ?_|refine zz08 ?_ _));exact BK177.out)) : gb177 ≠ gb183));have n9_:=zz00 ((by rw [hg];exact Nat.ne_of_gt (blk_lt (g:=gb177) (o:=.cells #[.int .i64 0,.int .i64 0,.bool false,.int .i64 0] 95 (0,0)) (by (with_reducible repeat (first|refine zz07 ?_ _|refine zz09 ?_|refine zz08 ?_ _));exact BK177.out)) : gb183 ≠ gb177));clear BK176;clear BK177;clear HB;have BK176:=n0_;have BK177:=n1_;have HB:=n2_;have BK183:=n3_;have GW183:=n4_;have GE183:=n5_;have NB176_183:=n6_;have NB183_176:=n7_;have NB177_183:=n8_;have NB183_177:=n9_;clear n0_ n1_ n2_ n3_ n4_ n5_ n6_ n7_ n8_ n9_;clear hb hbox hg;have hnb11:=NB183_176.out;have hnc11:=NB176_183.out;have hnb12:=NB183_177.out;have hnc12:=NB177_183.out;have hcz13_0 : w10.cell? ⟨gb183,0,none⟩ = some (.int .i64 0):=(zz18 BK183.out 0).trans rfl;have hcz13_1 : w10.cell? ⟨gb183,1,none⟩ = some (.int .i64 0):=(zz18 BK183.out 1).trans rfl;have hcz13_2 : w10.cell? ⟨gb183,2,none⟩ = some (.bool false):=(zz18 BK183.out 2).trans rfl;have hcz13_3 : w10.cell? ⟨gb183,3,none⟩ = some (.int .i64 0):=(zz18 BK183.out 3).trans rfl;have hfz13_0:=zz17 BK183.out 0;have hfz13_1:=zz17 BK183.out 1;have hfz13_2:=zz17 BK183.out 2;have hfz13_3:=zz17 BK183.out 3))
   have n0_ : Aside0 (((((w10.setCell ⟨gb183,0,none⟩ (.int .i64 t178)).setCell ⟨gb183,1,none⟩ (.int .i64 t179)).setCell ⟨gb183,2,none⟩ (.bool t180)).setCell ⟨gb183,3,none⟩ (.int .i64 t181)).heap[gb176]? = some (.cells #[.int .i64 a0_0,.int .i64 a0_1,.bool a0_2,.int .i64 a0_3] 34 (0,0))):=⟨by (with_reducible repeat (first|refine zz07 ?_ _|refine zz09 ?_|refine zz08 ?_ _));refine zz33 ?_ NB176_183.out _;(with_reducible repeat (first|refine zz07 ?_ _|refine zz09 ?_|refine zz08 ?_ _));refine zz33 ?_ NB176_183.out _;(with_reducible repeat (first|refine zz07 ?_ _|refine zz09 ?_|refine zz08 ?_ _));refine zz33 ?_ NB176_183.out _;(with_reducible repeat (first|refine zz07 ?_ _|refine zz09 ?_|refine zz08 ?_ _));refine zz33 ?_ NB176_183.out _;(with_reducible repeat (first|refine zz07 ?_ _|refine zz09 ?_|refine zz08 ?_ _));exact BK176.out⟩
   have n1_ : Aside0 (((((w10.setCell ⟨gb183,0,none⟩ (.int .i64 t178)).setCell ⟨gb183,1,none⟩ (.int .i64 t179)).setCell ⟨gb183,2,none⟩ (.bool t180)).setCell ⟨gb183,3,none⟩ (.int .i64 t181)).heap[gb177]? = some (.cells #[.int .i64 0,.int .i64 0,.bool false,.int .i64 0] 95 (0,0))):=⟨by (with_reducible repeat (first|refine zz07 ?_ _|refine zz09 ?_|refine zz08 ?_ _));refine zz33 ?_ NB177_183.out _;(with_reducible repeat (first|refine zz07 ?_ _|refine zz09 ?_|refine zz08 ?_ _));refine zz33 ?_ NB177_183.out _;(with_reducible repeat (first|refine zz07 ?_ _|refine zz09 ?_|refine zz08 ?_ _));refine zz33 ?_ NB177_183.out _;(with_reducible repeat (first|refine zz07 ?_ _|refine zz09 ?_|refine zz08 ?_ _));refine zz33 ?_ NB177_183.out _;(with_reducible repeat (first|refine zz07 ?_ _|refine zz09 ?_|refine zz08 ?_ _));exact BK177.out⟩
   have n2_ : Aside0 (((((w10.setCell ⟨gb183,0,none⟩ (.int .i64 t178)).setCell ⟨gb183,1,none⟩ (.int .i64 t179)).setCell ⟨gb183,2,none⟩ (.bool t180)).setCell ⟨gb183,3,none⟩ (.int .i64 t181)).heap[gb183]? = some (.cells #[.int .i64 t178,.int .i64 t179,.bool t180,.int .i64 t181] 95 (0,0))):=⟨by (with_reducible repeat (first|refine zz07 ?_ _|refine zz09 ?_|refine zz08 ?_ _));refine zz35 (cs:=#[.int .i64 t178,.int .i64 t179,.bool t180,.int .i64 0]) ?_ 3 _ rfl;(with_reducible repeat (first|refine zz07 ?_ _|refine zz09 ?_|refine zz08 ?_ _));refine zz35 (cs:=#[.int .i64 t178,.int .i64 t179,.bool false,.int .i64 0]) ?_ 2 _ rfl;(with_reducible repeat (first|refine zz07 ?_ _|refine zz09 ?_|refine zz08 ?_ _));refine zz35 (cs:=#[.int .i64 t178,.int .i64 0,.bool false,.int .i64 0]) ?_ 1 _ rfl;(with_reducible repeat (first|refine zz07 ?_ _|refine zz09 ?_|refine zz08 ?_ _));refine zz35 (cs:=#[.int .i64 0,.int .i64 0,.bool false,.int .i64 0]) ?_ 0 _ rfl;(with_reducible repeat (first|refine zz07 ?_ _|refine zz09 ?_|refine zz08 ?_ _));exact BK183.out⟩
   have n3_ : Aside0 (Below w.heap.size w ((((w10.setCell ⟨gb183,0,none⟩ (.int .i64 t178)).setCell ⟨gb183,1,none⟩ (.int .i64 t179)).setCell ⟨gb183,2,none⟩ (.bool t180)).setCell ⟨gb183,3,none⟩ (.int .i64 t181))):=⟨by repeat (first|(with_reducible first|exact HB.out|apply zz03|apply zz01|apply zz02|refine zz10 ?_ GE176.out|refine zz10 ?_ GE177.out|refine zz10 ?_ GE183.out)|exact HB.out)⟩
   (try clear BK176)
   (try clear BK177)
   (try clear BK183)
   (try clear HB)
   generalize ((((w10.setCell ⟨gb183,0,none⟩ (.int .i64 t178)).setCell ⟨gb183,1,none⟩ (.int .i64 t179)).setCell ⟨gb183,2,none⟩ (.bool t180)).setCell ⟨gb183,3,none⟩ (.int .i64 t181)) = w14 at n0_ n1_ n2_ n3_ ⊢
   have BK176 := n0_
   have BK177 := n1_
   have BK183 := n2_
   have HB := n3_
   clear n0_ n1_ n2_ n3_
   have n0_ := zz00 (zz09 BK176.out)
   have n1_ := zz00 (zz09 BK177.out)
   have n2_ := zz00 (zz09 BK183.out)
   have n3_ := zz00 (zz02 HB.out)
   clear BK176
   clear BK177
   clear BK183
   clear HB
   have BK176 := n0_
   have BK177 := n1_
   have BK183 := n2_
   have HB := n3_
   clear n0_ n1_ n2_ n3_
   refine start_ (n:=14) (S:=fun w'=>w'.cell? ⟨gb176,0,none⟩ = some (.int .i64 a0_0) ∧ w'.cell? ⟨gb176,1,none⟩ = some (.int .i64 a0_1) ∧ w'.cell? ⟨gb176,2,none⟩ = some (.bool a0_2) ∧ w'.cell? ⟨gb176,3,none⟩ = some (.int .i64 a0_3)) (ds:=[]) #[false,false,false,false,false,false,false,false,false,false,false,false,false,false] (by kernel_rfl) rfl rfl ⟨(zz18 BK176.out 0).trans rfl,(zz18 BK176.out 1).trans rfl,(zz18 BK176.out 2).trans rfl,(zz18 BK176.out 3).trans rfl⟩ (fun hHeld=>?_);refine with_tabW heb_look.tab4 heb_look.bits4 (fun HT_ HW_=>?_)
   generalize w14.drew = w15 at BK176 BK177 BK183 HB hHeld ⊢
   refine pure_ (i:=0) (N:=some 20) (v:=?_) (a':=?_) #[true,false,false,false,false,false,false,false,false,false,false,false,false,false] rfl rfl (any_of HT_.out (by kernel_rfl)) (fun _ _ _ h=>h) (Or.inl ⟨by rfl,?_⟩) ?_ ?_
   rotate_left
   ·
    intro w'
    go_simp
    with_reducible rfl
   rotate_left
   ·
    simp only [Act.put, zz11, zz12, zz13, i64_w, i32_w]
    rfl
   refine take_ (i:=1) (N:=some 21) (v:=?_) (a':=?_) #[true,true,false,false,false,false,false,false,false,false,false,false,false,false] rfl rfl (take_ofW HT_.out HW_.out (by kernel_rfl)) (fun _ _ _ h=>h) (Or.inl ⟨by rfl,?_⟩) hHeld ?_ ?_
   rotate_left
   ·
    rintro w' ⟨s0, s1, s2, s3⟩
    go_simp
    with_reducible rfl
   rotate_left
   ·
    simp only [Act.put, zz11, zz12, zz13, i64_w, i32_w]
    rfl
   refine pure_ (i:=2) (N:=some 22) (v:=?_) (a':=?_) #[true,true,true,false,false,false,false,false,false,false,false,false,false,false] rfl rfl (any_of HT_.out (by kernel_rfl)) (fun _ _ _ h=>h) (Or.inl ⟨by rfl,?_⟩) ?_ ?_
   rotate_left
   ·
    intro w'
    go_simp
    with_reducible rfl
   rotate_left
   ·
    simp only [Act.put, zz11, zz12, zz13, i64_w, i32_w]
    rfl
   refine pure_ (i:=3) (N:=some 23) (v:=?_) (a':=?_) #[true,true,true,true,false,false,false,false,false,false,false,false,false,false] rfl rfl (any_of HT_.out (by kernel_rfl)) (fun _ _ _ h=>h) (Or.inl ⟨by rfl,?_⟩) ?_ ?_
   rotate_left
   ·
    intro w'
    go_simp
    with_reducible rfl
   rotate_left
   ·
    simp only [Act.put, zz11, zz12, zz13, i64_w, i32_w]
    rfl
   refine pure_ (i:=4) (N:=some 24) (v:=undef) (a':=?_) #[true,true,true,true,true,false,false,false,false,false,false,false,false,false] rfl rfl (any_of HT_.out (by kernel_rfl)) (fun _ _ _ h=>h) (Or.inr ⟨by rfl,rfl⟩) ?_ ?_
   rotate_left
   ·
    simp only [Act.put, zz11, zz12, zz13, i64_w, i32_w]
    rfl
   refine pure_ (i:=5) (N:=some 25) (v:=undef) (a':=?_) #[true,true,true,true,true,true,false,false,false,false,false,false,false,false] rfl rfl (any_of HT_.out (by kernel_rfl)) (fun _ _ _ h=>h) (Or.inr ⟨by rfl,rfl⟩) ?_ ?_
   rotate_left
   ·
    simp only [Act.put, zz11, zz12, zz13, i64_w, i32_w]
    rfl
   refine pure_ (i:=6) (N:=some 26) (v:=undef) (a':=?_) #[true,true,true,true,true,true,true,false,false,false,false,false,false,false] rfl rfl (any_of HT_.out (by kernel_rfl)) (fun _ _ _ h=>h) (Or.inr ⟨by rfl,rfl⟩) ?_ ?_
   rotate_left
   ·
    simp only [Act.put, zz11, zz12, zz13, i64_w, i32_w]
    rfl
   refine pure_ (i:=7) (N:=some 27) (v:=undef) (a':=?_) #[true,true,true,true,true,true,true,true,false,false,false,false,false,false] rfl rfl (any_of HT_.out (by kernel_rfl)) (fun _ _ _ h=>h) (Or.inr ⟨by rfl,rfl⟩) ?_ ?_
   rotate_left
   ·
    simp only [Act.put, zz11, zz12, zz13, i64_w, i32_w]
    rfl
   refine pure_ (i:=8) (N:=some 28) (v:=undef) (a':=?_) #[true,true,true,true,true,true,true,true,true,false,false,false,false,false] rfl rfl (any_of HT_.out (by kernel_rfl)) (fun _ _ _ h=>h) (Or.inr ⟨by rfl,rfl⟩) ?_ ?_
   rotate_left
   ·
    simp only [Act.put, zz11, zz12, zz13, i64_w, i32_w]
    rfl
   refine pure_ (i:=9) (N:=some 29) (v:=undef) (a':=?_) #[true,true,true,true,true,true,true,true,true,true,false,false,false,false] rfl rfl (any_of HT_.out (by kernel_rfl)) (fun _ _ _ h=>h) (Or.inr ⟨by rfl,rfl⟩) ?_ ?_
   rotate_left
   ·
    simp only [Act.put, zz11, zz12, zz13, i64_w, i32_w]
    rfl
   refine pure_ (i:=10) (N:=some 30) (v:=undef) (a':=?_) #[true,true,true,true,true,true,true,true,true,true,true,false,false,false] rfl rfl (any_of HT_.out (by kernel_rfl)) (fun _ _ _ h=>h) (Or.inr ⟨by rfl,rfl⟩) ?_ ?_
   rotate_left
   ·
    simp only [Act.put, zz11, zz12, zz13, i64_w, i32_w]
    rfl
   refine pure_ (i:=11) (N:=some 31) (v:=undef) (a':=?_) #[true,true,true,true,true,true,true,true,true,true,true,true,false,false] rfl rfl (any_of HT_.out (by kernel_rfl)) (fun _ _ _ h=>h) (Or.inr ⟨by rfl,rfl⟩) ?_ ?_
   rotate_left
   ·
    simp only [Act.put, zz11, zz12, zz13, i64_w, i32_w]
    rfl
   refine pure_ (i:=12) (N:=some 32) (v:=?_) (a':=?_) #[true,true,true,true,true,true,true,true,true,true,true,true,true,false] rfl rfl (any_of HT_.out (by kernel_rfl)) (fun _ _ _ h=>h) (Or.inl ⟨by rfl,?_⟩) ?_ ?_
   rotate_left
   ·
    intro w'
    go_simp
    with_reducible rfl
   rotate_left
   ·
    simp only [Act.put, zz11, zz12, zz13, i64_w, i32_w]
    rfl
   refine pure_ (i:=13) (N:=some 19) (v:=?_) (a':=?_) #[true,true,true,true,true,true,true,true,true,true,true,true,true,true] rfl rfl (any_of HT_.out (by kernel_rfl)) (fun _ _ _ h=>h) (Or.inl ⟨by rfl,?_⟩) ?_ ?_
   rotate_left
   ·
    intro w'
    go_simp
    with_reducible rfl
   rotate_left
   ·
    simp only [Act.put, zz11, zz12, zz13, i64_w, i32_w]
    rfl
   refine done_ (done_of HT_.out (by kernel_rfl)) ?_
   have hcz16_0 : w15.cell? ⟨gb177, 0, none⟩ = some (.int .i64 0) := (zz18 BK177.out 0).trans rfl
   have hcz16_1 : w15.cell? ⟨gb177, 1, none⟩ = some (.int .i64 0) := (zz18 BK177.out 1).trans rfl
   have hcz16_2 : w15.cell? ⟨gb177, 2, none⟩ = some (.bool false) := (zz18 BK177.out 2).trans rfl
   have hcz16_3 : w15.cell? ⟨gb177, 3, none⟩ = some (.int .i64 0) := (zz18 BK177.out 3).trans rfl
   have hfz16_0 := zz17 BK177.out 0
   have hfz16_1 := zz17 BK177.out 1
   have hfz16_2 := zz17 BK177.out 2
   have hfz16_3 := zz17 BK177.out 3
   try go_wp2
   refine bodyPost_ret (results_ct rfl _ _ gb177 95 #[.int .i64 0,.int .i64 0,.bool false,.int .i64 0] (0,0) _ rfl (by (with_reducible repeat (first|refine zz07 ?_ _|refine zz09 ?_|refine zz08 ?_ _));refine zz35 (cs:=#[.int .i64 0,.int .i64 0,.bool false,.int .i64 0]) ?_ 3 _ rfl;(with_reducible repeat (first|refine zz07 ?_ _|refine zz09 ?_|refine zz08 ?_ _));refine zz35 (cs:=#[.int .i64 0,.int .i64 0,.bool false,.int .i64 0]) ?_ 2 _ rfl;(with_reducible repeat (first|refine zz07 ?_ _|refine zz09 ?_|refine zz08 ?_ _));refine zz35 (cs:=#[.int .i64 0,.int .i64 0,.bool false,.int .i64 0]) ?_ 1 _ rfl;(with_reducible repeat (first|refine zz07 ?_ _|refine zz09 ?_|refine zz08 ?_ _));refine zz35 (cs:=#[.int .i64 0,.int .i64 0,.bool false,.int .i64 0]) ?_ 0 _ rfl;(with_reducible repeat (first|refine zz07 ?_ _|refine zz09 ?_|refine zz08 ?_ _));exact BK177.out) Tryz.underlying95 rfl (by kernel_rfl)) rfl ?_
   exact ⟨by first|rfl|(simp [errW_none,errW_some] <;> rfl)|(simp [*,errW_none,errW_some] <;> rfl),by repeat (first|(with_reducible first|exact HB.out|apply zz03|apply zz01|apply zz02|refine zz10 ?_ GE176.out|refine zz10 ?_ GE177.out|refine zz10 ?_ GE183.out)|exact HB.out)⟩
  ·
   rw [if_neg c4] at H
   have c4b0 : decide (a0_3 < 1) = false := decide_eq_false c4
   clear c4
   replace H := zz14.mp H
   obtain ⟨t184, A170, H⟩ := H
   replace H : (if a0_3 > t184 then (some (0, 0, false, 0, 4)) else (some (t178, t179, t180, t181, 0))) = some (r1, r2, r3, r4, r5) := H
   have A17 := zz00 A170
   clear A170
   by_cases c18 : a0_3 > t184
   ·
    rw [if_pos c18] at H
    have c18b0 : decide (t184 < a0_3) = true := decide_eq_true c18
    clear c18
    simp only [zz15, zz16] at H
    obtain ⟨rfl, rfl, rfl, rfl, rfl⟩ := H
    go_enter Tryz.func79, Tryz.ntmps79
    try go_wp2_with (first|((with_reducible refine zz24 (N:=1) rfl ?_);refine zz30 ?hg (N:=1) ?hd (cs:=#[.int .i64 a0_0,.int .i64 a0_1,.bool a0_2,.int .i64 a0_3]) (t:=34) ?hr ?_;(case hd=>rfl);(case hg=>rfl);(case hr=>first|(go_simp;done)|(go_simp;rfl));intro gb176 hg w19 hbox hb;have n0_:=zz00 (zz21 (by repeat (first|(with_reducible first|exact HB.out|apply zz03|apply zz01|apply zz02)|exact HB.out)) hb);have n1_:=zz00 (hbox);have n2_:=zz00 ((by rw [hg];exact (zz22 (by repeat (first|(with_reducible first|exact HB.out|apply zz03|apply zz01|apply zz02)|exact HB.out))) : w.heap.size ≤ gb176));have n3_:=zz00 ((by rw [hg];exact (zz22 (by repeat (first|(with_reducible first|exact HB.out|apply zz03|apply zz01|apply zz02)|exact HB.out))) : w.heap.size ≤ gb176));clear HB;have HB:=n0_;have BK176:=n1_;have GW176:=n2_;have GE176:=n3_;clear n0_ n1_ n2_ n3_;clear hb hbox hg)|((with_reducible refine zz24 (N:=2) rfl ?_);refine zz30 ?hg (N:=2) ?hd (cs:=#[.int .i64 0,.int .i64 0,.bool false,.int .i64 0]) (t:=95) ?hr ?_;(case hd=>rfl);(case hg=>rfl);(case hr=>first|(go_simp;done)|(go_simp;rfl));intro gb177 hg w20 hbox hb;have n0_:=zz00 (zz34 (g:=gb176) (o:=.cells #[.int .i64 a0_0,.int .i64 a0_1,.bool a0_2,.int .i64 a0_3] 34 (0,0)) (by (with_reducible repeat (first|refine zz07 ?_ _|refine zz09 ?_|refine zz08 ?_ _));exact BK176.out) hb);have n1_:=zz00 (zz21 (by repeat (first|(with_reducible first|exact HB.out|apply zz03|apply zz01|apply zz02|refine zz10 ?_ GE176.out)|exact HB.out)) hb);have n2_:=zz00 (hbox);have n3_:=zz00 ((by rw [hg];exact (zz22 (by repeat (first|(with_reducible first|exact HB.out|apply zz03|apply zz01|apply zz02|refine zz10 ?_ GE176.out)|exact HB.out))) : w.heap.size ≤ gb177));have n4_:=zz00 ((by rw [hg];exact (zz22 (by repeat (first|(with_reducible first|exact HB.out|apply zz03|apply zz01|apply zz02|refine zz10 ?_ GE176.out)|exact HB.out))) : w.heap.size ≤ gb177));have n5_:=zz00 ((by rw [hg];exact Nat.ne_of_lt (blk_lt (g:=gb176) (o:=.cells #[.int .i64 a0_0,.int .i64 a0_1,.bool a0_2,.int .i64 a0_3] 34 (0,0)) (by (with_reducible repeat (first|refine zz07 ?_ _|refine zz09 ?_|refine zz08 ?_ _));exact BK176.out)) : gb176 ≠ gb177));have n6_:=zz00 ((by rw [hg];exact Nat.ne_of_gt (blk_lt (g:=gb176) (o:=.cells #[.int .i64 a0_0,.int .i64 a0_1,.bool a0_2,.int .i64 a0_3] 34 (0,0)) (by (with_reducible repeat (first|refine zz07 ?_ _|refine zz09 ?_|refine zz08 ?_ _));exact BK176.out)) : gb177 ≠ gb176));clear BK176;clear HB;have BK176:=n0_;have HB:=n1_;have BK177:=n2_;have GW177:=n3_;have GE177:=n4_;have NB176_177:=n5_;have NB177_176:=n6_;clear n0_ n1_ n2_ n3_ n4_ n5_ n6_;clear hb hbox hg;have hnb21:=NB176_177.out;have hnc21:=NB177_176.out;have hcz22_0 : w20.cell? ⟨gb176,0,none⟩ = some (.int .i64 a0_0):=(zz18 BK176.out 0).trans rfl;have hcz22_1 : w20.cell? ⟨gb176,1,none⟩ = some (.int .i64 a0_1):=(zz18 BK176.out 1).trans rfl;have hcz22_2 : w20.cell? ⟨gb176,2,none⟩ = some (.bool a0_2):=(zz18 BK176.out 2).trans rfl;have hcz22_3 : w20.cell? ⟨gb176,3,none⟩ = some (.int .i64 a0_3):=(zz18 BK176.out 3).trans rfl;have hfz22_0:=zz17 BK176.out 0;have hfz22_1:=zz17 BK176.out 1;have hfz22_2:=zz17 BK176.out 2;have hfz22_3:=zz17 BK176.out 3)|((with_reducible refine zz23 (f:=101) rfl ?_);refine zz25 (some 11) rfl rfl Tryz.func101 (by kernel_rfl) rfl #[.int .i64 a0_0,.agg #[.int .i64 a0_1,.bool a0_2]] rfl (by (try simp only [List.map_toArray,List.map_cons,List.map_nil]);first|done|rfl|(simp only [List.length_drop,List.length_take];rfl)) ?_;(with_reducible refine (heb_find.calls k a0_0 a0_1 a0_2 t178 t179 t180 t181 t182 _ A2.out).mono ?_);rintro e w23 ⟨rfl,hb⟩;refine ⟨_,rfl,?_⟩;have n0_:=zz00 (zz34 (g:=gb176) (o:=.cells #[.int .i64 a0_0,.int .i64 a0_1,.bool a0_2,.int .i64 a0_3] 34 (0,0)) (by (with_reducible repeat (first|refine zz07 ?_ _|refine zz09 ?_|refine zz08 ?_ _));exact BK176.out) hb);have n1_:=zz00 (zz34 (g:=gb177) (o:=.cells #[.int .i64 0,.int .i64 0,.bool false,.int .i64 0] 95 (0,0)) (by (with_reducible repeat (first|refine zz07 ?_ _|refine zz09 ?_|refine zz08 ?_ _));exact BK177.out) hb);have n2_:=zz00 (zz21 (by repeat (first|(with_reducible first|exact HB.out|apply zz03|apply zz01|apply zz02|refine zz10 ?_ GE176.out|refine zz10 ?_ GE177.out)|exact HB.out)) hb);clear BK176;clear BK177;clear HB;have BK176:=n0_;have BK177:=n1_;have HB:=n2_;clear n0_ n1_ n2_;(try clear hb);(try clear hb2);(try clear hk);(try clear hi))|((with_reducible refine zz24 (N:=4) rfl ?_);refine zz30 ?hg (N:=4) ?hd (cs:=#[.int .i64 0,.int .i64 0,.bool false,.int .i64 0]) (t:=95) ?hr ?_;(case hd=>rfl);(case hg=>rfl);(case hr=>first|(go_simp;done)|(go_simp;rfl));intro gb183 hg w24 hbox hb;have n0_:=zz00 (zz34 (g:=gb176) (o:=.cells #[.int .i64 a0_0,.int .i64 a0_1,.bool a0_2,.int .i64 a0_3] 34 (0,0)) (by (with_reducible repeat (first|refine zz07 ?_ _|refine zz09 ?_|refine zz08 ?_ _));exact BK176.out) hb);have n1_:=zz00 (zz34 (g:=gb177) (o:=.cells #[.int .i64 0,.int .i64 0,.bool false,.int .i64 0] 95 (0,0)) (by (with_reducible repeat (first|refine zz07 ?_ _|refine zz09 ?_|refine zz08 ?_ _));exact BK177.out) hb);have n2_:=zz00 (zz21 (by repeat (first|(with_reducible first|exact HB.out|apply zz03|apply zz01|apply zz02|refine zz10 ?_ GE176.out|refine zz10 ?_ GE177.out)|exact HB.out)) hb);have n3_:=zz00 (hbox);have n4_:=zz00 ((by rw [hg];exact (zz22 (by repeat (first|(with_reducible first|exact HB.out|apply zz03|apply zz01|apply zz02|refine zz10 ?_ GE176.out|refine zz10 ?_ GE177.out)|exact HB.out))) : w.heap.size ≤ gb183));have n5_:=zz00 ((by rw [hg];exact (zz22 (by repeat (first|(with_reducible first|exact HB.out|apply zz03|apply zz01|apply zz02|refine zz10 ?_ GE176.out|refine zz10 ?_ GE177.out)|exact HB.out))) : w.heap.size ≤ gb183));have n6_:=zz00 ((by rw [hg];exact Nat.ne_of_lt (blk_lt (g:=gb176) (o:=.cells #[.int .i64 a0_0,.int .i64 a0_1,.bool a0_2,.int .i64 a0_3] 34 (0,0)) (by (with_reducible repeat (first|refine zz07 ?_ _|refine zz09 ?_|refine zz08 ?_ _));exact BK176.out)) : gb176 ≠ gb183));have n7_:=zz00 ((by rw [hg];exact Nat.ne_of_gt (blk_lt (g:=gb176) (o:=.cells #[.int .i64 a0_0,.int .i64 a0_1,.bool a0_2,.int .i64 a0_3] 34 (0,0)) (by (with_reducible repeat (first|refine zz07 ?_ _|refine zz09 ?_|refine zz08 ?_ _));exact BK176.out)) : gb183 ≠ gb176));have n8_:=zz00 ((by rw [hg];exact Nat.ne_of_lt (blk_lt (g:=gb177) (o:=.cells #[.int .i64 0,.int .i64 0,.bool false,.int .i64 0] 95 (0,0)) (by (with_reducible repeat (first|refine zz07 ?_ _|refine zz09 ?_|refine zz08 ?_ _));exact BK177.out)) : gb177 ≠ gb183));have n9_:=zz00 ((by rw [hg];exact Nat.ne_of_gt (blk_lt (g:=gb177) (o:=.cells #[.int .i64 0,.int .i64 0,.bool false,.int .i64 0] 95 (0,0)) (by (with_reducible repeat (first|refine zz07 ?_ _|refine zz09 ?_|refine zz08 ?_ _));exact BK177.out)) : gb183 ≠ gb177));clear BK176;clear BK177;clear HB;have BK176:=n0_;have BK177:=n1_;have HB:=n2_;have BK183:=n3_;have GW183:=n4_;have GE183:=n5_;have NB176_183:=n6_;have NB183_176:=n7_;have NB177_183:=n8_;have NB183_177:=n9_;clear n0_ n1_ n2_ n3_ n4_ n5_ n6_ n7_ n8_ n9_;clear hb hbox hg;have hnb25:=NB183_176.out;have hnc25:=NB176_183.out;have hnb26:=NB183_177.out;have hnc26:=NB177_183.out;have hcz27_0 : w24.cell? ⟨gb183,0,none⟩ = some (.int .i64 0):=(zz18 BK183.out 0).trans rfl;have hcz27_1 : w24.cell? ⟨gb183,1,none⟩ = some (.int .i64 0):=(zz18 BK183.out 1).trans rfl;have hcz27_2 : w24.cell? ⟨gb183,2,none⟩ = some (.bool false):=(zz18 BK183.out 2).trans rfl;have hcz27_3 : w24.cell? ⟨gb183,3,none⟩ = some (.int .i64 0):=(zz18 BK183.out 3).trans rfl;have hfz27_0:=zz17 BK183.out 0;have hfz27_1:=zz17 BK183.out 1;have hfz27_2:=zz17 BK183.out 2;have hfz27_3:=zz17 BK183.out 3))
    have n0_ : Aside0 (((((w24.setCell ⟨gb183,0,none⟩ (.int .i64 t178)).setCell ⟨gb183,1,none⟩ (.int .i64 t179)).setCell ⟨gb183,2,none⟩ (.bool t180)).setCell ⟨gb183,3,none⟩ (.int .i64 t181)).heap[gb176]? = some (.cells #[.int .i64 a0_0,.int .i64 a0_1,.bool a0_2,.int .i64 a0_3] 34 (0,0))):=⟨by (with_reducible repeat (first|refine zz07 ?_ _|refine zz09 ?_|refine zz08 ?_ _));refine zz33 ?_ NB176_183.out _;(with_reducible repeat (first|refine zz07 ?_ _|refine zz09 ?_|refine zz08 ?_ _));refine zz33 ?_ NB176_183.out _;(with_reducible repeat (first|refine zz07 ?_ _|refine zz09 ?_|refine zz08 ?_ _));refine zz33 ?_ NB176_183.out _;(with_reducible repeat (first|refine zz07 ?_ _|refine zz09 ?_|refine zz08 ?_ _));refine zz33 ?_ NB176_183.out _;(with_reducible repeat (first|refine zz07 ?_ _|refine zz09 ?_|refine zz08 ?_ _));exact BK176.out⟩
    have n1_ : Aside0 (((((w24.setCell ⟨gb183,0,none⟩ (.int .i64 t178)).setCell ⟨gb183,1,none⟩ (.int .i64 t179)).setCell ⟨gb183,2,none⟩ (.bool t180)).setCell ⟨gb183,3,none⟩ (.int .i64 t181)).heap[gb177]? = some (.cells #[.int .i64 0,.int .i64 0,.bool false,.int .i64 0] 95 (0,0))):=⟨by (with_reducible repeat (first|refine zz07 ?_ _|refine zz09 ?_|refine zz08 ?_ _));refine zz33 ?_ NB177_183.out _;(with_reducible repeat (first|refine zz07 ?_ _|refine zz09 ?_|refine zz08 ?_ _));refine zz33 ?_ NB177_183.out _;(with_reducible repeat (first|refine zz07 ?_ _|refine zz09 ?_|refine zz08 ?_ _));refine zz33 ?_ NB177_183.out _;(with_reducible repeat (first|refine zz07 ?_ _|refine zz09 ?_|refine zz08 ?_ _));refine zz33 ?_ NB177_183.out _;(with_reducible repeat (first|refine zz07 ?_ _|refine zz09 ?_|refine zz08 ?_ _));exact BK177.out⟩
    have n2_ : Aside0 (((((w24.setCell ⟨gb183,0,none⟩ (.int .i64 t178)).setCell ⟨gb183,1,none⟩ (.int .i64 t179)).setCell ⟨gb183,2,none⟩ (.bool t180)).setCell ⟨gb183,3,none⟩ (.int .i64 t181)).heap[gb183]? = some (.cells #[.int .i64 t178,.int .i64 t179,.bool t180,.int .i64 t181] 95 (0,0))):=⟨by (with_reducible repeat (first|refine zz07 ?_ _|refine zz09 ?_|refine zz08 ?_ _));refine zz35 (cs:=#[.int .i64 t178,.int .i64 t179,.bool t180,.int .i64 0]) ?_ 3 _ rfl;(with_reducible repeat (first|refine zz07 ?_ _|refine zz09 ?_|refine zz08 ?_ _));refine zz35 (cs:=#[.int .i64 t178,.int .i64 t179,.bool false,.int .i64 0]) ?_ 2 _ rfl;(with_reducible repeat (first|refine zz07 ?_ _|refine zz09 ?_|refine zz08 ?_ _));refine zz35 (cs:=#[.int .i64 t178,.int .i64 0,.bool false,.int .i64 0]) ?_ 1 _ rfl;(with_reducible repeat (first|refine zz07 ?_ _|refine zz09 ?_|refine zz08 ?_ _));refine zz35 (cs:=#[.int .i64 0,.int .i64 0,.bool false,.int .i64 0]) ?_ 0 _ rfl;(with_reducible repeat (first|refine zz07 ?_ _|refine zz09 ?_|refine zz08 ?_ _));exact BK183.out⟩
    have n3_ : Aside0 (Below w.heap.size w ((((w24.setCell ⟨gb183,0,none⟩ (.int .i64 t178)).setCell ⟨gb183,1,none⟩ (.int .i64 t179)).setCell ⟨gb183,2,none⟩ (.bool t180)).setCell ⟨gb183,3,none⟩ (.int .i64 t181))):=⟨by repeat (first|(with_reducible first|exact HB.out|apply zz03|apply zz01|apply zz02|refine zz10 ?_ GE176.out|refine zz10 ?_ GE177.out|refine zz10 ?_ GE183.out)|exact HB.out)⟩
    (try clear BK176)
    (try clear BK177)
    (try clear BK183)
    (try clear HB)
    generalize ((((w24.setCell ⟨gb183,0,none⟩ (.int .i64 t178)).setCell ⟨gb183,1,none⟩ (.int .i64 t179)).setCell ⟨gb183,2,none⟩ (.bool t180)).setCell ⟨gb183,3,none⟩ (.int .i64 t181)) = w28 at n0_ n1_ n2_ n3_ ⊢
    have BK176 := n0_
    have BK177 := n1_
    have BK183 := n2_
    have HB := n3_
    clear n0_ n1_ n2_ n3_
    have n0_ := zz00 (zz09 BK176.out)
    have n1_ := zz00 (zz09 BK177.out)
    have n2_ := zz00 (zz09 BK183.out)
    have n3_ := zz00 (zz02 HB.out)
    clear BK176
    clear BK177
    clear BK183
    clear HB
    have BK176 := n0_
    have BK177 := n1_
    have BK183 := n2_
    have HB := n3_
    clear n0_ n1_ n2_ n3_
    refine start_ (n:=14) (S:=fun w'=>w'.cell? ⟨gb176,0,none⟩ = some (.int .i64 a0_0) ∧ w'.cell? ⟨gb176,1,none⟩ = some (.int .i64 a0_1) ∧ w'.cell? ⟨gb176,2,none⟩ = some (.bool a0_2) ∧ w'.cell? ⟨gb176,3,none⟩ = some (.int .i64 a0_3) ∧ w'.cell? ⟨gb183,0,none⟩ = some (.int .i64 t178) ∧ w'.cell? ⟨gb183,1,none⟩ = some (.int .i64 t179) ∧ w'.cell? ⟨gb183,2,none⟩ = some (.bool t180) ∧ w'.cell? ⟨gb183,3,none⟩ = some (.int .i64 t181)) (ds:=[]) #[false,false,false,false,false,false,false,false,false,false,false,false,false,false] (by kernel_rfl) rfl rfl ⟨(zz18 BK176.out 0).trans rfl,(zz18 BK176.out 1).trans rfl,(zz18 BK176.out 2).trans rfl,(zz18 BK176.out 3).trans rfl,(zz18 BK183.out 0).trans rfl,(zz18 BK183.out 1).trans rfl,(zz18 BK183.out 2).trans rfl,(zz18 BK183.out 3).trans rfl⟩ (fun hHeld=>?_);refine with_tabW heb_look.tab4 heb_look.bits4 (fun HT_ HW_=>?_)
    generalize w28.drew = w29 at BK176 BK177 BK183 HB hHeld ⊢
    refine pure_ (i:=0) (N:=some 20) (v:=?_) (a':=?_) #[true,false,false,false,false,false,false,false,false,false,false,false,false,false] rfl rfl (any_of HT_.out (by kernel_rfl)) (fun _ _ _ h=>h) (Or.inl ⟨by rfl,?_⟩) ?_ ?_
    rotate_left
    ·
     intro w'
     go_simp
     with_reducible rfl
    rotate_left
    ·
     simp only [Act.put, zz11, zz12, zz13, i64_w, i32_w]
     rfl
    refine take_ (i:=1) (N:=some 21) (v:=?_) (a':=?_) #[true,true,false,false,false,false,false,false,false,false,false,false,false,false] rfl rfl (take_ofW HT_.out HW_.out (by kernel_rfl)) (fun _ _ _ h=>h) (Or.inl ⟨by rfl,?_⟩) hHeld ?_ ?_
    rotate_left
    ·
     rintro w' ⟨s0, s1, s2, s3, s4, s5, s6, s7⟩
     go_simp
     with_reducible rfl
    rotate_left
    ·
     simp only [Act.put, zz11, zz12, zz13, i64_w, i32_w]
     rfl
    refine pure_ (i:=2) (N:=some 22) (v:=?_) (a':=?_) #[true,true,true,false,false,false,false,false,false,false,false,false,false,false] rfl rfl (any_of HT_.out (by kernel_rfl)) (fun _ _ _ h=>h) (Or.inl ⟨by rfl,?_⟩) ?_ ?_
    rotate_left
    ·
     intro w'
     go_simp
     with_reducible rfl
    rotate_left
    ·
     simp only [Act.put, zz11, zz12, zz13, i64_w, i32_w]
     rfl
    refine pure_ (i:=3) (N:=some 23) (v:=?_) (a':=?_) #[true,true,true,true,false,false,false,false,false,false,false,false,false,false] rfl rfl (any_of HT_.out (by kernel_rfl)) (fun _ _ _ h=>h) (Or.inl ⟨by rfl,?_⟩) ?_ ?_
    rotate_left
    ·
     intro w'
     go_simp
     with_reducible rfl
    rotate_left
    ·
     simp only [Act.put, zz11, zz12, zz13, i64_w, i32_w]
     rfl
    refine pure_ (i:=4) (N:=some 24) (v:=?_) (a':=?_) #[true,true,true,true,true,false,false,false,false,false,false,false,false,false] rfl rfl (any_of HT_.out (by kernel_rfl)) (fun _ _ _ h=>h) (Or.inl ⟨by rfl,?_⟩) ?_ ?_
    rotate_left
    ·
     intro w'
     go_simp
     with_reducible rfl
    rotate_left
    ·
     simp only [Act.put, zz11, zz12, zz13, i64_w, i32_w]
     rfl
    refine pure_ (i:=6) (N:=some 26) (v:=?_) (a':=?_) #[true,true,true,true,true,false,true,false,false,false,false,false,false,false] rfl rfl (any_of HT_.out (by kernel_rfl)) (fun _ _ _ h=>h) (Or.inl ⟨by rfl,?_⟩) ?_ ?_
    rotate_left
    ·
     intro w'
     go_simp
     with_reducible rfl
    rotate_left
    ·
     simp only [Act.put, zz11, zz12, zz13, i64_w, i32_w]
     rfl
    refine pure_ (i:=8) (N:=some 28) (v:=?_) (a':=?_) #[true,true,true,true,true,false,true,false,true,false,false,false,false,false] rfl rfl (any_of HT_.out (by kernel_rfl)) (fun _ _ _ h=>h) (Or.inl ⟨by rfl,?_⟩) ?_ ?_
    rotate_left
    ·
     intro w'
     go_simp
     with_reducible rfl
    rotate_left
    ·
     simp only [Act.put, zz11, zz12, zz13, i64_w, i32_w]
     rfl
    refine take_ (i:=5) (N:=some 25) (v:=?_) (a':=?_) #[true,true,true,true,true,true,true,false,true,false,false,false,false,false] rfl rfl (take_ofW HT_.out HW_.out (by kernel_rfl)) (fun _ _ _ h=>h) (Or.inl ⟨by rfl,?_⟩) hHeld ?_ ?_
    rotate_left
    ·
     rintro w' ⟨s0, s1, s2, s3, s4, s5, s6, s7⟩
     go_simp
     with_reducible rfl
    rotate_left
    ·
     simp only [Act.put, zz11, zz12, zz13, i64_w, i32_w]
     rfl
    refine take_ (i:=7) (N:=some 27) (v:=?_) (a':=?_) #[true,true,true,true,true,true,true,true,true,false,false,false,false,false] rfl rfl (take_ofW HT_.out HW_.out (by kernel_rfl)) (fun _ _ _ h=>h) (Or.inl ⟨by rfl,?_⟩) hHeld ?_ ?_
    rotate_left
    ·
     rintro w' ⟨s0, s1, s2, s3, s4, s5, s6, s7⟩
     go_simp
     with_reducible rfl
    rotate_left
    ·
     simp only [Act.put, zz11, zz12, zz13, i64_w, i32_w]
     rfl
    refine take_ (i:=9) (N:=some 29) (v:=?_) (a':=?_) #[true,true,true,true,true,true,true,true,true,true,false,false,false,false] rfl rfl (take_ofW HT_.out HW_.out (by kernel_rfl)) (fun _ _ _ h=>h) (Or.inl ⟨by rfl,?_⟩) hHeld ?_ ?_
    rotate_left
    ·
     rintro w' ⟨s0, s1, s2, s3, s4, s5, s6, s7⟩
     go_simp
     with_reducible rfl
    rotate_left
    ·
     simp only [Act.put, zz11, zz12, zz13, i64_w, i32_w]
     rfl
    refine one_ (i := 10) (N := some 30) #[true, true, true, true, true, true, true, true, true, true, true, false, false, false] rfl rfl (one_of HT_.out (by kernel_rfl)) (by decide) (fun K hK => ?_)
    refine goes_ Tryz.func102 (by kernel_rfl) rfl #[.agg #[.int .i64 t178,.int .i64 t179,.bool t180],.int .i64 t181] (by rfl) rfl rfl (by (try simp only [List.map_toArray,List.map_cons,List.map_nil]);first|done|rfl|(simp only [List.length_drop,List.length_take];rfl)) ?_
    with_reducible refine (month_Days.calls t178 t179 t180 t181 t184 _ ?side1 A17.out).mono ?_
    (case side1=>exact GlobT.below HGT (by repeat (first|(with_reducible first|exact HB.out|apply zz03|apply zz01|apply zz02|refine zz10 ?_ GE176.out|refine zz10 ?_ GE177.out|refine zz10 ?_ GE183.out)|exact HB.out)))
    rintro e w30 ⟨rfl, hb⟩
    refine ⟨_, rfl, ?_⟩
    have n0_:=zz00 (zz34 (g:=gb176) (o:=.cells #[.int .i64 a0_0,.int .i64 a0_1,.bool a0_2,.int .i64 a0_3] 34 (0,0)) (by (with_reducible repeat (first|refine zz07 ?_ _|refine zz09 ?_|refine zz08 ?_ _));exact BK176.out) hb)
    have n1_:=zz00 (zz34 (g:=gb177) (o:=.cells #[.int .i64 0,.int .i64 0,.bool false,.int .i64 0] 95 (0,0)) (by (with_reducible repeat (first|refine zz07 ?_ _|refine zz09 ?_|refine zz08 ?_ _));exact BK177.out) hb)
    have n2_:=zz00 (zz34 (g:=gb183) (o:=.cells #[.int .i64 t178,.int .i64 t179,.bool t180,.int .i64 t181] 95 (0,0)) (by (with_reducible repeat (first|refine zz07 ?_ _|refine zz09 ?_|refine zz08 ?_ _));exact BK183.out) hb)
    have n3_:=zz00 (zz21 (by repeat (first|(with_reducible first|exact HB.out|apply zz03|apply zz01|apply zz02|refine zz10 ?_ GE176.out|refine zz10 ?_ GE177.out|refine zz10 ?_ GE183.out)|exact HB.out)) hb)
    clear BK176
    clear BK177
    clear BK183
    clear HB
    have BK176 := n0_
    have BK177 := n1_
    have BK183 := n2_
    have HB := n3_
    clear n0_ n1_ n2_ n3_
    (try clear hb)
    (try clear hb2)
    (try clear hk)
    (try clear hi)
    refine hK.out _ _ ⟨(zz18 BK176.out 0).trans rfl,(zz18 BK176.out 1).trans rfl,(zz18 BK176.out 2).trans rfl,(zz18 BK176.out 3).trans rfl,(zz18 BK183.out 0).trans rfl,(zz18 BK183.out 1).trans rfl,(zz18 BK183.out 2).trans rfl,(zz18 BK183.out 3).trans rfl⟩ (fun hHeld=>?_)
    clear hK K
    refine norm_ (a' := ?_) ?_ ?_
    rotate_left
    ·
     show Act.put _ (some 30) _ = _
     simp only [Act.put, zz11, zz12, zz13, i64_w, i32_w]
     rfl
    refine pure_ (i:=11) (N:=some 31) (v:=?_) (a':=?_) #[true,true,true,true,true,true,true,true,true,true,true,true,false,false] rfl rfl (any_of HT_.out (by kernel_rfl)) (fun _ _ _ h=>h) (Or.inl ⟨by rfl,?_⟩) ?_ ?_
    rotate_left
    ·
     intro w'
     go_simp
     with_reducible rfl
    rotate_left
    ·
     simp only [Act.put, zz11, zz12, zz13, i64_w, i32_w]
     rfl
    refine pure_ (i:=12) (N:=some 32) (v:=?_) (a':=?_) #[true,true,true,true,true,true,true,true,true,true,true,true,true,false] rfl rfl (any_of HT_.out (by kernel_rfl)) (fun _ _ _ h=>h) (Or.inl ⟨by rfl,?_⟩) ?_ ?_
    rotate_left
    ·
     intro w'
     go_simp
     with_reducible rfl
    rotate_left
    ·
     simp only [Act.put, zz11, zz12, zz13, i64_w, i32_w]
     rfl
    refine pure_ (i:=13) (N:=some 19) (v:=?_) (a':=?_) #[true,true,true,true,true,true,true,true,true,true,true,true,true,true] rfl rfl (any_of HT_.out (by kernel_rfl)) (fun _ _ _ h=>h) (Or.inl ⟨by rfl,?_⟩) ?_ ?_
    rotate_left
    ·
     intro w'
     go_simp
     with_reducible rfl
    rotate_left
    ·
     simp only [Act.put, zz11, zz12, zz13, i64_w, i32_w]
     rfl
    refine done_ (done_of HT_.out (by kernel_rfl)) ?_
    have hcz31_0 : w30.cell? ⟨gb177, 0, none⟩ = some (.int .i64 0) := (zz18 BK177.out 0).trans rfl
    have hcz31_1 : w30.cell? ⟨gb177, 1, none⟩ = some (.int .i64 0) := (zz18 BK177.out 1).trans rfl
    have hcz31_2 : w30.cell? ⟨gb177, 2, none⟩ = some (.bool false) := (zz18 BK177.out 2).trans rfl
    have hcz31_3 : w30.cell? ⟨gb177, 3, none⟩ = some (.int .i64 0) := (zz18 BK177.out 3).trans rfl
    have hfz31_0 := zz17 BK177.out 0
    have hfz31_1 := zz17 BK177.out 1
    have hfz31_2 := zz17 BK177.out 2
    have hfz31_3 := zz17 BK177.out 3
    try go_wp2
    refine bodyPost_ret (results_ct rfl _ _ gb177 95 #[.int .i64 0,.int .i64 0,.bool false,.int .i64 0] (0,0) _ rfl (by (with_reducible repeat (first|refine zz07 ?_ _|refine zz09 ?_|refine zz08 ?_ _));refine zz35 (cs:=#[.int .i64 0,.int .i64 0,.bool false,.int .i64 0]) ?_ 3 _ rfl;(with_reducible repeat (first|refine zz07 ?_ _|refine zz09 ?_|refine zz08 ?_ _));refine zz35 (cs:=#[.int .i64 0,.int .i64 0,.bool false,.int .i64 0]) ?_ 2 _ rfl;(with_reducible repeat (first|refine zz07 ?_ _|refine zz09 ?_|refine zz08 ?_ _));refine zz35 (cs:=#[.int .i64 0,.int .i64 0,.bool false,.int .i64 0]) ?_ 1 _ rfl;(with_reducible repeat (first|refine zz07 ?_ _|refine zz09 ?_|refine zz08 ?_ _));refine zz35 (cs:=#[.int .i64 0,.int .i64 0,.bool false,.int .i64 0]) ?_ 0 _ rfl;(with_reducible repeat (first|refine zz07 ?_ _|refine zz09 ?_|refine zz08 ?_ _));exact BK177.out) Tryz.underlying95 rfl (by kernel_rfl)) rfl ?_
    exact ⟨by first|rfl|(simp [errW_none,errW_some] <;> rfl)|(simp [*,errW_none,errW_some] <;> rfl),by repeat (first|(with_reducible first|exact HB.out|apply zz03|apply zz01|apply zz02|refine zz10 ?_ GE176.out|refine zz10 ?_ GE177.out|refine zz10 ?_ GE183.out)|exact HB.out)⟩
   ·
    rw [if_neg c18] at H
    have c18b0 : decide (t184 < a0_3) = false := decide_eq_false c18
    clear c18
    simp only [zz15, zz16] at H
    obtain ⟨rfl, rfl, rfl, rfl, rfl⟩ := H
    go_enter Tryz.func79, Tryz.ntmps79
    try go_wp2_with (first|((with_reducible refine zz24 (N:=1) rfl ?_);refine zz30 ?hg (N:=1) ?hd (cs:=#[.int .i64 a0_0,.int .i64 a0_1,.bool a0_2,.int .i64 a0_3]) (t:=34) ?hr ?_;(case hd=>rfl);(case hg=>rfl);(case hr=>first|(go_simp;done)|(go_simp;rfl));intro gb176 hg w32 hbox hb;have n0_:=zz00 (zz21 (by repeat (first|(with_reducible first|exact HB.out|apply zz03|apply zz01|apply zz02)|exact HB.out)) hb);have n1_:=zz00 (hbox);have n2_:=zz00 ((by rw [hg];exact (zz22 (by repeat (first|(with_reducible first|exact HB.out|apply zz03|apply zz01|apply zz02)|exact HB.out))) : w.heap.size ≤ gb176));have n3_:=zz00 ((by rw [hg];exact (zz22 (by repeat (first|(with_reducible first|exact HB.out|apply zz03|apply zz01|apply zz02)|exact HB.out))) : w.heap.size ≤ gb176));clear HB;have HB:=n0_;have BK176:=n1_;have GW176:=n2_;have GE176:=n3_;clear n0_ n1_ n2_ n3_;clear hb hbox hg)|((with_reducible refine zz24 (N:=2) rfl ?_);refine zz30 ?hg (N:=2) ?hd (cs:=#[.int .i64 0,.int .i64 0,.bool false,.int .i64 0]) (t:=95) ?hr ?_;(case hd=>rfl);(case hg=>rfl);(case hr=>first|(go_simp;done)|(go_simp;rfl));intro gb177 hg w33 hbox hb;have n0_:=zz00 (zz34 (g:=gb176) (o:=.cells #[.int .i64 a0_0,.int .i64 a0_1,.bool a0_2,.int .i64 a0_3] 34 (0,0)) (by (with_reducible repeat (first|refine zz07 ?_ _|refine zz09 ?_|refine zz08 ?_ _));exact BK176.out) hb);have n1_:=zz00 (zz21 (by repeat (first|(with_reducible first|exact HB.out|apply zz03|apply zz01|apply zz02|refine zz10 ?_ GE176.out)|exact HB.out)) hb);have n2_:=zz00 (hbox);have n3_:=zz00 ((by rw [hg];exact (zz22 (by repeat (first|(with_reducible first|exact HB.out|apply zz03|apply zz01|apply zz02|refine zz10 ?_ GE176.out)|exact HB.out))) : w.heap.size ≤ gb177));have n4_:=zz00 ((by rw [hg];exact (zz22 (by repeat (first|(with_reducible first|exact HB.out|apply zz03|apply zz01|apply zz02|refine zz10 ?_ GE176.out)|exact HB.out))) : w.heap.size ≤ gb177));have n5_:=zz00 ((by rw [hg];exact Nat.ne_of_lt (blk_lt (g:=gb176) (o:=.cells #[.int .i64 a0_0,.int .i64 a0_1,.bool a0_2,.int .i64 a0_3] 34 (0,0)) (by (with_reducible repeat (first|refine zz07 ?_ _|refine zz09 ?_|refine zz08 ?_ _));exact BK176.out)) : gb176 ≠ gb177));have n6_:=zz00 ((by rw [hg];exact Nat.ne_of_gt (blk_lt (g:=gb176) (o:=.cells #[.int .i64 a0_0,.int .i64 a0_1,.bool a0_2,.int .i64 a0_3] 34 (0,0)) (by (with_reducible repeat (first|refine zz07 ?_ _|refine zz09 ?_|refine zz08 ?_ _));exact BK176.out)) : gb177 ≠ gb176));clear BK176;clear HB;have BK176:=n0_;have HB:=n1_;have BK177:=n2_;have GW177:=n3_;have GE177:=n4_;have NB176_177:=n5_;have NB177_176:=n6_;clear n0_ n1_ n2_ n3_ n4_ n5_ n6_;clear hb hbox hg;have hnb34:=NB176_177.out;have hnc34:=NB177_176.out;have hcz35_0 : w33.cell? ⟨gb176,0,none⟩ = some (.int .i64 a0_0):=(zz18 BK176.out 0).trans rfl;have hcz35_1 : w33.cell? ⟨gb176,1,none⟩ = some (.int .i64 a0_1):=(zz18 BK176.out 1).trans rfl;have hcz35_2 : w33.cell? ⟨gb176,2,none⟩ = some (.bool a0_2):=(zz18 BK176.out 2).trans rfl;have hcz35_3 : w33.cell? ⟨gb176,3,none⟩ = some (.int .i64 a0_3):=(zz18 BK176.out 3).trans rfl;have hfz35_0:=zz17 BK176.out 0;have hfz35_1:=zz17 BK176.out 1;have hfz35_2:=zz17 BK176.out 2;have hfz35_3:=zz17 BK176.out 3)|((with_reducible refine zz23 (f:=101) rfl ?_);refine zz25 (some 11) rfl rfl Tryz.func101 (by kernel_rfl) rfl #[.int .i64 a0_0,.agg #[.int .i64 a0_1,.bool a0_2]] rfl (by (try simp only [List.map_toArray,List.map_cons,List.map_nil]);first|done|rfl|(simp only [List.length_drop,List.length_take];rfl)) ?_;(with_reducible refine (heb_find.calls k a0_0 a0_1 a0_2 t178 t179 t180 t181 t182 _ A2.out).mono ?_);rintro e w36 ⟨rfl,hb⟩;refine ⟨_,rfl,?_⟩;have n0_:=zz00 (zz34 (g:=gb176) (o:=.cells #[.int .i64 a0_0,.int .i64 a0_1,.bool a0_2,.int .i64 a0_3] 34 (0,0)) (by (with_reducible repeat (first|refine zz07 ?_ _|refine zz09 ?_|refine zz08 ?_ _));exact BK176.out) hb);have n1_:=zz00 (zz34 (g:=gb177) (o:=.cells #[.int .i64 0,.int .i64 0,.bool false,.int .i64 0] 95 (0,0)) (by (with_reducible repeat (first|refine zz07 ?_ _|refine zz09 ?_|refine zz08 ?_ _));exact BK177.out) hb);have n2_:=zz00 (zz21 (by repeat (first|(with_reducible first|exact HB.out|apply zz03|apply zz01|apply zz02|refine zz10 ?_ GE176.out|refine zz10 ?_ GE177.out)|exact HB.out)) hb);clear BK176;clear BK177;clear HB;have BK176:=n0_;have BK177:=n1_;have HB:=n2_;clear n0_ n1_ n2_;(try clear hb);(try clear hb2);(try clear hk);(try clear hi))|((with_reducible refine zz24 (N:=4) rfl ?_);refine zz30 ?hg (N:=4) ?hd (cs:=#[.int .i64 0,.int .i64 0,.bool false,.int .i64 0]) (t:=95) ?hr ?_;(case hd=>rfl);(case hg=>rfl);(case hr=>first|(go_simp;done)|(go_simp;rfl));intro gb183 hg w37 hbox hb;have n0_:=zz00 (zz34 (g:=gb176) (o:=.cells #[.int .i64 a0_0,.int .i64 a0_1,.bool a0_2,.int .i64 a0_3] 34 (0,0)) (by (with_reducible repeat (first|refine zz07 ?_ _|refine zz09 ?_|refine zz08 ?_ _));exact BK176.out) hb);have n1_:=zz00 (zz34 (g:=gb177) (o:=.cells #[.int .i64 0,.int .i64 0,.bool false,.int .i64 0] 95 (0,0)) (by (with_reducible repeat (first|refine zz07 ?_ _|refine zz09 ?_|refine zz08 ?_ _));exact BK177.out) hb);have n2_:=zz00 (zz21 (by repeat (first|(with_reducible first|exact HB.out|apply zz03|apply zz01|apply zz02|refine zz10 ?_ GE176.out|refine zz10 ?_ GE177.out)|exact HB.out)) hb);have n3_:=zz00 (hbox);have n4_:=zz00 ((by rw [hg];exact (zz22 (by repeat (first|(with_reducible first|exact HB.out|apply zz03|apply zz01|apply zz02|refine zz10 ?_ GE176.out|refine zz10 ?_ GE177.out)|exact HB.out))) : w.heap.size ≤ gb183));have n5_:=zz00 ((by rw [hg];exact (zz22 (by repeat (first|(with_reducible first|exact HB.out|apply zz03|apply zz01|apply zz02|refine zz10 ?_ GE176.out|refine zz10 ?_ GE177.out)|exact HB.out))) : w.heap.size ≤ gb183));have n6_:=zz00 ((by rw [hg];exact Nat.ne_of_lt (blk_lt (g:=gb176) (o:=.cells #[.int .i64 a0_0,.int .i64 a0_1,.bool a0_2,.int .i64 a0_3] 34 (0,0)) (by (with_reducible repeat (first|refine zz07 ?_ _|refine zz09 ?_|refine zz08 ?_ _));exact BK176.out)) : gb176 ≠ gb183));have n7_:=zz00 ((by rw [hg];exact Nat.ne_of_gt (blk_lt (g:=gb176) (o:=.cells #[.int .i64 a0_0,.int .i64 a0_1,.bool a0_2,.int .i64 a0_3] 34 (0,0)) (by (with_reducible repeat (first|refine zz07 ?_ _|refine zz09 ?_|refine zz08 ?_ _));exact BK176.out)) : gb183 ≠ gb176));have n8_:=zz00 ((by rw [hg];exact Nat.ne_of_lt (blk_lt (g:=gb177) (o:=.cells #[.int .i64 0,.int .i64 0,.bool false,.int .i64 0] 95 (0,0)) (by (with_reducible repeat (first|refine zz07 ?_ _|refine zz09 ?_|refine zz08 ?_ _));exact BK177.out)) : gb177 ≠ gb183));have n9_:=zz00 ((by rw [hg];exact Nat.ne_of_gt (blk_lt (g:=gb177) (o:=.cells #[.int .i64 0,.int .i64 0,.bool false,.int .i64 0] 95 (0,0)) (by (with_reducible repeat (first|refine zz07 ?_ _|refine zz09 ?_|refine zz08 ?_ _));exact BK177.out)) : gb183 ≠ gb177));clear BK176;clear BK177;clear HB;have BK176:=n0_;have BK177:=n1_;have HB:=n2_;have BK183:=n3_;have GW183:=n4_;have GE183:=n5_;have NB176_183:=n6_;have NB183_176:=n7_;have NB177_183:=n8_;have NB183_177:=n9_;clear n0_ n1_ n2_ n3_ n4_ n5_ n6_ n7_ n8_ n9_;clear hb hbox hg;have hnb38:=NB183_176.out;have hnc38:=NB176_183.out;have hnb39:=NB183_177.out;have hnc39:=NB177_183.out;have hcz40_0 : w37.cell? ⟨gb183,0,none⟩ = some (.int .i64 0):=(zz18 BK183.out 0).trans rfl;have hcz40_1 : w37.cell? ⟨gb183,1,none⟩ = some (.int .i64 0):=(zz18 BK183.out 1).trans rfl;have hcz40_2 : w37.cell? ⟨gb183,2,none⟩ = some (.bool false):=(zz18 BK183.out 2).trans rfl;have hcz40_3 : w37.cell? ⟨gb183,3,none⟩ = some (.int .i64 0):=(zz18 BK183.out 3).trans rfl;have hfz40_0:=zz17 BK183.out 0;have hfz40_1:=zz17 BK183.out 1;have hfz40_2:=zz17 BK183.out 2;have hfz40_3:=zz17 BK183.out 3))
    have n0_ : Aside0 (((((w37.setCell ⟨gb183,0,none⟩ (.int .i64 t178)).setCell ⟨gb183,1,none⟩ (.int .i64 t179)).setCell ⟨gb183,2,none⟩ (.bool t180)).setCell ⟨gb183,3,none⟩ (.int .i64 t181)).heap[gb176]? = some (.cells #[.int .i64 a0_0,.int .i64 a0_1,.bool a0_2,.int .i64 a0_3] 34 (0,0))):=⟨by (with_reducible repeat (first|refine zz07 ?_ _|refine zz09 ?_|refine zz08 ?_ _));refine zz33 ?_ NB176_183.out _;(with_reducible repeat (first|refine zz07 ?_ _|refine zz09 ?_|refine zz08 ?_ _));refine zz33 ?_ NB176_183.out _;(with_reducible repeat (first|refine zz07 ?_ _|refine zz09 ?_|refine zz08 ?_ _));refine zz33 ?_ NB176_183.out _;(with_reducible repeat (first|refine zz07 ?_ _|refine zz09 ?_|refine zz08 ?_ _));refine zz33 ?_ NB176_183.out _;(with_reducible repeat (first|refine zz07 ?_ _|refine zz09 ?_|refine zz08 ?_ _));exact BK176.out⟩
    have n1_ : Aside0 (((((w37.setCell ⟨gb183,0,none⟩ (.int .i64 t178)).setCell ⟨gb183,1,none⟩ (.int .i64 t179)).setCell ⟨gb183,2,none⟩ (.bool t180)).setCell ⟨gb183,3,none⟩ (.int .i64 t181)).heap[gb177]? = some (.cells #[.int .i64 0,.int .i64 0,.bool false,.int .i64 0] 95 (0,0))):=⟨by (with_reducible repeat (first|refine zz07 ?_ _|refine zz09 ?_|refine zz08 ?_ _));refine zz33 ?_ NB177_183.out _;(with_reducible repeat (first|refine zz07 ?_ _|refine zz09 ?_|refine zz08 ?_ _));refine zz33 ?_ NB177_183.out _;(with_reducible repeat (first|refine zz07 ?_ _|refine zz09 ?_|refine zz08 ?_ _));refine zz33 ?_ NB177_183.out _;(with_reducible repeat (first|refine zz07 ?_ _|refine zz09 ?_|refine zz08 ?_ _));refine zz33 ?_ NB177_183.out _;(with_reducible repeat (first|refine zz07 ?_ _|refine zz09 ?_|refine zz08 ?_ _));exact BK177.out⟩
    have n2_ : Aside0 (((((w37.setCell ⟨gb183,0,none⟩ (.int .i64 t178)).setCell ⟨gb183,1,none⟩ (.int .i64 t179)).setCell ⟨gb183,2,none⟩ (.bool t180)).setCell ⟨gb183,3,none⟩ (.int .i64 t181)).heap[gb183]? = some (.cells #[.int .i64 t178,.int .i64 t179,.bool t180,.int .i64 t181] 95 (0,0))):=⟨by (with_reducible repeat (first|refine zz07 ?_ _|refine zz09 ?_|refine zz08 ?_ _));refine zz35 (cs:=#[.int .i64 t178,.int .i64 t179,.bool t180,.int .i64 0]) ?_ 3 _ rfl;(with_reducible repeat (first|refine zz07 ?_ _|refine zz09 ?_|refine zz08 ?_ _));refine zz35 (cs:=#[.int .i64 t178,.int .i64 t179,.bool false,.int .i64 0]) ?_ 2 _ rfl;(with_reducible repeat (first|refine zz07 ?_ _|refine zz09 ?_|refine zz08 ?_ _));refine zz35 (cs:=#[.int .i64 t178,.int .i64 0,.bool false,.int .i64 0]) ?_ 1 _ rfl;(with_reducible repeat (first|refine zz07 ?_ _|refine zz09 ?_|refine zz08 ?_ _));refine zz35 (cs:=#[.int .i64 0,.int .i64 0,.bool false,.int .i64 0]) ?_ 0 _ rfl;(with_reducible repeat (first|refine zz07 ?_ _|refine zz09 ?_|refine zz08 ?_ _));exact BK183.out⟩
    have n3_ : Aside0 (Below w.heap.size w ((((w37.setCell ⟨gb183,0,none⟩ (.int .i64 t178)).setCell ⟨gb183,1,none⟩ (.int .i64 t179)).setCell ⟨gb183,2,none⟩ (.bool t180)).setCell ⟨gb183,3,none⟩ (.int .i64 t181))):=⟨by repeat (first|(with_reducible first|exact HB.out|apply zz03|apply zz01|apply zz02|refine zz10 ?_ GE176.out|refine zz10 ?_ GE177.out|refine zz10 ?_ GE183.out)|exact HB.out)⟩
    (try clear BK176)
    (try clear BK177)
    (try clear BK183)
    (try clear HB)
    generalize ((((w37.setCell ⟨gb183,0,none⟩ (.int .i64 t178)).setCell ⟨gb183,1,none⟩ (.int .i64 t179)).setCell ⟨gb183,2,none⟩ (.bool t180)).setCell ⟨gb183,3,none⟩ (.int .i64 t181)) = w41 at n0_ n1_ n2_ n3_ ⊢
    have BK176 := n0_
    have BK177 := n1_
    have BK183 := n2_
    have HB := n3_
    clear n0_ n1_ n2_ n3_
    have n0_ := zz00 (zz09 BK176.out)
    have n1_ := zz00 (zz09 BK177.out)
    have n2_ := zz00 (zz09 BK183.out)
    have n3_ := zz00 (zz02 HB.out)
    clear BK176
    clear BK177
    clear BK183
    clear HB
    have BK176 := n0_
    have BK177 := n1_
    have BK183 := n2_
    have HB := n3_
    clear n0_ n1_ n2_ n3_
    refine start_ (n:=14) (S:=fun w'=>w'.cell? ⟨gb176,0,none⟩ = some (.int .i64 a0_0) ∧ w'.cell? ⟨gb176,1,none⟩ = some (.int .i64 a0_1) ∧ w'.cell? ⟨gb176,2,none⟩ = some (.bool a0_2) ∧ w'.cell? ⟨gb176,3,none⟩ = some (.int .i64 a0_3) ∧ w'.cell? ⟨gb183,0,none⟩ = some (.int .i64 t178) ∧ w'.cell? ⟨gb183,1,none⟩ = some (.int .i64 t179) ∧ w'.cell? ⟨gb183,2,none⟩ = some (.bool t180) ∧ w'.cell? ⟨gb183,3,none⟩ = some (.int .i64 t181)) (ds:=[]) #[false,false,false,false,false,false,false,false,false,false,false,false,false,false] (by kernel_rfl) rfl rfl ⟨(zz18 BK176.out 0).trans rfl,(zz18 BK176.out 1).trans rfl,(zz18 BK176.out 2).trans rfl,(zz18 BK176.out 3).trans rfl,(zz18 BK183.out 0).trans rfl,(zz18 BK183.out 1).trans rfl,(zz18 BK183.out 2).trans rfl,(zz18 BK183.out 3).trans rfl⟩ (fun hHeld=>?_);refine with_tabW heb_look.tab4 heb_look.bits4 (fun HT_ HW_=>?_)
    generalize w41.drew = w42 at BK176 BK177 BK183 HB hHeld ⊢
    refine pure_ (i:=0) (N:=some 20) (v:=?_) (a':=?_) #[true,false,false,false,false,false,false,false,false,false,false,false,false,false] rfl rfl (any_of HT_.out (by kernel_rfl)) (fun _ _ _ h=>h) (Or.inl ⟨by rfl,?_⟩) ?_ ?_
    rotate_left
    ·
     intro w'
     go_simp
     with_reducible rfl
    rotate_left
    ·
     simp only [Act.put, zz11, zz12, zz13, i64_w, i32_w]
     rfl
    refine take_ (i:=1) (N:=some 21) (v:=?_) (a':=?_) #[true,true,false,false,false,false,false,false,false,false,false,false,false,false] rfl rfl (take_ofW HT_.out HW_.out (by kernel_rfl)) (fun _ _ _ h=>h) (Or.inl ⟨by rfl,?_⟩) hHeld ?_ ?_
    rotate_left
    ·
     rintro w' ⟨s0, s1, s2, s3, s4, s5, s6, s7⟩
     go_simp
     with_reducible rfl
    rotate_left
    ·
     simp only [Act.put, zz11, zz12, zz13, i64_w, i32_w]
     rfl
    refine pure_ (i:=2) (N:=some 22) (v:=?_) (a':=?_) #[true,true,true,false,false,false,false,false,false,false,false,false,false,false] rfl rfl (any_of HT_.out (by kernel_rfl)) (fun _ _ _ h=>h) (Or.inl ⟨by rfl,?_⟩) ?_ ?_
    rotate_left
    ·
     intro w'
     go_simp
     with_reducible rfl
    rotate_left
    ·
     simp only [Act.put, zz11, zz12, zz13, i64_w, i32_w]
     rfl
    refine pure_ (i:=3) (N:=some 23) (v:=?_) (a':=?_) #[true,true,true,true,false,false,false,false,false,false,false,false,false,false] rfl rfl (any_of HT_.out (by kernel_rfl)) (fun _ _ _ h=>h) (Or.inl ⟨by rfl,?_⟩) ?_ ?_
    rotate_left
    ·
     intro w'
     go_simp
     with_reducible rfl
    rotate_left
    ·
     simp only [Act.put, zz11, zz12, zz13, i64_w, i32_w]
     rfl
    refine pure_ (i:=4) (N:=some 24) (v:=?_) (a':=?_) #[true,true,true,true,true,false,false,false,false,false,false,false,false,false] rfl rfl (any_of HT_.out (by kernel_rfl)) (fun _ _ _ h=>h) (Or.inl ⟨by rfl,?_⟩) ?_ ?_
    rotate_left
    ·
     intro w'
     go_simp
     with_reducible rfl
    rotate_left
    ·
     simp only [Act.put, zz11, zz12, zz13, i64_w, i32_w]
     rfl
    refine pure_ (i:=6) (N:=some 26) (v:=?_) (a':=?_) #[true,true,true,true,true,false,true,false,false,false,false,false,false,false] rfl rfl (any_of HT_.out (by kernel_rfl)) (fun _ _ _ h=>h) (Or.inl ⟨by rfl,?_⟩) ?_ ?_
    rotate_left
    ·
     intro w'
     go_simp
     with_reducible rfl
    rotate_left
    ·
     simp only [Act.put, zz11, zz12, zz13, i64_w, i32_w]
     rfl
    refine pure_ (i:=8) (N:=some 28) (v:=?_) (a':=?_) #[true,true,true,true,true,false,true,false,true,false,false,false,false,false] rfl rfl (any_of HT_.out (by kernel_rfl)) (fun _ _ _ h=>h) (Or.inl ⟨by rfl,?_⟩) ?_ ?_
    rotate_left
    ·
     intro w'
     go_simp
     with_reducible rfl
    rotate_left
    ·
     simp only [Act.put, zz11, zz12, zz13, i64_w, i32_w]
     rfl
    refine take_ (i:=5) (N:=some 25) (v:=?_) (a':=?_) #[true,true,true,true,true,true,true,false,true,false,false,false,false,false] rfl rfl (take_ofW HT_.out HW_.out (by kernel_rfl)) (fun _ _ _ h=>h) (Or.inl ⟨by rfl,?_⟩) hHeld ?_ ?_
    rotate_left
    ·
     rintro w' ⟨s0, s1, s2, s3, s4, s5, s6, s7⟩
     go_simp
     with_reducible rfl
    rotate_left
    ·
     simp only [Act.put, zz11, zz12, zz13, i64_w, i32_w]
     rfl
    refine take_ (i:=7) (N:=some 27) (v:=?_) (a':=?_) #[true,true,true,true,true,true,true,true,true,false,false,false,false,false] rfl rfl (take_ofW HT_.out HW_.out (by kernel_rfl)) (fun _ _ _ h=>h) (Or.inl ⟨by rfl,?_⟩) hHeld ?_ ?_
    rotate_left
    ·
     rintro w' ⟨s0, s1, s2, s3, s4, s5, s6, s7⟩
     go_simp
     with_reducible rfl
    rotate_left
    ·
     simp only [Act.put, zz11, zz12, zz13, i64_w, i32_w]
     rfl
    refine take_ (i:=9) (N:=some 29) (v:=?_) (a':=?_) #[true,true,true,true,true,true,true,true,true,true,false,false,false,false] rfl rfl (take_ofW HT_.out HW_.out (by kernel_rfl)) (fun _ _ _ h=>h) (Or.inl ⟨by rfl,?_⟩) hHeld ?_ ?_
    rotate_left
    ·
     rintro w' ⟨s0, s1, s2, s3, s4, s5, s6, s7⟩
     go_simp
     with_reducible rfl
    rotate_left
    ·
     simp only [Act.put, zz11, zz12, zz13, i64_w, i32_w]
     rfl
    refine one_ (i := 10) (N := some 30) #[true, true, true, true, true, true, true, true, true, true, true, false, false, false] rfl rfl (one_of HT_.out (by kernel_rfl)) (by decide) (fun K hK => ?_)
    refine goes_ Tryz.func102 (by kernel_rfl) rfl #[.agg #[.int .i64 t178,.int .i64 t179,.bool t180],.int .i64 t181] (by rfl) rfl rfl (by (try simp only [List.map_toArray,List.map_cons,List.map_nil]);first|done|rfl|(simp only [List.length_drop,List.length_take];rfl)) ?_
    with_reducible refine (month_Days.calls t178 t179 t180 t181 t184 _ ?side1 A17.out).mono ?_
    (case side1=>exact GlobT.below HGT (by repeat (first|(with_reducible first|exact HB.out|apply zz03|apply zz01|apply zz02|refine zz10 ?_ GE176.out|refine zz10 ?_ GE177.out|refine zz10 ?_ GE183.out)|exact HB.out)))
    rintro e w43 ⟨rfl, hb⟩
    refine ⟨_, rfl, ?_⟩
    have n0_:=zz00 (zz34 (g:=gb176) (o:=.cells #[.int .i64 a0_0,.int .i64 a0_1,.bool a0_2,.int .i64 a0_3] 34 (0,0)) (by (with_reducible repeat (first|refine zz07 ?_ _|refine zz09 ?_|refine zz08 ?_ _));exact BK176.out) hb)
    have n1_:=zz00 (zz34 (g:=gb177) (o:=.cells #[.int .i64 0,.int .i64 0,.bool false,.int .i64 0] 95 (0,0)) (by (with_reducible repeat (first|refine zz07 ?_ _|refine zz09 ?_|refine zz08 ?_ _));exact BK177.out) hb)
    have n2_:=zz00 (zz34 (g:=gb183) (o:=.cells #[.int .i64 t178,.int .i64 t179,.bool t180,.int .i64 t181] 95 (0,0)) (by (with_reducible repeat (first|refine zz07 ?_ _|refine zz09 ?_|refine zz08 ?_ _));exact BK183.out) hb)
    have n3_:=zz00 (zz21 (by repeat (first|(with_reducible first|exact HB.out|apply zz03|apply zz01|apply zz02|refine zz10 ?_ GE176.out|refine zz10 ?_ GE177.out|refine zz10 ?_ GE183.out)|exact HB.out)) hb)
    clear BK176
    clear BK177
    clear BK183
    clear HB
    have BK176 := n0_
    have BK177 := n1_
    have BK183 := n2_
    have HB := n3_
    clear n0_ n1_ n2_ n3_
    (try clear hb)
    (try clear hb2)
    (try clear hk)
    (try clear hi)
    refine hK.out _ _ ⟨(zz18 BK176.out 0).trans rfl,(zz18 BK176.out 1).trans rfl,(zz18 BK176.out 2).trans rfl,(zz18 BK176.out 3).trans rfl,(zz18 BK183.out 0).trans rfl,(zz18 BK183.out 1).trans rfl,(zz18 BK183.out 2).trans rfl,(zz18 BK183.out 3).trans rfl⟩ (fun hHeld=>?_)
    clear hK K
    refine norm_ (a' := ?_) ?_ ?_
    rotate_left
    ·
     show Act.put _ (some 30) _ = _
     simp only [Act.put, zz11, zz12, zz13, i64_w, i32_w]
     rfl
    refine pure_ (i:=11) (N:=some 31) (v:=?_) (a':=?_) #[true,true,true,true,true,true,true,true,true,true,true,true,false,false] rfl rfl (any_of HT_.out (by kernel_rfl)) (fun _ _ _ h=>h) (Or.inl ⟨by rfl,?_⟩) ?_ ?_
    rotate_left
    ·
     intro w'
     go_simp
     with_reducible rfl
    rotate_left
    ·
     simp only [Act.put, zz11, zz12, zz13, i64_w, i32_w]
     rfl
    refine pure_ (i:=12) (N:=some 32) (v:=?_) (a':=?_) #[true,true,true,true,true,true,true,true,true,true,true,true,true,false] rfl rfl (any_of HT_.out (by kernel_rfl)) (fun _ _ _ h=>h) (Or.inl ⟨by rfl,?_⟩) ?_ ?_
    rotate_left
    ·
     intro w'
     go_simp
     with_reducible rfl
    rotate_left
    ·
     simp only [Act.put, zz11, zz12, zz13, i64_w, i32_w]
     rfl
    refine pure_ (i:=13) (N:=some 19) (v:=?_) (a':=?_) #[true,true,true,true,true,true,true,true,true,true,true,true,true,true] rfl rfl (any_of HT_.out (by kernel_rfl)) (fun _ _ _ h=>h) (Or.inl ⟨by rfl,?_⟩) ?_ ?_
    rotate_left
    ·
     intro w'
     go_simp
     with_reducible rfl
    rotate_left
    ·
     simp only [Act.put, zz11, zz12, zz13, i64_w, i32_w]
     rfl
    refine done_ (done_of HT_.out (by kernel_rfl)) ?_
    have hcz44_0 : w43.cell? ⟨gb183, 0, none⟩ = some (.int .i64 t178) := (zz18 BK183.out 0).trans rfl
    have hcz44_1 : w43.cell? ⟨gb183, 1, none⟩ = some (.int .i64 t179) := (zz18 BK183.out 1).trans rfl
    have hcz44_2 : w43.cell? ⟨gb183, 2, none⟩ = some (.bool t180) := (zz18 BK183.out 2).trans rfl
    have hcz44_3 : w43.cell? ⟨gb183, 3, none⟩ = some (.int .i64 t181) := (zz18 BK183.out 3).trans rfl
    have hfz44_0 := zz17 BK183.out 0
    have hfz44_1 := zz17 BK183.out 1
    have hfz44_2 := zz17 BK183.out 2
    have hfz44_3 := zz17 BK183.out 3
    have hcz45_0 : w43.cell? ⟨gb177, 0, none⟩ = some (.int .i64 0) := (zz18 BK177.out 0).trans rfl
    have hcz45_1 : w43.cell? ⟨gb177, 1, none⟩ = some (.int .i64 0) := (zz18 BK177.out 1).trans rfl
    have hcz45_2 : w43.cell? ⟨gb177, 2, none⟩ = some (.bool false) := (zz18 BK177.out 2).trans rfl
    have hcz45_3 : w43.cell? ⟨gb177, 3, none⟩ = some (.int .i64 0) := (zz18 BK177.out 3).trans rfl
    have hfz45_0 := zz17 BK177.out 0
    have hfz45_1 := zz17 BK177.out 1
    have hfz45_2 := zz17 BK177.out 2
    have hfz45_3 := zz17 BK177.out 3
    try go_wp2
    refine bodyPost_ret (results_ct rfl _ _ gb177 95 #[.int .i64 t178,.int .i64 t179,.bool t180,.int .i64 t181] (0,0) _ rfl (by (with_reducible repeat (first|refine zz07 ?_ _|refine zz09 ?_|refine zz08 ?_ _));refine zz35 (cs:=#[.int .i64 t178,.int .i64 t179,.bool t180,.int .i64 0]) ?_ 3 _ rfl;(with_reducible repeat (first|refine zz07 ?_ _|refine zz09 ?_|refine zz08 ?_ _));refine zz35 (cs:=#[.int .i64 t178,.int .i64 t179,.bool false,.int .i64 0]) ?_ 2 _ rfl;(with_reducible repeat (first|refine zz07 ?_ _|refine zz09 ?_|refine zz08 ?_ _));refine zz35 (cs:=#[.int .i64 t178,.int .i64 0,.bool false,.int .i64 0]) ?_ 1 _ rfl;(with_reducible repeat (first|refine zz07 ?_ _|refine zz09 ?_|refine zz08 ?_ _));refine zz35 (cs:=#[.int .i64 0,.int .i64 0,.bool false,.int .i64 0]) ?_ 0 _ rfl;(with_reducible repeat (first|refine zz07 ?_ _|refine zz09 ?_|refine zz08 ?_ _));exact BK177.out) Tryz.underlying95 rfl (by kernel_rfl)) rfl ?_
    exact ⟨by first|rfl|(simp [errW_none,errW_some] <;> rfl)|(simp [*,errW_none,errW_some] <;> rfl),by repeat (first|(with_reducible first|exact HB.out|apply zz03|apply zz01|apply zz02|refine zz10 ?_ GE176.out|refine zz10 ?_ GE177.out|refine zz10 ?_ GE183.out)|exact HB.out)⟩
 ·
  rw [if_neg c3] at H
  have c3b0 : (t182 == 0) = false := zz27.mpr c3
  have c3b1 : (t182 != 0) = true := zz28.mpr c3
  simp only [zz15, zz16] at H
  obtain ⟨rfl, rfl, rfl, rfl, rfl⟩ := H
  go_enter Tryz.func79, Tryz.ntmps79
  go_wp2_with (first|((with_reducible refine zz24 (N:=1) rfl ?_);refine zz30 ?hg (N:=1) ?hd (cs:=#[.int .i64 a0_0,.int .i64 a0_1,.bool a0_2,.int .i64 a0_3]) (t:=34) ?hr ?_;(case hd=>rfl);(case hg=>rfl);(case hr=>first|(go_simp;done)|(go_simp;rfl));intro gb176 hg w46 hbox hb;have n0_:=zz00 (zz21 (by repeat (first|(with_reducible first|exact HB.out|apply zz03|apply zz01|apply zz02)|exact HB.out)) hb);have n1_:=zz00 (hbox);have n2_:=zz00 ((by rw [hg];exact (zz22 (by repeat (first|(with_reducible first|exact HB.out|apply zz03|apply zz01|apply zz02)|exact HB.out))) : w.heap.size ≤ gb176));have n3_:=zz00 ((by rw [hg];exact (zz22 (by repeat (first|(with_reducible first|exact HB.out|apply zz03|apply zz01|apply zz02)|exact HB.out))) : w.heap.size ≤ gb176));clear HB;have HB:=n0_;have BK176:=n1_;have GW176:=n2_;have GE176:=n3_;clear n0_ n1_ n2_ n3_;clear hb hbox hg)|((with_reducible refine zz24 (N:=2) rfl ?_);refine zz30 ?hg (N:=2) ?hd (cs:=#[.int .i64 0,.int .i64 0,.bool false,.int .i64 0]) (t:=95) ?hr ?_;(case hd=>rfl);(case hg=>rfl);(case hr=>first|(go_simp;done)|(go_simp;rfl));intro gb177 hg w47 hbox hb;have n0_:=zz00 (zz34 (g:=gb176) (o:=.cells #[.int .i64 a0_0,.int .i64 a0_1,.bool a0_2,.int .i64 a0_3] 34 (0,0)) (by (with_reducible repeat (first|refine zz07 ?_ _|refine zz09 ?_|refine zz08 ?_ _));exact BK176.out) hb);have n1_:=zz00 (zz21 (by repeat (first|(with_reducible first|exact HB.out|apply zz03|apply zz01|apply zz02|refine zz10 ?_ GE176.out)|exact HB.out)) hb);have n2_:=zz00 (hbox);have n3_:=zz00 ((by rw [hg];exact (zz22 (by repeat (first|(with_reducible first|exact HB.out|apply zz03|apply zz01|apply zz02|refine zz10 ?_ GE176.out)|exact HB.out))) : w.heap.size ≤ gb177));have n4_:=zz00 ((by rw [hg];exact (zz22 (by repeat (first|(with_reducible first|exact HB.out|apply zz03|apply zz01|apply zz02|refine zz10 ?_ GE176.out)|exact HB.out))) : w.heap.size ≤ gb177));have n5_:=zz00 ((by rw [hg];exact Nat.ne_of_lt (blk_lt (g:=gb176) (o:=.cells #[.int .i64 a0_0,.int .i64 a0_1,.bool a0_2,.int .i64 a0_3] 34 (0,0)) (by (with_reducible repeat (first|refine zz07 ?_ _|refine zz09 ?_|refine zz08 ?_ _));exact BK176.out)) : gb176 ≠ gb177));have n6_:=zz00 ((by rw [hg];exact Nat.ne_of_gt (blk_lt (g:=gb176) (o:=.cells #[.int .i64 a0_0,.int .i64 a0_1,.bool a0_2,.int .i64 a0_3] 34 (0,0)) (by (with_reducible repeat (first|refine zz07 ?_ _|refine zz09 ?_|refine zz08 ?_ _));exact BK176.out)) : gb177 ≠ gb176));clear BK176;clear HB;have BK176:=n0_;have HB:=n1_;have BK177:=n2_;have GW177:=n3_;have GE177:=n4_;have NB176_177:=n5_;have NB177_176:=n6_;clear n0_ n1_ n2_ n3_ n4_ n5_ n6_;clear hb hbox hg;have hnb48:=NB176_177.out;have hnc48:=NB177_176.out;have hcz49_0 : w47.cell? ⟨gb176,0,none⟩ = some (.int .i64 a0_0):=(zz18 BK176.out 0).trans rfl;have hcz49_1 : w47.cell? ⟨gb176,1,none⟩ = some (.int .i64 a0_1):=(zz18 BK176.out 1).trans rfl;have hcz49_2 : w47.cell? ⟨gb176,2,none⟩ = some (.bool a0_2):=(zz18 BK176.out 2).trans rfl;have hcz49_3 : w47.cell? ⟨gb176,3,none⟩ = some (.int .i64 a0_3):=(zz18 BK176.out 3).trans rfl;have hfz49_0:=zz17 BK176.out 0;have hfz49_1:=zz17 BK176.out 1;have hfz49_2:=zz17 BK176.out 2;have hfz49_3:=zz17 BK176.out 3)|((with_reducible refine zz23 (f:=101) rfl ?_);refine zz25 (some 11) rfl rfl Tryz.func101 (by kernel_rfl) rfl #[.int .i64 a0_0,.agg #[.int .i64 a0_1,.bool a0_2]] rfl (by (try simp only [List.map_toArray,List.map_cons,List.map_nil]);first|done|rfl|(simp only [List.length_drop,List.length_take];rfl)) ?_;(with_reducible refine (heb_find.calls k a0_0 a0_1 a0_2 t178 t179 t180 t181 t182 _ A2.out).mono ?_);rintro e w50 ⟨rfl,hb⟩;refine ⟨_,rfl,?_⟩;have n0_:=zz00 (zz34 (g:=gb176) (o:=.cells #[.int .i64 a0_0,.int .i64 a0_1,.bool a0_2,.int .i64 a0_3] 34 (0,0)) (by (with_reducible repeat (first|refine zz07 ?_ _|refine zz09 ?_|refine zz08 ?_ _));exact BK176.out) hb);have n1_:=zz00 (zz34 (g:=gb177) (o:=.cells #[.int .i64 0,.int .i64 0,.bool false,.int .i64 0] 95 (0,0)) (by (with_reducible repeat (first|refine zz07 ?_ _|refine zz09 ?_|refine zz08 ?_ _));exact BK177.out) hb);have n2_:=zz00 (zz21 (by repeat (first|(with_reducible first|exact HB.out|apply zz03|apply zz01|apply zz02|refine zz10 ?_ GE176.out|refine zz10 ?_ GE177.out)|exact HB.out)) hb);clear BK176;clear BK177;clear HB;have BK176:=n0_;have BK177:=n1_;have HB:=n2_;clear n0_ n1_ n2_;(try clear hb);(try clear hb2);(try clear hk);(try clear hi))|((with_reducible refine zz24 (N:=4) rfl ?_);refine zz30 ?hg (N:=4) ?hd (cs:=#[.int .i64 0,.int .i64 0,.bool false,.int .i64 0]) (t:=95) ?hr ?_;(case hd=>rfl);(case hg=>rfl);(case hr=>first|(go_simp;done)|(go_simp;rfl));intro gb183 hg w51 hbox hb;have n0_:=zz00 (zz34 (g:=gb176) (o:=.cells #[.int .i64 a0_0,.int .i64 a0_1,.bool a0_2,.int .i64 a0_3] 34 (0,0)) (by (with_reducible repeat (first|refine zz07 ?_ _|refine zz09 ?_|refine zz08 ?_ _));exact BK176.out) hb);have n1_:=zz00 (zz34 (g:=gb177) (o:=.cells #[.int .i64 0,.int .i64 0,.bool false,.int .i64 0] 95 (0,0)) (by (with_reducible repeat (first|refine zz07 ?_ _|refine zz09 ?_|refine zz08 ?_ _));exact BK177.out) hb);have n2_:=zz00 (zz21 (by repeat (first|(with_reducible first|exact HB.out|apply zz03|apply zz01|apply zz02|refine zz10 ?_ GE176.out|refine zz10 ?_ GE177.out)|exact HB.out)) hb);have n3_:=zz00 (hbox);have n4_:=zz00 ((by rw [hg];exact (zz22 (by repeat (first|(with_reducible first|exact HB.out|apply zz03|apply zz01|apply zz02|refine zz10 ?_ GE176.out|refine zz10 ?_ GE177.out)|exact HB.out))) : w.heap.size ≤ gb183));have n5_:=zz00 ((by rw [hg];exact (zz22 (by repeat (first|(with_reducible first|exact HB.out|apply zz03|apply zz01|apply zz02|refine zz10 ?_ GE176.out|refine zz10 ?_ GE177.out)|exact HB.out))) : w.heap.size ≤ gb183));have n6_:=zz00 ((by rw [hg];exact Nat.ne_of_lt (blk_lt (g:=gb176) (o:=.cells #[.int .i64 a0_0,.int .i64 a0_1,.bool a0_2,.int .i64 a0_3] 34 (0,0)) (by (with_reducible repeat (first|refine zz07 ?_ _|refine zz09 ?_|refine zz08 ?_ _));exact BK176.out)) : gb176 ≠ gb183));have n7_:=zz00 ((by rw [hg];exact Nat.ne_of_gt (blk_lt (g:=gb176) (o:=.cells #[.int .i64 a0_0,.int .i64 a0_1,.bool a0_2,.int .i64 a0_3] 34 (0,0)) (by (with_reducible repeat (first|refine zz07 ?_ _|refine zz09 ?_|refine zz08 ?_ _));exact BK176.out)) : gb183 ≠ gb176));have n8_:=zz00 ((by rw [hg];exact Nat.ne_of_lt (blk_lt (g:=gb177) (o:=.cells #[.int .i64 0,.int .i64 0,.bool false,.int .i64 0] 95 (0,0)) (by (with_reducible repeat (first|refine zz07 ?_ _|refine zz09 ?_|refine zz08 ?_ _));exact BK177.out)) : gb177 ≠ gb183));have n9_:=zz00 ((by rw [hg];exact Nat.ne_of_gt (blk_lt (g:=gb177) (o:=.cells #[.int .i64 0,.int .i64 0,.bool false,.int .i64 0] 95 (0,0)) (by (with_reducible repeat (first|refine zz07 ?_ _|refine zz09 ?_|refine zz08 ?_ _));exact BK177.out)) : gb183 ≠ gb177));clear BK176;clear BK177;clear HB;have BK176:=n0_;have BK177:=n1_;have HB:=n2_;have BK183:=n3_;have GW183:=n4_;have GE183:=n5_;have NB176_183:=n6_;have NB183_176:=n7_;have NB177_183:=n8_;have NB183_177:=n9_;clear n0_ n1_ n2_ n3_ n4_ n5_ n6_ n7_ n8_ n9_;clear hb hbox hg;have hnb52:=NB183_176.out;have hnc52:=NB176_183.out;have hnb53:=NB183_177.out;have hnc53:=NB177_183.out;have hcz54_0 : w51.cell? ⟨gb183,0,none⟩ = some (.int .i64 0):=(zz18 BK183.out 0).trans rfl;have hcz54_1 : w51.cell? ⟨gb183,1,none⟩ = some (.int .i64 0):=(zz18 BK183.out 1).trans rfl;have hcz54_2 : w51.cell? ⟨gb183,2,none⟩ = some (.bool false):=(zz18 BK183.out 2).trans rfl;have hcz54_3 : w51.cell? ⟨gb183,3,none⟩ = some (.int .i64 0):=(zz18 BK183.out 3).trans rfl;have hfz54_0:=zz17 BK183.out 0;have hfz54_1:=zz17 BK183.out 1;have hfz54_2:=zz17 BK183.out 2;have hfz54_3:=zz17 BK183.out 3;have hcz55_0 : w51.cell? ⟨gb177,0,none⟩ = some (.int .i64 0):=(zz18 BK177.out 0).trans rfl;have hcz55_1 : w51.cell? ⟨gb177,1,none⟩ = some (.int .i64 0):=(zz18 BK177.out 1).trans rfl;have hcz55_2 : w51.cell? ⟨gb177,2,none⟩ = some (.bool false):=(zz18 BK177.out 2).trans rfl;have hcz55_3 : w51.cell? ⟨gb177,3,none⟩ = some (.int .i64 0):=(zz18 BK177.out 3).trans rfl;have hfz55_0:=zz17 BK177.out 0;have hfz55_1:=zz17 BK177.out 1;have hfz55_2:=zz17 BK177.out 2;have hfz55_3:=zz17 BK177.out 3))
  refine bodyPost_ret (results_ct rfl _ _ gb177 95 #[.int .i64 0,.int .i64 0,.bool false,.int .i64 0] (0,0) _ rfl (by (with_reducible repeat (first|refine zz07 ?_ _|refine zz09 ?_|refine zz08 ?_ _));refine zz35 (cs:=#[.int .i64 0,.int .i64 0,.bool false,.int .i64 0]) ?_ 3 _ rfl;(with_reducible repeat (first|refine zz07 ?_ _|refine zz09 ?_|refine zz08 ?_ _));refine zz35 (cs:=#[.int .i64 0,.int .i64 0,.bool false,.int .i64 0]) ?_ 2 _ rfl;(with_reducible repeat (first|refine zz07 ?_ _|refine zz09 ?_|refine zz08 ?_ _));refine zz35 (cs:=#[.int .i64 0,.int .i64 0,.bool false,.int .i64 0]) ?_ 1 _ rfl;(with_reducible repeat (first|refine zz07 ?_ _|refine zz09 ?_|refine zz08 ?_ _));refine zz35 (cs:=#[.int .i64 0,.int .i64 0,.bool false,.int .i64 0]) ?_ 0 _ rfl;(with_reducible repeat (first|refine zz07 ?_ _|refine zz09 ?_|refine zz08 ?_ _));refine zz33 ?_ NB177_183.out _;(with_reducible repeat (first|refine zz07 ?_ _|refine zz09 ?_|refine zz08 ?_ _));refine zz33 ?_ NB177_183.out _;(with_reducible repeat (first|refine zz07 ?_ _|refine zz09 ?_|refine zz08 ?_ _));refine zz33 ?_ NB177_183.out _;(with_reducible repeat (first|refine zz07 ?_ _|refine zz09 ?_|refine zz08 ?_ _));refine zz33 ?_ NB177_183.out _;(with_reducible repeat (first|refine zz07 ?_ _|refine zz09 ?_|refine zz08 ?_ _));exact BK177.out) Tryz.underlying95 rfl (by kernel_rfl)) rfl ?_
  exact ⟨by first|rfl|(simp [errW_none,errW_some] <;> rfl)|(simp [*,errW_none,errW_some] <;> rfl),by repeat (first|(with_reducible first|exact HB.out|apply zz03|apply zz01|apply zz02|refine zz10 ?_ GE176.out|refine zz10 ?_ GE177.out|refine zz10 ?_ GE183.out)|exact HB.out)⟩

end Go.Proofs.YtflpddhoiafhcaaGreatDoor.S
end
