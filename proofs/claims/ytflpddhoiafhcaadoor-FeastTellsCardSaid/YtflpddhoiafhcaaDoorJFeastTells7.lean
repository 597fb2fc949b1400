/- Texts of the proof of 'FeastTells', joined by a program (part 7): contracts of functions, plain laws. -/
import Derived.Test.YtflpddhoiafhcaaDoorJFeastTells0
import Derived.Test.YtflpddhoiafhcaaDoorJFeastTells2
import Derived.Test.YtflpddhoiafhcaaDoorJFeastTells5
import Derived.Test.YtflpddhoiafhcaaDoorJFeastTells6
section
-- Written by wip/hprint.py of this repo (holes typed by hand, all else by a program) over the seat YtflpddhoiafhcaaDoor.
namespace Go.Proofs.YtflpddhoiafhcaaDoor.T
open Go.Proofs.YtflpddhoiafhcaaDoor.H
open Go.RowKit Go.Proofs.YtflpddhoiafhcaaDoorW.PrintWords Go.Proofs.YtflpddhoiafhcaaDoorW.PrintLast Go.Proofs.YtflpddhoiafhcaaDoorW.PrintMore
attribute [local go_sem] max2_int min2_int max_two min_two max_three min_three max_four min_four   -- for this text's walks alone
set_option linter.unusedVariables false
set_option linter.unusedSimpArgs false

def r08_Ahead.l0 : Nat → Int → Int → Int → Int → Int → Bool → Option (Int)
  | 0, _, _, _, _, _, _ => none
  | k + 1, x1, x5, x6, x430000, x430001, x430002 => if x6 < x1 then ((r08_lengths.f k x430000 x430001 x430002).bind fun t431 => (if 0 ≤ (wrap64 (x6 - 1)) then (if (wrap64 (x6 - 1)) < (t431.length : Int) then (r08_Ahead.l0 k x1 (wrap64 (x5 + (rd t431 (wrap64 (x6 - 1))))) (wrap64 (x6 + 1)) x430000 x430001 x430002) else (none)) else (none))) else (some x5)
def r08_Ahead.f (k : Nat) (a0_0 : Int) (a0_1 : Int) (a0_2 : Bool) (a1 : Int) : Option (Int) := (r08_is.f k a0_0 a0_1 a0_2 a1).bind fun t430 => (if t430 = true then (r08_Ahead.l0 k a1 0 1 a0_0 a0_1 a0_2) else (some 0))
theorem r08_Ahead.mono_l : ∀ k, (∀ y0 y1 y2 y3 y4 y5, LeO (r08_Ahead.l0 k y0 y1 y2 y3 y4 y5) (r08_Ahead.l0 (k + 1) y0 y1 y2 y3 y4 y5))
 | 0 => fun _ _ _ _ _ _ r h => by simp [r08_Ahead.l0] at h
 | k + 1 => by
  have ih0 := r08_Ahead.mono_l k
  ·
   intro y0 y1 y2 y3 y4 y5
   unfold r08_Ahead.l0
   repeat' first
   | (with_reducible exact ih0 _ _ _ _ _ _)
   | (with_reducible exact r08_is.mono _ _ _ _ _)
   | (with_reducible exact r08_lengths.mono _ _ _ _)
   | (with_reducible exact LeO.refl _)
   | (with_reducible exact LeO.none _)
   | (with_reducible refine LeO.ite ?_ ?_)
   | (with_reducible refine LeO.bind ?_ (fun _ => ?_))
   | exact ih0 _ _ _ _ _ _
   | exact r08_is.mono _ _ _ _ _
   | exact r08_lengths.mono _ _ _ _
   | exact LeO.none _
   | refine LeO.ite ?_ ?_
   | refine LeO.bind ?_ (fun _ => ?_)
theorem r08_Ahead.mono : ∀ a0 a1 a2 a3 k, LeO (r08_Ahead.f k a0 a1 a2 a3) (r08_Ahead.f (k + 1) a0 a1 a2 a3) := by
 intro a0 a1 a2 a3 k
 have ih0 := r08_Ahead.mono_l k
 unfold r08_Ahead.f
 repeat' first
   | (with_reducible exact ih0 _ _ _ _ _ _)
   | (with_reducible exact r08_is.mono _ _ _ _ _)
   | (with_reducible exact r08_lengths.mono _ _ _ _)
   | (with_reducible exact LeO.refl _)
   | (with_reducible exact LeO.none _)
   | (with_reducible refine LeO.ite ?_ ?_)
   | (with_reducible refine LeO.bind ?_ (fun _ => ?_))
   | exact ih0 _ _ _ _ _ _
   | exact r08_is.mono _ _ _ _ _
   | exact r08_lengths.mono _ _ _ _
   | exact LeO.none _
   | refine LeO.ite ?_ ?_
   | refine LeO.bind ?_ (fun _ => ?_)
set_option maxHeartbeats 8000000 in
set_option maxRecDepth 100000 in
theorem r08_Ahead.calls (k : Nat) (a0_0 : Int) (a0_1 : Int) (a0_2 : Bool) (a1 : Int) (r : Int) (w : World) (h : r08_Ahead.f k a0_0 a0_1 a0_2 a1 = some r) :
  Calls Tryd.prog 128 #[.agg #[.int .i64 a0_0, .int .i64 a0_1, .bool a0_2], .int .i64 a1] w fun e w' => e = .returned (.int .i64 r) ∧ Below w.heap.size w w' := by
 have hu111 := Tryd.underlying111
 have HB := zz00 (Below.refl w.heap.size w)
 have H : ((r08_is.f k a0_0 a0_1 a0_2 a1).bind fun t430 => (if t430 = true then (r08_Ahead.l0 k a1 0 1 a0_0 a0_1 a0_2) else (some 0))) = some r := h
 clear h
 replace H := zz14.mp H
 obtain ⟨t430, A30, H⟩ := H
 replace H : (if t430 = true then (r08_Ahead.l0 k a1 0 1 a0_0 a0_1 a0_2) else (some 0)) = some r := H
 have A3 := zz00 A30
 clear A30
 by_cases c4 : t430 = true
 ·
  subst c4
  have H1 : (r08_Ahead.l0 k a1 0 1 a0_0 a0_1 a0_2) = some r := by rw [if_pos rfl] at H; exact H
  clear H
  have H := H1
  clear H1
  have H' := zz00 H
  clear H
  go_enter Tryd.func128, Tryd.ntmps128
  go_wp2_with (first|((with_reducible refine zz24 (N:=2) rfl ?_);refine zz30 ?hg (N:=2) ?hd (cs:=#[.int .i64 a0_0,.int .i64 a0_1,.bool a0_2]) (t:=111) ?hr ?_;(case hd=>rfl);(case hg=>rfl);(case hr=>first|(go_simp;done)|(go_simp;rfl));intro gb429 hg w5 hbox hb;have n0_:=zz00 (zz21 (by repeat (first|(with_reducible first|exact HB.out|apply zz03|apply zz01|apply zz02)|exact HB.out)) hb);have n1_:=zz00 (hbox);have n2_:=zz00 ((by rw [hg];exact (zz22 (by repeat (first|(with_reducible first|exact HB.out|apply zz03|apply zz01|apply zz02)|exact HB.out))) : w.heap.size ≤ gb429));have n3_:=zz00 ((by rw [hg];exact (zz22 (by repeat (first|(with_reducible first|exact HB.out|apply zz03|apply zz01|apply zz02)|exact HB.out))) : w.heap.size ≤ gb429));clear HB;have HB:=n0_;have BK429:=n1_;have GW429:=n2_;have GE429:=n3_;clear n0_ n1_ n2_ n3_;clear hb hbox hg;have hcz6_0 : w5.cell? ⟨gb429,0,none⟩ = some (.int .i64 a0_0):=(zz18 BK429.out 0).trans rfl;have hcz6_1 : w5.cell? ⟨gb429,1,none⟩ = some (.int .i64 a0_1):=(zz18 BK429.out 1).trans rfl;have hcz6_2 : w5.cell? ⟨gb429,2,none⟩ = some (.bool a0_2):=(zz18 BK429.out 2).trans rfl;have hfz6_0:=zz17 BK429.out 0;have hfz6_1:=zz17 BK429.out 1;have hfz6_2:=zz17 BK429.out 2)|((with_reducible refine zz23 (f:=165) rfl ?_);refine zz25 (some 9) rfl rfl Tryd.func165 (by kernel_rfl) rfl #[.agg #[.int .i64 a0_0,.int .i64 a0_1,.bool a0_2],.int .i64 a1] rfl (by (try simp only [List.map_toArray,List.map_cons,List.map_nil]);first|done|rfl|(simp only [List.length_drop,List.length_take];rfl)) ?_;(with_reducible refine (r08_is.calls k a0_0 a0_1 a0_2 a1 true _ A3.out).mono ?_);rintro e w7 ⟨rfl,hb⟩;refine ⟨_,rfl,?_⟩;have n0_:=zz00 (zz34 (g:=gb429) (o:=.cells #[.int .i64 a0_0,.int .i64 a0_1,.bool a0_2] 111 (0,0)) (by (with_reducible repeat (first|refine zz07 ?_ _|refine zz09 ?_|refine zz08 ?_ _));exact BK429.out) hb);have n1_:=zz00 (zz21 (by repeat (first|(with_reducible first|exact HB.out|apply zz03|apply zz01|apply zz02|refine zz10 ?_ GE429.out)|exact HB.out)) hb);clear BK429;clear HB;have BK429:=n0_;have HB:=n1_;clear n0_ n1_;(try clear hb);(try clear hb2);(try clear hk);(try clear hi)))
  go_loopg [5,6] k (fun kq v5 v6 w'=>∃ (x5_1 : Int) (x6_1 : Int),v5 = .int .i64 x5_1 ∧ v6 = .int .i64 x6_1 ∧ Aside0 (r08_Ahead.l0 kq a1 x5_1 x6_1 a0_0 a0_1 a0_2 = some r) ∧ Aside0 (kq ≤ k) ∧ Aside0 (w'.heap[gb429]? = some (.cells #[.int .i64 a0_0,.int .i64 a0_1,.bool a0_2] 111 (0,0))) ∧ Aside0 (Below w.heap.size w w'))
  case atStart=>exact ⟨(0),(1),(by first|rfl|(simp;done)|(simp [*];done)),(by first|rfl|(simp;done)|(simp [*];done)),H',⟨Nat.le_refl _⟩,⟨by (with_reducible repeat (first|refine zz07 ?_ _|refine zz09 ?_|refine zz08 ?_ _));exact BK429.out⟩,⟨by repeat (first|(with_reducible first|exact HB.out|apply zz03|apply zz01|apply zz02|refine zz10 ?_ GE429.out)|exact HB.out)⟩⟩
  case round =>
   clear H'
   try clear c1
   try clear p2
   try clear c4
   try clear hcz6_0
   try clear hcz6_1
   try clear hcz6_2
   try clear hfz6_0
   try clear hfz6_1
   try clear hfz6_2
   obtain ⟨x5_1, x6_1, rfl, rfl, HA, HK1, BK429, HB⟩ := hrel
   cases gk with
   | zero => exact absurd HA.out (by simp [r08_Ahead.l0])
   | succ k1 =>
    have H := HA.out
    clear HA
    simp only [r08_Ahead.l0] at H
    by_cases c8 : x6_1 < a1
    ·
     rw [if_pos c8] at H
     have c8b0 : decide (x6_1 < a1) = true := decide_eq_true c8
     clear c8
     replace H := zz14.mp H
     obtain ⟨t431, A90, H⟩ := H
     replace H : (if 0 ≤ (wrap64 (x6_1 - 1)) then (if (wrap64 (x6_1 - 1)) < (t431.length : Int) then (r08_Ahead.l0 k1 a1 (wrap64 (x5_1 + (rd t431 (wrap64 (x6_1 - 1))))) (wrap64 (x6_1 + 1)) a0_0 a0_1 a0_2) else (none)) else (none)) = some r:=H
     have A9 := zz00 A90
     clear A90
     obtain ⟨ji10, hji10⟩ : ∃ j_ : Int, (wrap64 (x6_1 - 1)) = j_ := ⟨_, rfl⟩
     replace H : (if 0 ≤ (ji10) then (if (ji10) < (t431.length : Int) then (r08_Ahead.l0 k1 a1 (wrap64 (x5_1 + (rd t431 (ji10)))) (wrap64 (x6_1 + 1)) a0_0 a0_1 a0_2) else (none)) else (none)) = some r:=by first|(rw [hji10] at H;exact H)|(simp only [hji10] at H ⊢;exact H)
     (try rw [hji10] at A9)
     have hji10w : (IntKind.i64.wrap (x6_1 - 1)) = ji10 := (i64_w _).trans hji10
     by_cases c11 : 0 ≤ (ji10)
     ·
      rw [if_pos c11] at H
      have c11b0 : decide (0 ≤ (ji10)) = true := decide_eq_true c11
      clear c11
      by_cases c12 : (ji10) < (t431.length : Int)
      ·
       rw [if_pos c12] at H
       have c12b0 : decide ((ji10) < (t431.length : Int)) = true := decide_eq_true c12
       clear c12
       have H' := zz00 H
       clear H
       have hcz13_0 : wr.cell? ⟨gb429, 0, none⟩ = some (.int .i64 a0_0) := (zz18 BK429.out 0).trans rfl
       have hcz13_1 : wr.cell? ⟨gb429, 1, none⟩ = some (.int .i64 a0_1) := (zz18 BK429.out 1).trans rfl
       have hcz13_2 : wr.cell? ⟨gb429, 2, none⟩ = some (.bool a0_2) := (zz18 BK429.out 2).trans rfl
       have hfz13_0 := zz17 BK429.out 0
       have hfz13_1 := zz17 BK429.out 1
       have hfz13_2 := zz17 BK429.out 2
       go_wp2_with (first|((with_reducible refine zz23 (f:=166) rfl ?_);refine zz25 (some 18) rfl rfl Tryd.func166 (by kernel_rfl) rfl #[.agg #[.int .i64 a0_0,.int .i64 a0_1,.bool a0_2]] rfl (by (try simp only [List.map_toArray,List.map_cons,List.map_nil]);first|done|rfl|(simp only [List.length_drop,List.length_take];rfl)) ?_;(with_reducible refine (r08_lengths.calls k1 a0_0 a0_1 a0_2 t431 _ A9.out).mono ?_);rintro e w14 ⟨v432,rfl,ho0,hb⟩;refine ⟨_,rfl,?_⟩;have n0_:=zz00 (Kd.R_lower ho0 (zz22 (by repeat (first|(with_reducible first|exact HB.out|apply zz03|apply zz01|apply zz02|refine zz10 ?_ GE429.out)|exact HB.out))));have n1_:=zz00 (zz34 (g:=gb429) (o:=.cells #[.int .i64 a0_0,.int .i64 a0_1,.bool a0_2] 111 (0,0)) (by (with_reducible repeat (first|refine zz07 ?_ _|refine zz09 ?_|refine zz08 ?_ _));exact BK429.out) hb);have n2_:=zz00 (zz21 (by repeat (first|(with_reducible first|exact HB.out|apply zz03|apply zz01|apply zz02|refine zz10 ?_ GE429.out)|exact HB.out)) hb);clear BK429;clear HB;have HO433:=n0_;have BK429:=n1_;have HB:=n2_;clear n0_ n1_ n2_;(try clear hb);(try clear hb2);(try clear hk);(try clear hi);(try clear ho0);obtain ⟨Ao15,co15,eo15⟩:=Kd.R_slice HO433.out;subst eo15;have p434 : 0 ≤ ((ji10) : Int):=zz31 (by first|(with_reducible assumption)|assumption);have q434 : (ji10) < (t431.length : Int):=zz31 (by first|(with_reducible assumption)|assumption);obtain ⟨ad434,e434,hx434_0⟩:=Kd.at_int (Kd.R_reads' HO433.out).2.2 (ji10) p434 q434;cases e434;replace p434:=eq_true p434;replace q434:=eq_true q434))
       go_roundg k1
       case measure => have := HK1.out; omega
       case rel=>exact ⟨(wrap64 (x5_1 + (rd t431 (ji10)))),(wrap64 (x6_1 + 1)),(by first|rfl|(simp;done)|(simp only [← hji10] <;> (first|rfl|simp))|(simp [*];done)),(by first|rfl|(simp;done)|(simp [*];done)),H',⟨by have:=HK1.out;omega⟩,⟨by (with_reducible repeat (first|refine zz07 ?_ _|refine zz09 ?_|refine zz08 ?_ _));exact BK429.out⟩,⟨by repeat (first|(with_reducible first|exact HB.out|apply zz03|apply zz01|apply zz02|refine zz10 ?_ GE429.out)|exact HB.out)⟩⟩
      ·
       rw [if_neg c12] at H
       exact absurd H (by simp)
     ·
      rw [if_neg c11] at H
      exact absurd H (by simp)
    ·
     rw [if_neg c8] at H
     have c8b0 : decide (x6_1 < a1) = false := decide_eq_false c8
     clear c8
     obtain rfl := Option.some.inj H
     go_wp2
     go_ret
     exact ⟨by first|rfl|(simp [errW_none,errW_some] <;> rfl)|(simp [*,errW_none,errW_some] <;> rfl),by repeat (first|(with_reducible first|exact HB.out|apply zz03|apply zz01|apply zz02|refine zz10 ?_ GE429.out)|exact HB.out)⟩
 ·
  replace c4 := zz32.mpr c4
  subst c4
  have H1 : (some 0) = some r := by rw [if_neg (show ¬ (false = true) by decide)] at H; exact H
  clear H
  have H := H1
  clear H1
  obtain rfl := Option.some.inj H
  go_enter Tryd.func128, Tryd.ntmps128
  go_wp2_with (first|((with_reducible refine zz24 (N:=2) rfl ?_);refine zz30 ?hg (N:=2) ?hd (cs:=#[.int .i64 a0_0,.int .i64 a0_1,.bool a0_2]) (t:=111) ?hr ?_;(case hd=>rfl);(case hg=>rfl);(case hr=>first|(go_simp;done)|(go_simp;rfl));intro gb429 hg w16 hbox hb;have n0_:=zz00 (zz21 (by repeat (first|(with_reducible first|exact HB.out|apply zz03|apply zz01|apply zz02)|exact HB.out)) hb);have n1_:=zz00 (hbox);have n2_:=zz00 ((by rw [hg];exact (zz22 (by repeat (first|(with_reducible first|exact HB.out|apply zz03|apply zz01|apply zz02)|exact HB.out))) : w.heap.size ≤ gb429));have n3_:=zz00 ((by rw [hg];exact (zz22 (by repeat (first|(with_reducible first|exact HB.out|apply zz03|apply zz01|apply zz02)|exact HB.out))) : w.heap.size ≤ gb429));clear HB;have HB:=n0_;have BK429:=n1_;have GW429:=n2_;have GE429:=n3_;clear n0_ n1_ n2_ n3_;clear hb hbox hg;have hcz17_0 : w16.cell? ⟨gb429,0,none⟩ = some (.int .i64 a0_0):=(zz18 BK429.out 0).trans rfl;have hcz17_1 : w16.cell? ⟨gb429,1,none⟩ = some (.int .i64 a0_1):=(zz18 BK429.out 1).trans rfl;have hcz17_2 : w16.cell? ⟨gb429,2,none⟩ = some (.bool a0_2):=(zz18 BK429.out 2).trans rfl;have hfz17_0:=zz17 BK429.out 0;have hfz17_1:=zz17 BK429.out 1;have hfz17_2:=zz17 BK429.out 2)|((with_reducible refine zz23 (f:=165) rfl ?_);refine zz25 (some 9) rfl rfl Tryd.func165 (by kernel_rfl) rfl #[.agg #[.int .i64 a0_0,.int .i64 a0_1,.bool a0_2],.int .i64 a1] rfl (by (try simp only [List.map_toArray,List.map_cons,List.map_nil]);first|done|rfl|(simp only [List.length_drop,List.length_take];rfl)) ?_;(with_reducible refine (r08_is.calls k a0_0 a0_1 a0_2 a1 false _ A3.out).mono ?_);rintro e w18 ⟨rfl,hb⟩;refine ⟨_,rfl,?_⟩;have n0_:=zz00 (zz34 (g:=gb429) (o:=.cells #[.int .i64 a0_0,.int .i64 a0_1,.bool a0_2] 111 (0,0)) (by (with_reducible repeat (first|refine zz07 ?_ _|refine zz09 ?_|refine zz08 ?_ _));exact BK429.out) hb);have n1_:=zz00 (zz21 (by repeat (first|(with_reducible first|exact HB.out|apply zz03|apply zz01|apply zz02|refine zz10 ?_ GE429.out)|exact HB.out)) hb);clear BK429;clear HB;have BK429:=n0_;have HB:=n1_;clear n0_ n1_;(try clear hb);(try clear hb2);(try clear hk);(try clear hi)))
  go_ret
  exact ⟨by first|rfl|(simp [errW_none,errW_some] <;> rfl)|(simp [*,errW_none,errW_some] <;> rfl),by repeat (first|(with_reducible first|exact HB.out|apply zz03|apply zz01|apply zz02|refine zz10 ?_ GE429.out)|exact HB.out)⟩

def r10_ToDay.f (k : Nat) (a0_0 : Int) (a0_1 : Int) (a0_2 : Bool) (a0_3 : Int) : Option (Int × Int) := (r10_Check.f k a0_0 a0_1 a0_2 a0_3).bind fun t436 => (if t436 = 0 then ((r07_Of.f k a0_0).bind fun bt437 => ((r09_Place.f k bt437.2.2.1 a0_1 a0_2).bind fun bt442 => ((r05_First.f k a0_0).bind fun bt444 => ((r08_Ahead.f k bt437.1 bt437.2.1 bt437.2.2.1 bt442.1).bind fun t446 => (some (wrap64 ((wrap64 ((wrap64 (bt444.1 + t446)) + a0_3)) - 1), 0)))))) else (some (0, t436)))
def r10_ToDay.T7 : Bool × List (List Nat × List Nat) := (true, [([], []), ([], []), ([], []), ([1, 2], [1, 2]), ([0, 3], [0, 3]), ([], []), ([5], [5]), ([4, 6], [4, 6]), ([7], [7]), ([8, 3, 0, 1, 2, 3, 4, 5, 6, 7, 8], [8]), ([9, 0, 1, 2, 3, 4, 5, 6, 7, 8, 9], [])])
def r10_ToDay.B7 : List Nat := [0, 0, 0, 6, 15, 0, 32, 127, 255, 511, 1023]
theorem r10_ToDay.tab7 : rtab .any (opsOf Tryd.f92 7) = r10_ToDay.T7 := by kernel_rfl
theorem r10_ToDay.bits7 : waitsOk r10_ToDay.T7.2 r10_ToDay.B7 = true := by kernel_rfl
set_option maxHeartbeats 8000000 in
set_option maxRecDepth 100000 in
theorem r10_ToDay.calls (k : Nat) (a0_0 : Int) (a0_1 : Int) (a0_2 : Bool) (a0_3 : Int) (r1 : Int) (r2 : Int) (w : World) (h : r10_ToDay.f k a0_0 a0_1 a0_2 a0_3 = some (r1, r2)) :
  Calls Tryd.prog 92 #[.agg #[.int .i64 a0_0, .int .i64 a0_1, .bool a0_2, .int .i64 a0_3]] w fun e w' => e = .returned (.tuple #[.int .i64 r1, .int .i64 r2]) ∧ Below w.heap.size w w' := by
 have hu77 := Tryd.underlying77
 have hu111 := Tryd.underlying111
 have hu23 := Tryd.underlying23
 have HB := zz00 (Below.refl w.heap.size w)
 have H : ((r10_Check.f k a0_0 a0_1 a0_2 a0_3).bind fun t436=>(if t436 = 0 then ((r07_Of.f k a0_0).bind fun bt437=>((r09_Place.f k bt437.2.2.1 a0_1 a0_2).bind fun bt442=>((r05_First.f k a0_0).bind fun bt444=>((r08_Ahead.f k bt437.1 bt437.2.1 bt437.2.2.1 bt442.1).bind fun t446=>(some (wrap64 ((wrap64 ((wrap64 (bt444.1 + t446)) + a0_3)) - 1),0)))))) else (some (0,t436)))) = some (r1,r2):=h
 clear h
 replace H := zz14.mp H
 obtain ⟨t436, A20, H⟩ := H
 replace H : (if t436 = 0 then ((r07_Of.f k a0_0).bind fun bt437=>((r09_Place.f k bt437.2.2.1 a0_1 a0_2).bind fun bt442=>((r05_First.f k a0_0).bind fun bt444=>((r08_Ahead.f k bt437.1 bt437.2.1 bt437.2.2.1 bt442.1).bind fun t446=>(some (wrap64 ((wrap64 ((wrap64 (bt444.1 + t446)) + a0_3)) - 1),0)))))) else (some (0,t436))) = some (r1,r2):=H
 have A2 := zz00 A20
 clear A20
 by_cases c3 : t436 = 0
 ·
  rw [if_pos c3] at H
  have c3b0 : (t436 == 0) = true := zz29.mpr c3
  have c3b1 : (t436 != 0) = false := zz26.mpr c3
  clear c3
  replace H := zz14.mp H
  obtain ⟨⟨t437, t438, t439, t440⟩, A40, H⟩ := H
  replace H : ((r09_Place.f k t439 a0_1 a0_2).bind fun bt442=>((r05_First.f k a0_0).bind fun bt444=>((r08_Ahead.f k t437 t438 t439 bt442.1).bind fun t446=>(some (wrap64 ((wrap64 ((wrap64 (bt444.1 + t446)) + a0_3)) - 1),0))))) = some (r1,r2):=H
  have A4 := zz00 A40
  clear A40
  replace H := zz14.mp H
  obtain ⟨⟨t442, t443⟩, A50, H⟩ := H
  replace H : ((r05_First.f k a0_0).bind fun bt444=>((r08_Ahead.f k t437 t438 t439 t442).bind fun t446=>(some (wrap64 ((wrap64 ((wrap64 (bt444.1 + t446)) + a0_3)) - 1),0)))) = some (r1,r2):=H
  have A5 := zz00 A50
  clear A50
  replace H := zz14.mp H
  obtain ⟨⟨t444, t445⟩, A60, H⟩ := H
  replace H : ((r08_Ahead.f k t437 t438 t439 t442).bind fun t446 => (some (wrap64 ((wrap64 ((wrap64 (t444 + t446)) + a0_3)) - 1), 0))) = some (r1, r2) := H
  have A6 := zz00 A60
  clear A60
  replace H := zz14.mp H
  obtain ⟨t446, A70, H⟩ := H
  replace H : (some (wrap64 ((wrap64 ((wrap64 (t444 + t446)) + a0_3)) - 1), 0)) = some (r1, r2) := H
  have A7 := zz00 A70
  clear A70
  simp only [zz15, zz16] at H
  obtain ⟨rfl, rfl⟩ := H
  go_enter Tryd.func92, Tryd.ntmps92
  try go_wp2_with (first|((with_reducible refine zz24 (N:=1) rfl ?_);refine zz30 ?hg (N:=1) ?hd (cs:=#[.int .i64 a0_0,.int .i64 a0_1,.bool a0_2,.int .i64 a0_3]) (t:=77) ?hr ?_;(case hd=>rfl);(case hg=>rfl);(case hr=>first|(go_simp;done)|(go_simp;rfl));intro gb435 hg w8 hbox hb;have n0_:=zz00 (zz21 (by repeat (first|(with_reducible first|exact HB.out|apply zz03|apply zz01|apply zz02)|exact HB.out)) hb);have n1_:=zz00 (hbox);have n2_:=zz00 ((by rw [hg];exact (zz22 (by repeat (first|(with_reducible first|exact HB.out|apply zz03|apply zz01|apply zz02)|exact HB.out))) : w.heap.size ≤ gb435));have n3_:=zz00 ((by rw [hg];exact (zz22 (by repeat (first|(with_reducible first|exact HB.out|apply zz03|apply zz01|apply zz02)|exact HB.out))) : w.heap.size ≤ gb435));clear HB;have HB:=n0_;have BK435:=n1_;have GW435:=n2_;have GE435:=n3_;clear n0_ n1_ n2_ n3_;clear hb hbox hg;have hcz9_0 : w8.cell? ⟨gb435,0,none⟩ = some (.int .i64 a0_0):=(zz18 BK435.out 0).trans rfl;have hcz9_1 : w8.cell? ⟨gb435,1,none⟩ = some (.int .i64 a0_1):=(zz18 BK435.out 1).trans rfl;have hcz9_2 : w8.cell? ⟨gb435,2,none⟩ = some (.bool a0_2):=(zz18 BK435.out 2).trans rfl;have hcz9_3 : w8.cell? ⟨gb435,3,none⟩ = some (.int .i64 a0_3):=(zz18 BK435.out 3).trans rfl;have hfz9_0:=zz17 BK435.out 0;have hfz9_1:=zz17 BK435.out 1;have hfz9_2:=zz17 BK435.out 2;have hfz9_3:=zz17 BK435.out 3)|((with_reducible refine zz23 (f:=126) rfl ?_);refine zz25 (some 12) rfl rfl Tryd.func126 (by kernel_rfl) rfl #[.agg #[.int .i64 a0_0,.int .i64 a0_1,.bool a0_2,.int .i64 a0_3]] rfl (by (try simp only [List.map_toArray,List.map_cons,List.map_nil]);first|done|rfl|(simp only [List.length_drop,List.length_take];rfl)) ?_;(with_reducible refine (r10_Check.calls k a0_0 a0_1 a0_2 a0_3 t436 _ A2.out).mono ?_);rintro e w10 ⟨rfl,hb⟩;refine ⟨_,rfl,?_⟩;have n0_:=zz00 (zz34 (g:=gb435) (o:=.cells #[.int .i64 a0_0,.int .i64 a0_1,.bool a0_2,.int .i64 a0_3] 77 (0,0)) (by (with_reducible repeat (first|refine zz07 ?_ _|refine zz09 ?_|refine zz08 ?_ _));exact BK435.out) hb);have n1_:=zz00 (zz21 (by repeat (first|(with_reducible first|exact HB.out|apply zz03|apply zz01|apply zz02|refine zz10 ?_ GE435.out)|exact HB.out)) hb);clear BK435;clear HB;have BK435:=n0_;have HB:=n1_;clear n0_ n1_;(try clear hb);(try clear hb2);(try clear hk);(try clear hi);have hcz11_0 : w10.cell? ⟨gb435,0,none⟩ = some (.int .i64 a0_0):=(zz18 BK435.out 0).trans rfl;have hcz11_1 : w10.cell? ⟨gb435,1,none⟩ = some (.int .i64 a0_1):=(zz18 BK435.out 1).trans rfl;have hcz11_2 : w10.cell? ⟨gb435,2,none⟩ = some (.bool a0_2):=(zz18 BK435.out 2).trans rfl;have hcz11_3 : w10.cell? ⟨gb435,3,none⟩ = some (.int .i64 a0_3):=(zz18 BK435.out 3).trans rfl;have hfz11_0:=zz17 BK435.out 0;have hfz11_1:=zz17 BK435.out 1;have hfz11_2:=zz17 BK435.out 2;have hfz11_3:=zz17 BK435.out 3)|((with_reducible refine zz23 (f:=127) rfl ?_);refine zz25 (some 19) rfl rfl Tryd.func127 (by kernel_rfl) rfl #[.int .i64 a0_0] rfl (by (try simp only [List.map_toArray,List.map_cons,List.map_nil]);first|done|rfl|(simp only [List.length_drop,List.length_take];rfl)) ?_;(with_reducible refine (r07_Of.calls k a0_0 t437 t438 t439 t440 _ A4.out).mono ?_);rintro e w12 ⟨rfl,hb⟩;refine ⟨_,rfl,?_⟩;have n0_:=zz00 (zz34 (g:=gb435) (o:=.cells #[.int .i64 a0_0,.int .i64 a0_1,.bool a0_2,.int .i64 a0_3] 77 (0,0)) (by (with_reducible repeat (first|refine zz07 ?_ _|refine zz09 ?_|refine zz08 ?_ _));exact BK435.out) hb);have n1_:=zz00 (zz21 (by repeat (first|(with_reducible first|exact HB.out|apply zz03|apply zz01|apply zz02|refine zz10 ?_ GE435.out)|exact HB.out)) hb);clear BK435;clear HB;have BK435:=n0_;have HB:=n1_;clear n0_ n1_;(try clear hb);(try clear hb2);(try clear hk);(try clear hi))|((with_reducible refine zz24 (N:=5) rfl ?_);refine zz30 ?hg (N:=5) ?hd (cs:=#[.int .i64 0,.int .i64 0,.bool false]) (t:=111) ?hr ?_;(case hd=>rfl);(case hg=>rfl);(case hr=>first|(go_simp;done)|(go_simp;rfl));intro gb441 hg w13 hbox hb;have n0_:=zz00 (zz34 (g:=gb435) (o:=.cells #[.int .i64 a0_0,.int .i64 a0_1,.bool a0_2,.int .i64 a0_3] 77 (0,0)) (by (with_reducible repeat (first|refine zz07 ?_ _|refine zz09 ?_|refine zz08 ?_ _));exact BK435.out) hb);have n1_:=zz00 (zz21 (by repeat (first|(with_reducible first|exact HB.out|apply zz03|apply zz01|apply zz02|refine zz10 ?_ GE435.out)|exact HB.out)) hb);have n2_:=zz00 (hbox);have n3_:=zz00 ((by rw [hg];exact (zz22 (by repeat (first|(with_reducible first|exact HB.out|apply zz03|apply zz01|apply zz02|refine zz10 ?_ GE435.out)|exact HB.out))) : w.heap.size ≤ gb441));have n4_:=zz00 ((by rw [hg];exact (zz22 (by repeat (first|(with_reducible first|exact HB.out|apply zz03|apply zz01|apply zz02|refine zz10 ?_ GE435.out)|exact HB.out))) : w.heap.size ≤ gb441));have n5_:=zz00 ((by rw [hg];exact Nat.ne_of_lt (blk_lt (g:=gb435) (o:=.cells #[.int .i64 a0_0,.int .i64 a0_1,.bool a0_2,.int .i64 a0_3] 77 (0,0)) (by (with_reducible repeat (first|refine zz07 ?_ _|refine zz09 ?_|refine zz08 ?_ _));exact BK435.out)) : gb435 ≠ gb441));have n6_:=zz00 ((by rw [hg];exact Nat.ne_of_gt (blk_lt (g:=gb435) (o:=.cells #[.int .i64 a0_0,.int .i64 a0_1,.bool a0_2,.int .i64 a0_3] 77 (0,0)) (by (with_reducible repeat (first|refine zz07 ?_ _|refine zz09 ?_|refine zz08 ?_ _));exact BK435.out)) : gb441 ≠ gb435));clear BK435;clear HB;have BK435:=n0_;have HB:=n1_;have BK441:=n2_;have GW441:=n3_;have GE441:=n4_;have NB435_441:=n5_;have NB441_435:=n6_;clear n0_ n1_ n2_ n3_ n4_ n5_ n6_;clear hb hbox hg;have hnb14:=NB441_435.out;have hnc14:=NB435_441.out;have hcz15_0 : w13.cell? ⟨gb441,0,none⟩ = some (.int .i64 0):=(zz18 BK441.out 0).trans rfl;have hcz15_1 : w13.cell? ⟨gb441,1,none⟩ = some (.int .i64 0):=(zz18 BK441.out 1).trans rfl;have hcz15_2 : w13.cell? ⟨gb441,2,none⟩ = some (.bool false):=(zz18 BK441.out 2).trans rfl;have hfz15_0:=zz17 BK441.out 0;have hfz15_1:=zz17 BK441.out 1;have hfz15_2:=zz17 BK441.out 2;have hcz16_0 : w13.cell? ⟨gb435,0,none⟩ = some (.int .i64 a0_0):=(zz18 BK435.out 0).trans rfl;have hcz16_1 : w13.cell? ⟨gb435,1,none⟩ = some (.int .i64 a0_1):=(zz18 BK435.out 1).trans rfl;have hcz16_2 : w13.cell? ⟨gb435,2,none⟩ = some (.bool a0_2):=(zz18 BK435.out 2).trans rfl;have hcz16_3 : w13.cell? ⟨gb435,3,none⟩ = some (.int .i64 a0_3):=(zz18 BK435.out 3).trans rfl;have hfz16_0:=zz17 BK435.out 0;have hfz16_1:=zz17 BK435.out 1;have hfz16_2:=zz17 BK435.out 2;have hfz16_3:=zz17 BK435.out 3)|((with_reducible refine zz23 (f:=25) rfl ?_);refine zz25 (some 27) rfl rfl Tryd.func25 (by kernel_rfl) rfl #[.bool t439,.agg #[.int .i64 a0_1,.bool a0_2]] rfl (by (try simp only [List.map_toArray,List.map_cons,List.map_nil]);first|done|rfl|(simp only [List.length_drop,List.length_take];rfl)) ?_;(with_reducible refine (r09_Place.calls k t439 a0_1 a0_2 t442 t443 _ A5.out).mono ?_);rintro e w17 ⟨rfl,hb⟩;refine ⟨_,rfl,?_⟩;have n0_:=zz00 (zz34 (g:=gb435) (o:=.cells #[.int .i64 a0_0,.int .i64 a0_1,.bool a0_2,.int .i64 a0_3] 77 (0,0)) (by (with_reducible repeat (first|refine zz07 ?_ _|refine zz09 ?_|refine zz08 ?_ _));refine zz33 ?_ NB435_441.out _;(with_reducible repeat (first|refine zz07 ?_ _|refine zz09 ?_|refine zz08 ?_ _));refine zz33 ?_ NB435_441.out _;(with_reducible repeat (first|refine zz07 ?_ _|refine zz09 ?_|refine zz08 ?_ _));refine zz33 ?_ NB435_441.out _;(with_reducible repeat (first|refine zz07 ?_ _|refine zz09 ?_|refine zz08 ?_ _));exact BK435.out) hb);have n1_:=zz00 (zz34 (g:=gb441) (o:=.cells #[.int .i64 t437,.int .i64 t438,.bool t439] 111 (0,0)) (by (with_reducible repeat (first|refine zz07 ?_ _|refine zz09 ?_|refine zz08 ?_ _));refine zz35 (cs:=#[.int .i64 t437,.int .i64 t438,.bool false]) ?_ 2 _ rfl;(with_reducible repeat (first|refine zz07 ?_ _|refine zz09 ?_|refine zz08 ?_ _));refine zz35 (cs:=#[.int .i64 t437,.int .i64 0,.bool false]) ?_ 1 _ rfl;(with_reducible repeat (first|refine zz07 ?_ _|refine zz09 ?_|refine zz08 ?_ _));refine zz35 (cs:=#[.int .i64 0,.int .i64 0,.bool false]) ?_ 0 _ rfl;(with_reducible repeat (first|refine zz07 ?_ _|refine zz09 ?_|refine zz08 ?_ _));exact BK441.out) hb);have n2_:=zz00 (zz21 (by repeat (first|(with_reducible first|exact HB.out|apply zz03|apply zz01|apply zz02|refine zz10 ?_ GE435.out|refine zz10 ?_ GE441.out)|exact HB.out)) hb);clear BK435;clear BK441;clear HB;have BK435:=n0_;have BK441:=n1_;have HB:=n2_;clear n0_ n1_ n2_;(try clear hb);(try clear hb2);(try clear hk);(try clear hi);have hcz18_0 : w17.cell? ⟨gb435,0,none⟩ = some (.int .i64 a0_0):=(zz18 BK435.out 0).trans rfl;have hcz18_1 : w17.cell? ⟨gb435,1,none⟩ = some (.int .i64 a0_1):=(zz18 BK435.out 1).trans rfl;have hcz18_2 : w17.cell? ⟨gb435,2,none⟩ = some (.bool a0_2):=(zz18 BK435.out 2).trans rfl;have hcz18_3 : w17.cell? ⟨gb435,3,none⟩ = some (.int .i64 a0_3):=(zz18 BK435.out 3).trans rfl;have hfz18_0:=zz17 BK435.out 0;have hfz18_1:=zz17 BK435.out 1;have hfz18_2:=zz17 BK435.out 2;have hfz18_3:=zz17 BK435.out 3)|((with_reducible refine zz23 (f:=34) rfl ?_);refine zz25 (some 33) rfl rfl Tryd.func34 (by kernel_rfl) rfl #[.int .i64 a0_0] rfl (by (try simp only [List.map_toArray,List.map_cons,List.map_nil]);first|done|rfl|(simp only [List.length_drop,List.length_take];rfl)) ?_;(with_reducible refine (r05_First.calls k a0_0 t444 t445 _ A6.out).mono ?_);rintro e w19 ⟨rfl,hb⟩;refine ⟨_,rfl,?_⟩;have n0_:=zz00 (zz34 (g:=gb435) (o:=.cells #[.int .i64 a0_0,.int .i64 a0_1,.bool a0_2,.int .i64 a0_3] 77 (0,0)) (by (with_reducible repeat (first|refine zz07 ?_ _|refine zz09 ?_|refine zz08 ?_ _));exact BK435.out) hb);have n1_:=zz00 (zz34 (g:=gb441) (o:=.cells #[.int .i64 t437,.int .i64 t438,.bool t439] 111 (0,0)) (by (with_reducible repeat (first|refine zz07 ?_ _|refine zz09 ?_|refine zz08 ?_ _));exact BK441.out) hb);have n2_:=zz00 (zz21 (by repeat (first|(with_reducible first|exact HB.out|apply zz03|apply zz01|apply zz02|refine zz10 ?_ GE435.out|refine zz10 ?_ GE441.out)|exact HB.out)) hb);clear BK435;clear BK441;clear HB;have BK435:=n0_;have BK441:=n1_;have HB:=n2_;clear n0_ n1_ n2_;(try clear hb);(try clear hb2);(try clear hk);(try clear hi)))
  have n0_ := zz00 (zz09 BK435.out)
  have n1_ := zz00 (zz09 BK441.out)
  have n2_ := zz00 (zz02 HB.out)
  clear BK435
  clear BK441
  clear HB
  have BK435 := n0_
  have BK441 := n1_
  have HB := n2_
  clear n0_ n1_ n2_
  refine start_ (n:=11) (S:=fun w'=>w'.cell? ⟨gb441,0,none⟩ = some (.int .i64 t437) ∧ w'.cell? ⟨gb441,1,none⟩ = some (.int .i64 t438) ∧ w'.cell? ⟨gb441,2,none⟩ = some (.bool t439) ∧ w'.cell? ⟨gb435,0,none⟩ = some (.int .i64 a0_0) ∧ w'.cell? ⟨gb435,1,none⟩ = some (.int .i64 a0_1) ∧ w'.cell? ⟨gb435,2,none⟩ = some (.bool a0_2) ∧ w'.cell? ⟨gb435,3,none⟩ = some (.int .i64 a0_3)) (ds:=[]) #[false,false,false,false,false,false,false,false,false,false,false] (by kernel_rfl) rfl rfl ⟨(zz18 BK441.out 0).trans rfl,(zz18 BK441.out 1).trans rfl,(zz18 BK441.out 2).trans rfl,(zz18 BK435.out 0).trans rfl,(zz18 BK435.out 1).trans rfl,(zz18 BK435.out 2).trans rfl,(zz18 BK435.out 3).trans rfl⟩ (fun hHeld=>?_);refine with_tabW r10_ToDay.tab7 r10_ToDay.bits7 (fun HT_ HW_=>?_)
  generalize w19.drew = w20 at BK435 BK441 HB hHeld ⊢
  refine pure_ (i:=0) (N:=some 36) (v:=?_) (a':=?_) #[true,false,false,false,false,false,false,false,false,false,false] rfl rfl (any_of HT_.out (by kernel_rfl)) (fun _ _ _ h=>h) (Or.inl ⟨by rfl,?_⟩) ?_ ?_
  rotate_left
  ·
   intro w'
   go_simp
   with_reducible rfl
  rotate_left
  ·
   simp only [Act.put,zz11,zz12,zz13,i64_w,i32_w]
   rfl
  refine pure_ (i:=2) (N:=some 38) (v:=?_) (a':=?_) #[true,false,true,false,false,false,false,false,false,false,false] rfl rfl (any_of HT_.out (by kernel_rfl)) (fun _ _ _ h=>h) (Or.inl ⟨by rfl,?_⟩) ?_ ?_
  rotate_left
  ·
   intro w'
   go_simp
   with_reducible rfl
  rotate_left
  ·
   simp only [Act.put,zz11,zz12,zz13,i64_w,i32_w]
   rfl
  refine pure_ (i:=5) (N:=some 41) (v:=?_) (a':=?_) #[true,false,true,false,false,true,false,false,false,false,false] rfl rfl (any_of HT_.out (by kernel_rfl)) (fun _ _ _ h=>h) (Or.inl ⟨by rfl,?_⟩) ?_ ?_
  rotate_left
  ·
   intro w'
   go_simp
   with_reducible rfl
  rotate_left
  ·
   simp only [Act.put,zz11,zz12,zz13,i64_w,i32_w]
   rfl
  refine take_ (i:=1) (N:=some 37) (v:=?_) (a':=?_) #[true,true,true,false,false,true,false,false,false,false,false] rfl rfl (take_ofW HT_.out HW_.out (by kernel_rfl)) (fun _ _ _ h=>h) (Or.inl ⟨by rfl,?_⟩) hHeld ?_ ?_
  rotate_left
  ·
   rintro w' ⟨s0, s1, s2, s3, s4, s5, s6⟩
   go_simp
   with_reducible rfl
  rotate_left
  ·
   simp only [Act.put,zz11,zz12,zz13,i64_w,i32_w]
   rfl
  refine take_ (i:=6) (N:=some 42) (v:=?_) (a':=?_) #[true,true,true,false,false,true,true,false,false,false,false] rfl rfl (take_ofW HT_.out HW_.out (by kernel_rfl)) (fun _ _ _ h=>h) (Or.inl ⟨by rfl,?_⟩) hHeld ?_ ?_
  rotate_left
  ·
   rintro w' ⟨s0, s1, s2, s3, s4, s5, s6⟩
   go_simp
   with_reducible rfl
  rotate_left
  ·
   simp only [Act.put,zz11,zz12,zz13,i64_w,i32_w]
   rfl
  refine one_ (i := 3) (N := some 39) #[true, true, true, true, false, true, true, false, false, false, false] rfl rfl (one_of HT_.out (by kernel_rfl)) (by decide) (fun K hK => ?_)
  refine goes_ Tryd.func128 (by kernel_rfl) rfl #[.agg #[.int .i64 t437,.int .i64 t438,.bool t439],.int .i64 t442] (by rfl) rfl rfl (by (try simp only [List.map_toArray,List.map_cons,List.map_nil]);first|done|rfl|(simp only [List.length_drop,List.length_take];rfl)) ?_
  with_reducible refine (r08_Ahead.calls k t437 t438 t439 t442 t446 _ A7.out).mono ?_
  rintro e w21 ⟨rfl, hb⟩
  refine ⟨_, rfl, ?_⟩
  have n0_:=zz00 (zz34 (g:=gb435) (o:=.cells #[.int .i64 a0_0,.int .i64 a0_1,.bool a0_2,.int .i64 a0_3] 77 (0,0)) (by (with_reducible repeat (first|refine zz07 ?_ _|refine zz09 ?_|refine zz08 ?_ _));exact BK435.out) hb)
  have n1_:=zz00 (zz34 (g:=gb441) (o:=.cells #[.int .i64 t437,.int .i64 t438,.bool t439] 111 (0,0)) (by (with_reducible repeat (first|refine zz07 ?_ _|refine zz09 ?_|refine zz08 ?_ _));exact BK441.out) hb)
  have n2_:=zz00 (zz21 (by repeat (first|(with_reducible first|exact HB.out|apply zz03|apply zz01|apply zz02|refine zz10 ?_ GE435.out|refine zz10 ?_ GE441.out)|exact HB.out)) hb)
  clear BK435
  clear BK441
  clear HB
  have BK435 := n0_
  have BK441 := n1_
  have HB := n2_
  clear n0_ n1_ n2_
  (try clear hb)
  (try clear hb2)
  (try clear hk)
  (try clear hi)
  refine hK.out _ _ ⟨(zz18 BK441.out 0).trans rfl,(zz18 BK441.out 1).trans rfl,(zz18 BK441.out 2).trans rfl,(zz18 BK435.out 0).trans rfl,(zz18 BK435.out 1).trans rfl,(zz18 BK435.out 2).trans rfl,(zz18 BK435.out 3).trans rfl⟩ (fun hHeld=>?_)
  clear hK K
  refine norm_ (a' := ?_) ?_ ?_
  rotate_left
  ·
   show Act.put _ (some 39) _ = _
   simp only [Act.put,zz11,zz12,zz13,i64_w,i32_w]
   rfl
  refine pure_ (i:=4) (N:=some 40) (v:=?_) (a':=?_) #[true,true,true,true,true,true,true,false,false,false,false] rfl rfl (any_of HT_.out (by kernel_rfl)) (fun _ _ _ h=>h) (Or.inl ⟨by rfl,?_⟩) ?_ ?_
  rotate_left
  ·
   intro w'
   go_simp
   with_reducible rfl
  rotate_left
  ·
   simp only [Act.put,zz11,zz12,zz13,i64_w,i32_w]
   rfl
  refine pure_ (i:=7) (N:=some 43) (v:=?_) (a':=?_) #[true,true,true,true,true,true,true,true,false,false,false] rfl rfl (any_of HT_.out (by kernel_rfl)) (fun _ _ _ h=>h) (Or.inl ⟨by rfl,?_⟩) ?_ ?_
  rotate_left
  ·
   intro w'
   go_simp
   with_reducible rfl
  rotate_left
  ·
   simp only [Act.put,zz11,zz12,zz13,i64_w,i32_w]
   rfl
  refine pure_ (i:=8) (N:=some 44) (v:=?_) (a':=?_) #[true,true,true,true,true,true,true,true,true,false,false] rfl rfl (any_of HT_.out (by kernel_rfl)) (fun _ _ _ h=>h) (Or.inl ⟨by rfl,?_⟩) ?_ ?_
  rotate_left
  ·
   intro w'
   go_simp
   with_reducible rfl
  rotate_left
  ·
   simp only [Act.put,zz11,zz12,zz13,i64_w,i32_w]
   rfl
  refine pure_ (i:=9) (N:=some 2) (v:=?_) (a':=?_) #[true,true,true,true,true,true,true,true,true,true,false] rfl rfl (any_of HT_.out (by kernel_rfl)) (fun _ _ _ h=>h) (Or.inl ⟨by rfl,?_⟩) ?_ ?_
  rotate_left
  ·
   intro w'
   go_simp
   with_reducible rfl
  rotate_left
  ·
   simp only [Act.put,zz11,zz12,zz13,i64_w,i32_w]
   rfl
  refine pure_ (i:=10) (N:=some 3) (v:=?_) (a':=?_) #[true,true,true,true,true,true,true,true,true,true,true] rfl rfl (any_of HT_.out (by kernel_rfl)) (fun _ _ _ h=>h) (Or.inl ⟨by rfl,?_⟩) ?_ ?_
  rotate_left
  ·
   intro w'
   go_simp
   with_reducible rfl
  rotate_left
  ·
   simp only [Act.put,zz11,zz12,zz13,i64_w,i32_w]
   rfl
  refine done_ (done_of HT_.out (by kernel_rfl)) ?_
  try go_wp2
  go_ret2
  exact ⟨by first|rfl|(simp [errW_none,errW_some] <;> rfl)|(simp [*,errW_none,errW_some] <;> rfl),by repeat (first|(with_reducible first|exact HB.out|apply zz03|apply zz01|apply zz02|refine zz10 ?_ GE435.out|refine zz10 ?_ GE441.out)|exact HB.out)⟩
 ·
  rw [if_neg c3] at H
  have c3b0 : (t436 == 0) = false := zz27.mpr c3
  have c3b1 : (t436 != 0) = true := zz28.mpr c3
  simp only [zz15, zz16] at H
  obtain ⟨rfl, rfl⟩ := H
  go_enter Tryd.func92, Tryd.ntmps92
  go_wp2_with (first|((with_reducible refine zz24 (N:=1) rfl ?_);refine zz30 ?hg (N:=1) ?hd (cs:=#[.int .i64 a0_0,.int .i64 a0_1,.bool a0_2,.int .i64 a0_3]) (t:=77) ?hr ?_;(case hd=>rfl);(case hg=>rfl);(case hr=>first|(go_simp;done)|(go_simp;rfl));intro gb435 hg w22 hbox hb;have n0_:=zz00 (zz21 (by repeat (first|(with_reducible first|exact HB.out|apply zz03|apply zz01|apply zz02)|exact HB.out)) hb);have n1_:=zz00 (hbox);have n2_:=zz00 ((by rw [hg];exact (zz22 (by repeat (first|(with_reducible first|exact HB.out|apply zz03|apply zz01|apply zz02)|exact HB.out))) : w.heap.size ≤ gb435));have n3_:=zz00 ((by rw [hg];exact (zz22 (by repeat (first|(with_reducible first|exact HB.out|apply zz03|apply zz01|apply zz02)|exact HB.out))) : w.heap.size ≤ gb435));clear HB;have HB:=n0_;have BK435:=n1_;have GW435:=n2_;have GE435:=n3_;clear n0_ n1_ n2_ n3_;clear hb hbox hg;have hcz23_0 : w22.cell? ⟨gb435,0,none⟩ = some (.int .i64 a0_0):=(zz18 BK435.out 0).trans rfl;have hcz23_1 : w22.cell? ⟨gb435,1,none⟩ = some (.int .i64 a0_1):=(zz18 BK435.out 1).trans rfl;have hcz23_2 : w22.cell? ⟨gb435,2,none⟩ = some (.bool a0_2):=(zz18 BK435.out 2).trans rfl;have hcz23_3 : w22.cell? ⟨gb435,3,none⟩ = some (.int .i64 a0_3):=(zz18 BK435.out 3).trans rfl;have hfz23_0:=zz17 BK435.out 0;have hfz23_1:=zz17 BK435.out 1;have hfz23_2:=zz17 BK435.out 2;have hfz23_3:=zz17 BK435.out 3)|((with_reducible refine zz23 (f:=126) rfl ?_);refine zz25 (some 12) rfl rfl Tryd.func126 (by kernel_rfl) rfl #[.agg #[.int .i64 a0_0,.int .i64 a0_1,.bool a0_2,.int .i64 a0_3]] rfl (by (try simp only [List.map_toArray,List.map_cons,List.map_nil]);first|done|rfl|(simp only [List.length_drop,List.length_take];rfl)) ?_;(with_reducible refine (r10_Check.calls k a0_0 a0_1 a0_2 a0_3 t436 _ A2.out).mono ?_);rintro e w24 ⟨rfl,hb⟩;refine ⟨_,rfl,?_⟩;have n0_:=zz00 (zz34 (g:=gb435) (o:=.cells #[.int .i64 a0_0,.int .i64 a0_1,.bool a0_2,.int .i64 a0_3] 77 (0,0)) (by (with_reducible repeat (first|refine zz07 ?_ _|refine zz09 ?_|refine zz08 ?_ _));exact BK435.out) hb);have n1_:=zz00 (zz21 (by repeat (first|(with_reducible first|exact HB.out|apply zz03|apply zz01|apply zz02|refine zz10 ?_ GE435.out)|exact HB.out)) hb);clear BK435;clear HB;have BK435:=n0_;have HB:=n1_;clear n0_ n1_;(try clear hb);(try clear hb2);(try clear hk);(try clear hi)))
  go_ret2
  exact ⟨by first|rfl|(simp [errW_none,errW_some] <;> rfl)|(simp [*,errW_none,errW_some] <;> rfl),by repeat (first|(with_reducible first|exact HB.out|apply zz03|apply zz01|apply zz02|refine zz10 ?_ GE435.out)|exact HB.out)⟩

def r19_Day.f (k : Nat) (a0 : Int) (a1 : Int) (a2 : Int) : Option (Int) := (r10_ToDay.f k a0 a1 false a2).bind fun bt447 => (some bt447.1)
set_option maxHeartbeats 8000000 in
set_option maxRecDepth 100000 in
theorem r19_Day.calls (k : Nat) (a0 : Int) (a1 : Int) (a2 : Int) (r : Int) (w : World) (h : r19_Day.f k a0 a1 a2 = some r) :
  Calls Tryd.prog 63 #[.int .i64 a0, .int .i64 a1, .int .i64 a2] w fun e w' => e = .returned (.int .i64 r) ∧ Below w.heap.size w w' := by
 have hu23 := Tryd.underlying23
 have hu77 := Tryd.underlying77
 have HB := zz00 (Below.refl w.heap.size w)
 have H : ((r10_ToDay.f k a0 a1 false a2).bind fun bt447 => (some bt447.1)) = some r := h
 clear h
 replace H := zz14.mp H
 obtain ⟨⟨t447, t448⟩, A40, H⟩ := H
 replace H : (some t447) = some r := H
 have A4 := zz00 A40
 clear A40
 obtain rfl := Option.some.inj H
 go_enter Tryd.func63, Tryd.ntmps63
 go_wp2_with (first|((with_reducible refine zz23 (f:=92) rfl ?_);refine zz25 (some 15) rfl rfl Tryd.func92 (by kernel_rfl) rfl #[.agg #[.int .i64 a0,.int .i64 a1,.bool false,.int .i64 a2]] rfl (by (try simp only [List.map_toArray,List.map_cons,List.map_nil]);first|done|rfl|(simp only [List.length_drop,List.length_take];rfl)) ?_;(with_reducible refine (r10_ToDay.calls k a0 a1 false a2 t447 t448 _ A4.out).mono ?_);rintro e w5 ⟨rfl,hb⟩;refine ⟨_,rfl,?_⟩;have n0_:=zz00 (zz21 (by repeat (first|(with_reducible first|exact HB.out|apply zz03|apply zz01|apply zz02)|exact HB.out)) hb);clear HB;have HB:=n0_;clear n0_;(try clear hb);(try clear hb2);(try clear hk);(try clear hi)))
 go_ret
 exact ⟨by first|rfl|(simp [errW_none,errW_some] <;> rfl)|(simp [*,errW_none,errW_some] <;> rfl),by repeat (first|(with_reducible first|exact HB.out|apply zz03|apply zz01|apply zz02)|exact HB.out)⟩

def r19_days.l0 : Nat → List (S48) → Int → Int → Int → List Int → Int → Option ((List (S48)))
  | 0, _, _, _, _, _, _ => none
  | k + 1, x0, x1, x2, x3, x4, x11 => if x11 < (x4.length : Int) then (if 0 ≤ x11 then ((r19_Day.f k x2 x3 (rd x4 x11)).bind fun t450 => (if x0.length < 8796093022208 then (r19_days.l0 k (x0 ++ [(⟨x1, t450⟩ : S48)]) x1 x2 x3 x4 (wrap64 (x11 + 1))) else (none))) else (none)) else (some x0)
def r19_days.f (k : Nat) (l0 : List (S48)) (a1 : Int) (a2 : Int) (a3 : Int) (l4 : List Int) : Option ((List (S48))) := r19_days.l0 k l0 a1 a2 a3 l4 0
set_option maxHeartbeats 8000000 in
set_option maxRecDepth 100000 in
theorem r19_days.calls (k : Nat) (P0_ : Nat → Prop) (u9000_ : Value) (l0 : List (S48)) (a1 : Int) (a2 : Int) (a3 : Int) (A4 : Option Addr) (c4 : Nat) (l4 : List Int) (r : List (S48)) (w0 w : World) (hB : Below w0.heap.size w0 w) (ho0 : Kd.R k48 48 w w0.heap.size P0_ u9000_ l0) (hr4 : ∀ W_, Kept w W_ (fun k_ => P0_ k_) → Kd.C (Kd.int .i64) W_ A4 l4.length l4) (hc4 : l4.length ≤ c4) (h : r19_days.f k l0 a1 a2 a3 l4 = some r) :
  Calls Tryd.prog 62 #[u9000_,.int .i64 a1,.int .i64 a2,.int .i64 a3,.slice A4 l4.length c4] w fun e w'=>∃ v0_ : Value,e = .returned (v0_) ∧ Kd.R k48 48 w' w0.heap.size (fun k_=>(P0_ k_ ∨ w.heap.size ≤ k_)) v0_ r ∧ Below w0.heap.size w0 w' ∧ Kept w w' (fun k_=>P0_ k_):=by
 have hu48 := Tryd.underlying48
 have HO0 := zz00 (show Kd.R k48 48 w w0.heap.size (fun k_ => (P0_ k_ ∨ w.heap.size ≤ k_)) u9000_ l0 from Kd.R_mono ho0 (fun k_ hk => (.inl hk)))
 have HR4 := zz00 hr4
 have HC4 := zz00 hc4
 clear hr4 hc4
 have HK := zz00 (Kept.refl w (fun k_ => P0_ k_))
 have HW0 := zz00 hB.size
 have HB := zz00 hB
 clear hB
 have H : (r19_days.l0 k l0 a1 a2 a3 l4 0) = some r := h
 clear h
 have H' := zz00 H
 clear H
 go_enter Tryd.func62, Tryd.ntmps62
 go_wp2
 go_loopg [0,11] k (fun kq v0 v11 w'=>∃ (x0_1 : List (S48)) (x11_1 : Int),v11 = .int .i64 x11_1 ∧ Aside0 (r19_days.l0 kq x0_1 a1 a2 a3 l4 x11_1 = some r) ∧ Aside0 (kq ≤ k) ∧ Aside0 (Kd.R k48 48 w' w0.heap.size (fun k_=>(P0_ k_ ∨ w.heap.size ≤ k_)) v0 x0_1) ∧ Aside0 (Kept w w' (fun k_=>P0_ k_)) ∧ Aside0 (Below w0.heap.size w0 w'))
 case atStart=>exact ⟨(l0),(0),(by first|rfl|(simp;done)|(simp [*];done)),H',⟨Nat.le_refl _⟩,⟨by (with_reducible repeat (first|apply zz05|apply zz04|apply zz06));exact HO0.out⟩,⟨by repeat (first|(with_reducible first|exact HK.out|apply Kept.alloc|apply Kept.drewN|apply Kept.drew)|exact HK.out)⟩,⟨by repeat (first|(with_reducible first|exact HB.out|apply zz03|apply zz01|apply zz02)|exact HB.out)⟩⟩
 case round =>
  clear H'
  try clear p2
  try clear c4
  obtain ⟨x0_1, x11_1, rfl, HA, HK1, HO_0, HK, HB⟩ := hrel
  cases gk with
  | zero => exact absurd HA.out (by simp [r19_days.l0])
  | succ k1 =>
   have H := HA.out
   clear HA
   simp only [r19_days.l0] at H
   by_cases c6 : x11_1 < (l4.length : Int)
   ·
    rw [if_pos c6] at H
    have c6b0 : decide (x11_1 < (l4.length : Int)) = true := decide_eq_true c6
    clear c6
    by_cases c7 : 0 ≤ x11_1
    ·
     rw [if_pos c7] at H
     have c7b0 : decide (0 ≤ x11_1) = true := decide_eq_true c7
     clear c7
     replace H := zz14.mp H
     obtain ⟨t450, A80, H⟩ := H
     replace H : (if x0_1.length < 8796093022208 then (r19_days.l0 k1 (x0_1 ++ [(⟨a1, t450⟩ : S48)]) a1 a2 a3 l4 (wrap64 (x11_1 + 1))) else (none)) = some r := H
     have A8 := zz00 A80
     clear A80
     by_cases c9 : x0_1.length < 8796093022208
     ·
      rw [if_pos c9] at H
      have LMc9 := zz00 c9
      clear c9
      obtain ⟨y451, hy451⟩ : ∃ y_ : List (S48), y_ = (x0_1 ++ [(⟨a1, t450⟩ : S48)]) := ⟨_, rfl⟩
      replace H : (r19_days.l0 k1 y451 a1 a2 a3 l4 (wrap64 (x11_1 + 1))) = some r:=by first|(rw [hy451];with_reducible exact H)|(have H2_:=(Option.bind_some _ _).symm.trans H;rw [hy451];with_reducible exact H2_)|(have H2_:=(Option.bind_some _ _).symm.trans H;with_reducible exact H2_)|with_reducible exact H|(rw [hy451];exact H)|exact H
      have Ny451 := zz00 hy451
      clear hy451
      have H' := zz00 H
      clear H
      have p449 : 0 ≤ (x11_1 : Int) := zz31 (by first | (with_reducible assumption) | assumption)
      have q449 : x11_1 < (l4.length : Int) := zz31 (by first | (with_reducible assumption) | assumption)
      obtain ⟨ad449, e449, hx449_0⟩ := Kd.at_int (Kd.C_kept_now HR4.out HK.out) x11_1 p449 q449
      cases e449
      replace p449 := eq_true p449
      replace q449 := eq_true q449
      go_wp2_with (first|((with_reducible refine zz23 (f:=63) rfl ?_);refine zz25 (some 26) rfl rfl Tryd.func63 (by kernel_rfl) rfl #[.int .i64 a2,.int .i64 a3,.int .i64 (rd l4 x11_1)] rfl (by (try simp only [List.map_toArray,List.map_cons,List.map_nil]);first|done|rfl|(simp only [List.length_drop,List.length_take];rfl)) ?_;(with_reducible refine (r19_Day.calls k1 a2 a3 (rd l4 x11_1) t450 _ A8.out).mono ?_);rintro e w10 ⟨rfl,hb⟩;refine ⟨_,rfl,?_⟩;have n0_:=zz00 (zz19 (by (with_reducible repeat (first|apply zz05|apply zz04|apply zz06));exact HO_0.out) hb);have n1_:=zz00 (Kept.below (S:=(fun k_=>P0_ k_)) (by repeat (first|(with_reducible first|exact HK.out|apply Kept.alloc|apply Kept.drewN|apply Kept.drew)|exact HK.out)) hb);have n2_:=zz00 (zz21 (by repeat (first|(with_reducible first|exact HB.out|apply zz03|apply zz01|apply zz02)|exact HB.out)) hb);clear HO_0;clear HK;clear HB;have HO_0:=n0_;have HK:=n1_;have HB:=n2_;clear n0_ n1_ n2_;(try clear hb);(try clear hb2);(try clear hk);(try clear hi))|((with_reducible refine gate_builtin (b:=.append) (xs:=#[.tmp 18,.tmp 28]) rfl ?_);at_builtin;refine Kd.R_append k48 (w0:=w0) w0.heap.size rfl (.tmp 18) (.tmp 28) 38 48 (.agg #[(.int .i64 0),(.int .i64 0)]) 16 rfl Tryd.underlying38 info48 rfl (by decide) (by omega) u0 x0_1 (⟨a1,t450⟩ : S48) [.int .i64 a1,.int .i64 t450] (fun k_=>(P0_ k_ ∨ w.heap.size ≤ k_)) (fun _=>False) rfl rfl ?aP (fun _ hk=>hk.elim) ?aF ?aO ?aB ?aS ?aL ?_;(case aP=>exact k48_mkM _ _ _ (⟨a1,t450⟩ : S48));(case aB=>exact (by repeat (first|(with_reducible first|exact HB.out|apply zz03|apply zz01|apply zz02)|exact HB.out)));(case aF=>exact (fun k_ hk=>(.inr (Nat.le_trans (by first|exact HK.out.1|exact (show Kept w _ (fun k_=>P0_ k_) from by repeat (first|(with_reducible first|exact HK.out|apply Kept.alloc|apply Kept.drewN|apply Kept.drew)|exact HK.out)).1) hk))));(case aO=>exact (by (with_reducible repeat (first|apply zz05|apply zz04|apply zz06));exact HO_0.out));(case aS=>exact (zz22 (by repeat (first|(with_reducible first|exact HB.out|apply zz03|apply zz01|apply zz02)|exact HB.out))));(case aL=>have:=LMc9.out;omega);intro v452 w11 ho hb hg hat;rw [← Ny451.out] at ho;have n0_:=zz00 (hb);have n1_:=zz00 (Kept.of_grown (S:=(fun k_=>P0_ k_)) hg (by repeat (first|(with_reducible first|exact HK.out|apply Kept.alloc|apply Kept.drewN|apply Kept.drew)|exact HK.out)) (fun k_ e_=>(HO_0.out.1 k_ e_)));have n2_:=zz00 (ho);clear HB;clear HK;clear HO_0;have HB:=n0_;have HK:=n1_;have HO453:=n2_;clear n0_ n1_ n2_;clear ho hb hg hat))
      go_roundg k1
      case measure => have := HK1.out; omega
      case rel=>exact ⟨(y451),(wrap64 (x11_1 + 1)),(by first|rfl|(simp;done)|(simp [*];done)),H',⟨by have:=HK1.out;omega⟩,⟨by (with_reducible repeat (first|apply zz05|apply zz04|apply zz06));exact HO453.out⟩,⟨by repeat (first|(with_reducible first|exact HK.out|apply Kept.alloc|apply Kept.drewN|apply Kept.drew)|exact HK.out)⟩,⟨by repeat (first|(with_reducible first|exact HB.out|apply zz03|apply zz01|apply zz02)|exact HB.out)⟩⟩
     ·
      rw [if_neg c9] at H
      exact absurd H (by simp)
    ·
     rw [if_neg c7] at H
     exact absurd H (by simp)
   ·
    rw [if_neg c6] at H
    have c6b0 : decide (x11_1 < (l4.length : Int)) = false := decide_eq_false c6
    clear c6
    obtain rfl := Option.some.inj H
    go_wp2
    go_ret
    exact ⟨_,by first|rfl|(simp [errW_none,errW_some] <;> rfl)|(simp [*,errW_none,errW_some] <;> rfl),by (with_reducible repeat (first|apply zz05|apply zz04|apply zz06));exact HO_0.out,by repeat (first|(with_reducible first|exact HB.out|apply zz03|apply zz01|apply zz02)|exact HB.out),by repeat (first|(with_reducible first|exact HK.out|apply Kept.alloc|apply Kept.drewN|apply Kept.drew)|exact HK.out)⟩

end Go.Proofs.YtflpddhoiafhcaaDoor.T
end

section
-- Written by wip/hprint.py of this repo (holes typed by hand, all else by a program) over the seat YtflpddhoiafhcaaDoor.
namespace Go.Proofs.YtflpddhoiafhcaaDoor.T
open Go.Proofs.YtflpddhoiafhcaaDoor.H
open Go.RowKit Go.Proofs.YtflpddhoiafhcaaDoorW.PrintWords Go.Proofs.YtflpddhoiafhcaaDoorW.PrintLast Go.Proofs.YtflpddhoiafhcaaDoorW.PrintMore
attribute [local go_sem] max2_int min2_int max_two min_two max_three min_three max_four min_four   -- for this text's walks alone
set_option linter.unusedVariables false
set_option linter.unusedSimpArgs false

mutual
def r19_Of.l0 : Nat → Int → Int → List (S48) → Int → Option ((List (S48)) × Int)
  | 0, _, _, _, _ => none
  | k + 1, x0, x1, x6, x7 => if x7 < 8 then ((r19_Day.f k x0 3 25).bind fun t486 => (if x6.length < 8796093022208 then (r19_Of.l0 k x0 x1 (x6 ++ [(⟨9, wrap64 (t486 + x7)⟩ : S48)]) (wrap64 (x7 + 1))) else (none))) else ((r19_days.f k x6 11 x0 5 (([15] : List Int))).bind fun t493 => ((r03_Is.f x0).bind fun t496 => (if t496 = true then ((r19_Day.f k x0 5 30).bind fun t497 => (if t493.length < 8796093022208 then (r19_Of.j1 k x0 x1 (t493 ++ [(⟨12, wrap64 (t497 + 14)⟩ : S48)])) else (none))) else (r19_Of.j1 k x0 x1 t493))))
def r19_Of.j1 : Nat → Int → Int → List (S48) → Option ((List (S48)) × Int)
  | 0, _, _, _ => none
  | k + 1, x0, x1, x6 => (r19_days.f k x6 14 x0 6 (([14] : List Int))).bind fun t504 => ((r19_days.f k t504 15 x0 6 (([15] : List Int))).bind fun t510 => ((r19_days.f k t510 18 x0 7 (([17, 18, 19, 20] : List Int))).bind fun t516 => ((r19_days.f k t516 22 x0 8 (([14] : List Int))).bind fun t522 => ((r19_days.f k t522 23 x0 8 (([18] : List Int))).bind fun t528 => ((r19_days.f k t528 28 x0 11 (([15] : List Int))).bind fun t534 => (if x1 = 1 then ((r19_days.f k t534 4 x0 1 (([15] : List Int))).bind fun t540 => ((r19_days.f k t540 5 x0 1 (([16] : List Int))).bind fun t546 => ((r19_days.f k t546 8 x0 1 (([22] : List Int))).bind fun t552 => ((r19_days.f k t552 17 x0 7 (([15, 21] : List Int))).bind fun t558 => ((r19_days.f k t558 18 x0 7 (([16] : List Int))).bind fun t564 => ((r19_days.f k t564 25 x0 9 (([6] : List Int))).bind fun t570 => ((r19_Sort.f k t570).bind fun t573 => (some (t573, 0))))))))) else ((r19_days.f k t534 4 x0 1 (([15, 16] : List Int))).bind fun t579 => ((r19_days.f k t579 8 x0 1 (([23] : List Int))).bind fun t585 => ((r19_days.f k t585 17 x0 7 (([15, 16, 21, 22] : List Int))).bind fun t591 => ((r19_days.f k t591 25 x0 9 (([6, 7] : List Int))).bind fun t597 => ((r19_Sort.f k t597).bind fun t600 => (some (t600, 0)))))))))))))
end
def r19_Of.f (k : Nat) (a0 : Int) (a1 : Int) : Option ((List (S48)) × Int) := (r19_Place.f a1).bind fun t454 => (if t454 = true then ((r07_Right.f a0).bind fun t455 => (if t455 = true then ((r19_days.f k ([] : List (S48)) 1 a0 1 (([1, 2] : List Int))).bind fun t459 => ((r19_days.f k t459 3 a0 1 (([10] : List Int))).bind fun t465 => ((r19_days.f k t465 5 a0 1 (([17, 18, 19, 20] : List Int))).bind fun t471 => ((r19_days.f k t471 6 a0 1 (([21] : List Int))).bind fun t477 => ((r19_days.f k t477 7 a0 1 (([22] : List Int))).bind fun t483 => (r19_Of.l0 k a0 a1 t483 0)))))) else (some (([] : List (S48)), 2)))) else (some (([] : List (S48)), 1)))
end Go.Proofs.YtflpddhoiafhcaaDoor.T
end

section
-- Written by wip/hprint.py of this repo (holes typed by hand, all else by a program) over the seat YtflpddhoiafhcaaDoor.
namespace Go.Proofs.YtflpddhoiafhcaaDoor.T
open Go.Proofs.YtflpddhoiafhcaaDoor.H
open Go.RowKit Go.Proofs.YtflpddhoiafhcaaDoorW.PrintWords Go.Proofs.YtflpddhoiafhcaaDoorW.PrintLast Go.Proofs.YtflpddhoiafhcaaDoorW.PrintMore
attribute [local go_sem] max2_int min2_int max_two min_two max_three min_three max_four min_four   -- for this text's walks alone
set_option linter.unusedVariables false
set_option linter.unusedSimpArgs false

set_option maxHeartbeats 8000000 in
set_option maxRecDepth 100000 in
theorem r19_Of.calls (k : Nat) (a0 : Int) (a1 : Int) (r1 : List (S48)) (r2 : Int) (w : World) (h : r19_Of.f k a0 a1 = some (r1, r2)) :
  Calls Tryd.prog 36 #[.int .i64 a0,.int .i64 a1] w fun e w'=>∃ v0_ : Value,e = .returned (.tuple #[v0_,.int .i64 r2]) ∧ Kd.R k48 48 w' w.heap.size (fun _=>True) v0_ r1 ∧ Below w.heap.size w w':=by
 have hu48 := Tryd.underlying48
 have HB := zz00 (Below.refl w.heap.size w)
 have H : ((r19_Place.f a1).bind fun t454=>(if t454 = true then ((r07_Right.f a0).bind fun t455=>(if t455 = true then ((r19_days.f k ([] : List (S48)) 1 a0 1 (([1,2] : List Int))).bind fun t459=>((r19_days.f k t459 3 a0 1 (([10] : List Int))).bind fun t465=>((r19_days.f k t465 5 a0 1 (([17,18,19,20] : List Int))).bind fun t471=>((r19_days.f k t471 6 a0 1 (([21] : List Int))).bind fun t477=>((r19_days.f k t477 7 a0 1 (([22] : List Int))).bind fun t483=>(r19_Of.l0 k a0 a1 t483 0)))))) else (some (([] : List (S48)),2)))) else (some (([] : List (S48)),1)))) = some (r1,r2):=h
 clear h
 replace H := zz14.mp H
 obtain ⟨t454, A30, H⟩ := H
 replace H : (if t454 = true then ((r07_Right.f a0).bind fun t455=>(if t455 = true then ((r19_days.f k ([] : List (S48)) 1 a0 1 (([1,2] : List Int))).bind fun t459=>((r19_days.f k t459 3 a0 1 (([10] : List Int))).bind fun t465=>((r19_days.f k t465 5 a0 1 (([17,18,19,20] : List Int))).bind fun t471=>((r19_days.f k t471 6 a0 1 (([21] : List Int))).bind fun t477=>((r19_days.f k t477 7 a0 1 (([22] : List Int))).bind fun t483=>(r19_Of.l0 k a0 a1 t483 0)))))) else (some (([] : List (S48)),2)))) else (some (([] : List (S48)),1))) = some (r1,r2):=H
 have A3 := zz00 A30
 clear A30
 by_cases c4 : t454 = true
 ·
  subst c4
  have H1 : ((r07_Right.f a0).bind fun t455=>(if t455 = true then ((r19_days.f k ([] : List (S48)) 1 a0 1 (([1,2] : List Int))).bind fun t459=>((r19_days.f k t459 3 a0 1 (([10] : List Int))).bind fun t465=>((r19_days.f k t465 5 a0 1 (([17,18,19,20] : List Int))).bind fun t471=>((r19_days.f k t471 6 a0 1 (([21] : List Int))).bind fun t477=>((r19_days.f k t477 7 a0 1 (([22] : List Int))).bind fun t483=>(r19_Of.l0 k a0 a1 t483 0)))))) else (some (([] : List (S48)),2)))) = some (r1,r2):=by rw [if_pos rfl] at H;exact H
  clear H
  have H := H1
  clear H1
  replace H := zz14.mp H
  obtain ⟨t455, A50, H⟩ := H
  replace H : (if t455 = true then ((r19_days.f k ([] : List (S48)) 1 a0 1 (([1,2] : List Int))).bind fun t459=>((r19_days.f k t459 3 a0 1 (([10] : List Int))).bind fun t465=>((r19_days.f k t465 5 a0 1 (([17,18,19,20] : List Int))).bind fun t471=>((r19_days.f k t471 6 a0 1 (([21] : List Int))).bind fun t477=>((r19_days.f k t477 7 a0 1 (([22] : List Int))).bind fun t483=>(r19_Of.l0 k a0 a1 t483 0)))))) else (some (([] : List (S48)),2))) = some (r1,r2):=H
  have A5 := zz00 A50
  clear A50
  by_cases c6 : t455 = true
  ·
   subst c6
   have H1 : ((r19_days.f k ([] : List (S48)) 1 a0 1 (([1,2] : List Int))).bind fun t459=>((r19_days.f k t459 3 a0 1 (([10] : List Int))).bind fun t465=>((r19_days.f k t465 5 a0 1 (([17,18,19,20] : List Int))).bind fun t471=>((r19_days.f k t471 6 a0 1 (([21] : List Int))).bind fun t477=>((r19_days.f k t477 7 a0 1 (([22] : List Int))).bind fun t483=>(r19_Of.l0 k a0 a1 t483 0)))))) = some (r1,r2):=by rw [if_pos rfl] at H;exact H
   clear H
   have H := H1
   clear H1
   obtain ⟨y456, hy456⟩ : ∃ y_ : List Int, y_ = (([1, 2] : List Int)) := ⟨_, rfl⟩
   replace H : ((r19_days.f k ([] : List (S48)) 1 a0 1 y456).bind fun t459=>((r19_days.f k t459 3 a0 1 (([10] : List Int))).bind fun t465=>((r19_days.f k t465 5 a0 1 (([17,18,19,20] : List Int))).bind fun t471=>((r19_days.f k t471 6 a0 1 (([21] : List Int))).bind fun t477=>((r19_days.f k t477 7 a0 1 (([22] : List Int))).bind fun t483=>(r19_Of.l0 k a0 a1 t483 0)))))) = some (r1,r2):=by first|(rw [hy456];with_reducible exact H)|(have H2_:=(Option.bind_some _ _).symm.trans H;rw [hy456];with_reducible exact H2_)|(have H2_:=(Option.bind_some _ _).symm.trans H;with_reducible exact H2_)|with_reducible exact H|(rw [hy456];exact H)|exact H
   have Ny456 := zz00 hy456
   clear hy456
   replace H := zz14.mp H
   obtain ⟨t459, A70, H⟩ := H
   replace H : ((r19_days.f k t459 3 a0 1 (([10] : List Int))).bind fun t465=>((r19_days.f k t465 5 a0 1 (([17,18,19,20] : List Int))).bind fun t471=>((r19_days.f k t471 6 a0 1 (([21] : List Int))).bind fun t477=>((r19_days.f k t477 7 a0 1 (([22] : List Int))).bind fun t483=>(r19_Of.l0 k a0 a1 t483 0))))) = some (r1,r2):=H
   have A7 := zz00 A70
   clear A70
   obtain ⟨y462, hy462⟩ : ∃ y_ : List Int, y_ = (([10] : List Int)) := ⟨_, rfl⟩
   replace H : ((r19_days.f k t459 3 a0 1 y462).bind fun t465=>((r19_days.f k t465 5 a0 1 (([17,18,19,20] : List Int))).bind fun t471=>((r19_days.f k t471 6 a0 1 (([21] : List Int))).bind fun t477=>((r19_days.f k t477 7 a0 1 (([22] : List Int))).bind fun t483=>(r19_Of.l0 k a0 a1 t483 0))))) = some (r1,r2):=by first|(rw [hy462];with_reducible exact H)|(have H2_:=(Option.bind_some _ _).symm.trans H;rw [hy462];with_reducible exact H2_)|(have H2_:=(Option.bind_some _ _).symm.trans H;with_reducible exact H2_)|with_reducible exact H|(rw [hy462];exact H)|exact H
   have Ny462 := zz00 hy462
   clear hy462
   replace H := zz14.mp H
   obtain ⟨t465, A80, H⟩ := H
   replace H : ((r19_days.f k t465 5 a0 1 (([17,18,19,20] : List Int))).bind fun t471=>((r19_days.f k t471 6 a0 1 (([21] : List Int))).bind fun t477=>((r19_days.f k t477 7 a0 1 (([22] : List Int))).bind fun t483=>(r19_Of.l0 k a0 a1 t483 0)))) = some (r1,r2):=H
   have A8 := zz00 A80
   clear A80
   obtain ⟨y468, hy468⟩ : ∃ y_ : List Int, y_ = (([17, 18, 19, 20] : List Int)) := ⟨_, rfl⟩
   replace H : ((r19_days.f k t465 5 a0 1 y468).bind fun t471=>((r19_days.f k t471 6 a0 1 (([21] : List Int))).bind fun t477=>((r19_days.f k t477 7 a0 1 (([22] : List Int))).bind fun t483=>(r19_Of.l0 k a0 a1 t483 0)))) = some (r1,r2):=by first|(rw [hy468];with_reducible exact H)|(have H2_:=(Option.bind_some _ _).symm.trans H;rw [hy468];with_reducible exact H2_)|(have H2_:=(Option.bind_some _ _).symm.trans H;with_reducible exact H2_)|with_reducible exact H|(rw [hy468];exact H)|exact H
   have Ny468 := zz00 hy468
   clear hy468
   replace H := zz14.mp H
   obtain ⟨t471, A90, H⟩ := H
   replace H : ((r19_days.f k t471 6 a0 1 (([21] : List Int))).bind fun t477=>((r19_days.f k t477 7 a0 1 (([22] : List Int))).bind fun t483=>(r19_Of.l0 k a0 a1 t483 0))) = some (r1,r2):=H
   have A9 := zz00 A90
   clear A90
   obtain ⟨y474, hy474⟩ : ∃ y_ : List Int, y_ = (([21] : List Int)) := ⟨_, rfl⟩
   replace H : ((r19_days.f k t471 6 a0 1 y474).bind fun t477=>((r19_days.f k t477 7 a0 1 (([22] : List Int))).bind fun t483=>(r19_Of.l0 k a0 a1 t483 0))) = some (r1,r2):=by first|(rw [hy474];with_reducible exact H)|(have H2_:=(Option.bind_some _ _).symm.trans H;rw [hy474];with_reducible exact H2_)|(have H2_:=(Option.bind_some _ _).symm.trans H;with_reducible exact H2_)|with_reducible exact H|(rw [hy474];exact H)|exact H
   have Ny474 := zz00 hy474
   clear hy474
   replace H := zz14.mp H
   obtain ⟨t477, A100, H⟩ := H
   replace H : ((r19_days.f k t477 7 a0 1 (([22] : List Int))).bind fun t483 => (r19_Of.l0 k a0 a1 t483 0)) = some (r1, r2) := H
   have A10 := zz00 A100
   clear A100
   obtain ⟨y480, hy480⟩ : ∃ y_ : List Int, y_ = (([22] : List Int)) := ⟨_, rfl⟩
   replace H : ((r19_days.f k t477 7 a0 1 y480).bind fun t483=>(r19_Of.l0 k a0 a1 t483 0)) = some (r1,r2):=by first|(rw [hy480];with_reducible exact H)|(have H2_:=(Option.bind_some _ _).symm.trans H;rw [hy480];with_reducible exact H2_)|(have H2_:=(Option.bind_some _ _).symm.trans H;with_reducible exact H2_)|with_reducible exact H|(rw [hy480];exact H)|exact H
   have Ny480 := zz00 hy480
   clear hy480
   replace H := zz14.mp H
   obtain ⟨t483, A110, H⟩ := H
   replace H : (r19_Of.l0 k a0 a1 t483 0) = some (r1, r2) := H
   have A11 := zz00 A110
   clear A110
   have H' := zz00 H
   clear H
   go_enter Tryd.func36, Tryd.ntmps36
   go_wp2_with (first|((with_reducible refine zz23 (f:=61) rfl ?_);refine zz25 (some 9) rfl rfl Tryd.func61 (by kernel_rfl) rfl #[.int .i64 a1] rfl (by (try simp only [List.map_toArray,List.map_cons,List.map_nil]);first|done|rfl|(simp only [List.length_drop,List.length_take];rfl)) ?_;(with_reducible refine (r19_Place.calls a1 true _ A3.out).mono ?_);rintro e w' ⟨rfl,⟨nd,rfl⟩⟩;refine ⟨_,rfl,?_⟩)|((with_reducible refine zz23 (f:=54) rfl ?_);refine zz25 (some 12) rfl rfl Tryd.func54 (by kernel_rfl) rfl #[.int .i64 a0] rfl (by (try simp only [List.map_toArray,List.map_cons,List.map_nil]);first|done|rfl|(simp only [List.length_drop,List.length_take];rfl)) ?_;(with_reducible refine (r07_Right.calls a0 true _ A5.out).mono ?_);rintro e w' ⟨rfl,⟨nd,rfl⟩⟩;refine ⟨_,rfl,?_⟩)|((with_reducible refine zz24 (N:=16) rfl ?_);refine Kd.R_lit (Kd.int .i64) _ 3 ?hg (N:=16) ?hd (xs:=([1,2] : List Int)) (inner:=[.int .i64 1,.int .i64 2]) (ok:=fun _=>True) (okp:=fun _=>True) ?hr ?hp (fun _ hk=>hk) trivial (Below.refl _ _) (Nat.le_refl _) (by simp) ?_;(case hd=>rfl);(case hg=>rfl);(case hr=>first|(go_simp;done)|(go_simp;rfl));(case hp=>exact (Reps.one (show Kd.M (Kd.int .i64) _ _ _ 1 [.int .i64 1] from rfl) (Reps.one (show Kd.M (Kd.int .i64) _ _ _ 2 [.int .i64 2] from rfl) (Reps.none _ _))));intro v457 w12 ho13 hb hg_ hnew_;clear hg_ hnew_;(first|rw [← Ny456.out] at ho13|(simp only [Int.reduceToNat] at ho13;rw [← Ny456.out] at ho13));have n0_:=zz00 (Kd.R_lower ho13 (zz22 (by repeat (first|(with_reducible first|exact HB.out|apply zz03|apply zz01|apply zz02)|exact HB.out))));have n1_:=zz00 (zz21 (by repeat (first|(with_reducible first|exact HB.out|apply zz03|apply zz01|apply zz02)|exact HB.out)) hb);clear HB;have HO458:=n0_;have HB:=n1_;clear n0_ n1_;clear hb ho13;obtain ⟨Ao14,co14,eo14⟩:=Kd.R_slice HO458.out;subst eo14)|((with_reducible refine zz23 (f:=62) rfl ?_);refine zz25 (some 17) rfl rfl Tryd.func62 (by kernel_rfl) rfl #[.slice none 0 0,.int .i64 1,.int .i64 a0,.int .i64 1,.slice Ao14 y456.length co14] rfl (by (try simp only [List.map_toArray,List.map_cons,List.map_nil]);first|done|rfl|(simp only [List.length_drop,List.length_take];rfl)) ?_;(refine (r19_days.calls k (fun k_=>some k_ = (.slice none 0 0 : Value).ownBlock) (.slice none 0 0) ([] : List (S48)) 1 a0 1 _ _ y456 t459 w _ ?side1 ?side2 ?side3 ?side4 A7.out).mono ?_);(case side1=>repeat (first|(with_reducible first|exact HB.out|apply zz03|apply zz01|apply zz02)|exact HB.out));(case side2=>exact Kd.R_nil _ _ _ _ _);(case side3=>exact Kd.C_kept_own (HO458.out) (fun k_ hk_ hs_=>(fun e_=>by simp [Value.ownBlock] at e_) hs_));(case side4=>exact (Kd.R_reads' HO458.out).2.1);rintro e w15 ⟨v460,rfl,ho0,hb,hkp⟩;refine ⟨_,rfl,?_⟩;have n0_:=zz00 (Kd.R_mono (ok':=fun k_=>True) (Kd.R_keptB (HO458.out) hkp (fun k_ hk_ hs_=>(fun e_=>by simp [Value.ownBlock] at e_) hs_)) (fun k_ hk_=>trivial));have n1_:=zz00 (Kd.R_mono (ok':=fun k_=>True) ho0 (fun k_ hk_=>trivial));have n2_:=zz00 (hb);(try clear HO458);clear HB;have HO458:=n0_;have HO461:=n1_;have HB:=n2_;clear n0_ n1_ n2_;(try clear hb);(try clear hkp);(try clear ho0))|((with_reducible refine zz24 (N:=20) rfl ?_);refine Kd.R_lit (Kd.int .i64) _ 3 ?hg (N:=20) ?hd (xs:=([10] : List Int)) (inner:=[.int .i64 10]) (ok:=fun _=>True) (okp:=fun _=>True) ?hr ?hp (fun _ hk=>hk) trivial (Below.refl _ _) (Nat.le_refl _) (by simp) ?_;(case hd=>rfl);(case hg=>rfl);(case hr=>first|(go_simp;done)|(go_simp;rfl));(case hp=>exact (Reps.one (show Kd.M (Kd.int .i64) _ _ _ 10 [.int .i64 10] from rfl) (Reps.none _ _)));intro v463 w16 ho17 hb hg_ hnew_;clear hg_ hnew_;(first|rw [← Ny462.out] at ho17|(simp only [Int.reduceToNat] at ho17;rw [← Ny462.out] at ho17));have n1_:=zz00 (zz19 (by (with_reducible repeat (first|apply zz05|apply zz04|apply zz06));exact HO461.out) hb);have n2_:=zz00 (Kd.R_lower ho17 (zz22 (by repeat (first|(with_reducible first|exact HB.out|apply zz03|apply zz01|apply zz02)|exact HB.out))));have n3_:=zz00 (zz21 (by repeat (first|(with_reducible first|exact HB.out|apply zz03|apply zz01|apply zz02)|exact HB.out)) hb);(try clear HO458);clear HO461;clear HB;have HO461:=n1_;have HO464:=n2_;have HB:=n3_;clear n1_ n2_ n3_;clear hb ho17;obtain ⟨Ao18,co18,eo18⟩:=Kd.R_slice HO461.out;subst eo18;obtain ⟨Ao19,co19,eo19⟩:=Kd.R_slice HO464.out;subst eo19)|((with_reducible refine zz23 (f:=62) rfl ?_);refine zz25 (some 21) rfl rfl Tryd.func62 (by kernel_rfl) rfl #[.slice Ao18 t459.length co18,.int .i64 3,.int .i64 a0,.int .i64 1,.slice Ao19 y462.length co19] rfl (by (try simp only [List.map_toArray,List.map_cons,List.map_nil]);first|done|rfl|(simp only [List.length_drop,List.length_take];rfl)) ?_;(with_reducible refine (r19_days.calls k (fun k_=>some k_ = (.slice Ao18 t459.length co18 : Value).ownBlock) (.slice Ao18 t459.length co18) t459 3 a0 1 _ _ y462 t465 w _ ?side1 ?side2 ?side3 ?side4 A8.out).mono ?_);(case side1=>repeat (first|(with_reducible first|exact HB.out|apply zz03|apply zz01|apply zz02)|exact HB.out));(case side2=>exact Kd.R_tight rfl HO461.out);(case side3=>exact Kd.C_kept_own ((Kd.R_apart' HO464.out (Kd.R_typed HO461.out) (by decide))) (fun k_ hk_ hs_=>(hk_.2) hs_));(case side4=>exact (Kd.R_reads' HO464.out).2.1);rintro e w20 ⟨v466,rfl,ho0,hb,hkp⟩;refine ⟨_,rfl,?_⟩;have n2_:=zz00 (Kd.R_mono (ok':=fun k_=>True) ho0 (fun k_ hk_=>trivial));have n3_:=zz00 (hb);(try clear HO458);(try clear HO464);clear HB;clear HO461;have HO467:=n2_;have HB:=n3_;clear n2_ n3_;(try clear hb);(try clear hkp);(try clear ho0))|((with_reducible refine zz24 (N:=24) rfl ?_);refine Kd.R_lit (Kd.int .i64) _ 3 ?hg (N:=24) ?hd (xs:=([17,18,19,20] : List Int)) (inner:=[.int .i64 17,.int .i64 18,.int .i64 19,.int .i64 20]) (ok:=fun _=>True) (okp:=fun _=>True) ?hr ?hp (fun _ hk=>hk) trivial (Below.refl _ _) (Nat.le_refl _) (by simp) ?_;(case hd=>rfl);(case hg=>rfl);(case hr=>first|(go_simp;done)|(go_simp;rfl));(case hp=>exact (Reps.one (show Kd.M (Kd.int .i64) _ _ _ 17 [.int .i64 17] from rfl) (Reps.one (show Kd.M (Kd.int .i64) _ _ _ 18 [.int .i64 18] from rfl) (Reps.one (show Kd.M (Kd.int .i64) _ _ _ 19 [.int .i64 19] from rfl) (Reps.one (show Kd.M (Kd.int .i64) _ _ _ 20 [.int .i64 20] from rfl) (Reps.none _ _))))));intro v469 w21 ho22 hb hg_ hnew_;clear hg_ hnew_;(first|rw [← Ny468.out] at ho22|(simp only [Int.reduceToNat] at ho22;rw [← Ny468.out] at ho22));have n2_:=zz00 (zz19 (by (with_reducible repeat (first|apply zz05|apply zz04|apply zz06));exact HO467.out) hb);have n3_:=zz00 (Kd.R_lower ho22 (zz22 (by repeat (first|(with_reducible first|exact HB.out|apply zz03|apply zz01|apply zz02)|exact HB.out))));have n4_:=zz00 (zz21 (by repeat (first|(with_reducible first|exact HB.out|apply zz03|apply zz01|apply zz02)|exact HB.out)) hb);(try clear HO458);(try clear HO464);clear HO467;clear HB;have HO467:=n2_;have HO470:=n3_;have HB:=n4_;clear n2_ n3_ n4_;clear hb ho22;obtain ⟨Ao23,co23,eo23⟩:=Kd.R_slice HO467.out;subst eo23;obtain ⟨Ao24,co24,eo24⟩:=Kd.R_slice HO470.out;subst eo24)|((with_reducible refine zz23 (f:=62) rfl ?_);refine zz25 (some 25) rfl rfl Tryd.func62 (by kernel_rfl) rfl #[.slice Ao23 t465.length co23,.int .i64 5,.int .i64 a0,.int .i64 1,.slice Ao24 y468.length co24] rfl (by (try simp only [List.map_toArray,List.map_cons,List.map_nil]);first|done|rfl|(simp only [List.length_drop,List.length_take];rfl)) ?_;(with_reducible refine (r19_days.calls k (fun k_=>some k_ = (.slice Ao23 t465.length co23 : Value).ownBlock) (.slice Ao23 t465.length co23) t465 5 a0 1 _ _ y468 t471 w _ ?side1 ?side2 ?side3 ?side4 A9.out).mono ?_);(case side1=>repeat (first|(with_reducible first|exact HB.out|apply zz03|apply zz01|apply zz02)|exact HB.out));(case side2=>exact Kd.R_tight rfl HO467.out);(case side3=>exact Kd.C_kept_own ((Kd.R_apart' HO470.out (Kd.R_typed HO467.out) (by decide))) (fun k_ hk_ hs_=>(hk_.2) hs_));(case side4=>exact (Kd.R_reads' HO470.out).2.1);rintro e w25 ⟨v472,rfl,ho0,hb,hkp⟩;refine ⟨_,rfl,?_⟩;have n3_:=zz00 (Kd.R_mono (ok':=fun k_=>True) ho0 (fun k_ hk_=>trivial));have n4_:=zz00 (hb);(try clear HO458);(try clear HO464);(try clear HO470);clear HB;clear HO467;have HO473:=n3_;have HB:=n4_;clear n3_ n4_;(try clear hb);(try clear hkp);(try clear ho0))|((with_reducible refine zz24 (N:=28) rfl ?_);refine Kd.R_lit (Kd.int .i64) _ 3 ?hg (N:=28) ?hd (xs:=([21] : List Int)) (inner:=[.int .i64 21]) (ok:=fun _=>True) (okp:=fun _=>True) ?hr ?hp (fun _ hk=>hk) trivial (Below.refl _ _) (Nat.le_refl _) (by simp) ?_;(case hd=>rfl);(case hg=>rfl);(case hr=>first|(go_simp;done)|(go_simp;rfl));(case hp=>exact (Reps.one (show Kd.M (Kd.int .i64) _ _ _ 21 [.int .i64 21] from rfl) (Reps.none _ _)));intro v475 w26 ho27 hb hg_ hnew_;clear hg_ hnew_;(first|rw [← Ny474.out] at ho27|(simp only [Int.reduceToNat] at ho27;rw [← Ny474.out] at ho27));have n3_:=zz00 (zz19 (by (with_reducible repeat (first|apply zz05|apply zz04|apply zz06));exact HO473.out) hb);have n4_:=zz00 (Kd.R_lower ho27 (zz22 (by repeat (first|(with_reducible first|exact HB.out|apply zz03|apply zz01|apply zz02)|exact HB.out))));have n5_:=zz00 (zz21 (by repeat (first|(with_reducible first|exact HB.out|apply zz03|apply zz01|apply zz02)|exact HB.out)) hb);(try clear HO458);(try clear HO464);(try clear HO470);clear HO473;clear HB;have HO473:=n3_;have HO476:=n4_;have HB:=n5_;clear n3_ n4_ n5_;clear hb ho27;obtain ⟨Ao28,co28,eo28⟩:=Kd.R_slice HO473.out;subst eo28;obtain ⟨Ao29,co29,eo29⟩:=Kd.R_slice HO476.out;subst eo29)|((with_reducible refine zz23 (f:=62) rfl ?_);refine zz25 (some 29) rfl rfl Tryd.func62 (by kernel_rfl) rfl #[.slice Ao28 t471.length co28,.int .i64 6,.int .i64 a0,.int .i64 1,.slice Ao29 y474.length co29] rfl (by (try simp only [List.map_toArray,List.map_cons,List.map_nil]);first|done|rfl|(simp only [List.length_drop,List.length_take];rfl)) ?_;(with_reducible refine (r19_days.calls k (fun k_=>some k_ = (.slice Ao28 t471.length co28 : Value).ownBlock) (.slice Ao28 t471.length co28) t471 6 a0 1 _ _ y474 t477 w _ ?side1 ?side2 ?side3 ?side4 A10.out).mono ?_);(case side1=>repeat (first|(with_reducible first|exact HB.out|apply zz03|apply zz01|apply zz02)|exact HB.out));(case side2=>exact Kd.R_tight rfl HO473.out);(case side3=>exact Kd.C_kept_own ((Kd.R_apart' HO476.out (Kd.R_typed HO473.out) (by decide))) (fun k_ hk_ hs_=>(hk_.2) hs_));(case side4=>exact (Kd.R_reads' HO476.out).2.1);rintro e w30 ⟨v478,rfl,ho0,hb,hkp⟩;refine ⟨_,rfl,?_⟩;have n4_:=zz00 (Kd.R_mono (ok':=fun k_=>True) ho0 (fun k_ hk_=>trivial));have n5_:=zz00 (hb);(try clear HO458);(try clear HO464);(try clear HO470);(try clear HO476);clear HB;clear HO473;have HO479:=n4_;have HB:=n5_;clear n4_ n5_;(try clear hb);(try clear hkp);(try clear ho0))|((with_reducible refine zz24 (N:=32) rfl ?_);refine Kd.R_lit (Kd.int .i64) _ 3 ?hg (N:=32) ?hd (xs:=([22] : List Int)) (inner:=[.int .i64 22]) (ok:=fun _=>True) (okp:=fun _=>True) ?hr ?hp (fun _ hk=>hk) trivial (Below.refl _ _) (Nat.le_refl _) (by simp) ?_;(case hd=>rfl);(case hg=>rfl);(case hr=>first|(go_simp;done)|(go_simp;rfl));(case hp=>exact (Reps.one (show Kd.M (Kd.int .i64) _ _ _ 22 [.int .i64 22] from rfl) (Reps.none _ _)));intro v481 w31 ho32 hb hg_ hnew_;clear hg_ hnew_;(first|rw [← Ny480.out] at ho32|(simp only [Int.reduceToNat] at ho32;rw [← Ny480.out] at ho32));have n4_:=zz00 (zz19 (by (with_reducible repeat (first|apply zz05|apply zz04|apply zz06));exact HO479.out) hb);have n5_:=zz00 (Kd.R_lower ho32 (zz22 (by repeat (first|(with_reducible first|exact HB.out|apply zz03|apply zz01|apply zz02)|exact HB.out))));have n6_:=zz00 (zz21 (by repeat (first|(with_reducible first|exact HB.out|apply zz03|apply zz01|apply zz02)|exact HB.out)) hb);(try clear HO458);(try clear HO464);(try clear HO470);(try clear HO476);clear HO479;clear HB;have HO479:=n4_;have HO482:=n5_;have HB:=n6_;clear n4_ n5_ n6_;clear hb ho32;obtain ⟨Ao33,co33,eo33⟩:=Kd.R_slice HO479.out;subst eo33;obtain ⟨Ao34,co34,eo34⟩:=Kd.R_slice HO482.out;subst eo34)|((with_reducible refine zz23 (f:=62) rfl ?_);refine zz25 (some 33) rfl rfl Tryd.func62 (by kernel_rfl) rfl #[.slice Ao33 t477.length co33,.int .i64 7,.int .i64 a0,.int .i64 1,.slice Ao34 y480.length co34] rfl (by (try simp only [List.map_toArray,List.map_cons,List.map_nil]);first|done|rfl|(simp only [List.length_drop,List.length_take];rfl)) ?_;(with_reducible refine (r19_days.calls k (fun k_=>some k_ = (.slice Ao33 t477.length co33 : Value).ownBlock) (.slice Ao33 t477.length co33) t477 7 a0 1 _ _ y480 t483 w _ ?side1 ?side2 ?side3 ?side4 A11.out).mono ?_);(case side1=>repeat (first|(with_reducible first|exact HB.out|apply zz03|apply zz01|apply zz02)|exact HB.out));(case side2=>exact Kd.R_tight rfl HO479.out);(case side3=>exact Kd.C_kept_own ((Kd.R_apart' HO482.out (Kd.R_typed HO479.out) (by decide))) (fun k_ hk_ hs_=>(hk_.2) hs_));(case side4=>exact (Kd.R_reads' HO482.out).2.1);rintro e w35 ⟨v484,rfl,ho0,hb,hkp⟩;refine ⟨_,rfl,?_⟩;have n5_:=zz00 (Kd.R_mono (ok':=fun k_=>True) ho0 (fun k_ hk_=>trivial));have n6_:=zz00 (hb);(try clear HO458);(try clear HO464);(try clear HO470);(try clear HO476);(try clear HO482);clear HB;clear HO479;have HO485:=n5_;have HB:=n6_;clear n5_ n6_;(try clear hb);(try clear hkp);(try clear ho0)))
   go_loopg [6,7] k (fun kq v6 v7 w'=>∃ (x6_1 : List (S48)) (x7_1 : Int),v7 = .int .i64 x7_1 ∧ Aside0 (r19_Of.l0 kq a0 a1 x6_1 x7_1 = some (r1,r2)) ∧ Aside0 (kq ≤ k) ∧ Aside0 (Kd.R k48 48 w' w.heap.size (fun _=>True) v6 x6_1) ∧ Aside0 (Below w.heap.size w w'))
   case atStart=>exact ⟨(t483),(0),(by first|rfl|(simp;done)|(simp [*];done)),H',⟨Nat.le_refl _⟩,⟨by (with_reducible repeat (first|apply zz05|apply zz04|apply zz06));exact HO485.out⟩,⟨by repeat (first|(with_reducible first|exact HB.out|apply zz03|apply zz01|apply zz02)|exact HB.out)⟩⟩
   case round =>
    clear H'
    try clear p2
    try clear c3
    try clear c4
    try clear c5
    try clear c6
    obtain ⟨x6_1, x7_1, rfl, HA, HK1, HO_6, HB⟩ := hrel
    cases gk with
    | zero => exact absurd HA.out (by simp [r19_Of.l0])
    | succ k1 =>
     have H := HA.out
     clear HA
     simp only [r19_Of.l0] at H
     by_cases c36 : x7_1 < 8
     ·
      rw [if_pos c36] at H
      have c36b0 : decide (x7_1 < 8) = true := decide_eq_true c36
      clear c36
      replace H := zz14.mp H
      obtain ⟨t486, A370, H⟩ := H
      replace H : (if x6_1.length < 8796093022208 then (r19_Of.l0 k1 a0 a1 (x6_1 ++ [(⟨9, wrap64 (t486 + x7_1)⟩ : S48)]) (wrap64 (x7_1 + 1))) else (none)) = some (r1, r2) := H
      have A37 := zz00 A370
      clear A370
      by_cases c38 : x6_1.length < 8796093022208
      ·
       rw [if_pos c38] at H
       have LMc38 := zz00 c38
       clear c38
       obtain ⟨y487, hy487⟩ : ∃ y_ : List (S48), y_ = (x6_1 ++ [(⟨9, wrap64 (t486 + x7_1)⟩ : S48)]) := ⟨_, rfl⟩
       replace H : (r19_Of.l0 k1 a0 a1 y487 (wrap64 (x7_1 + 1))) = some (r1,r2):=by first|(rw [hy487];with_reducible exact H)|(have H2_:=(Option.bind_some _ _).symm.trans H;rw [hy487];with_reducible exact H2_)|(have H2_:=(Option.bind_some _ _).symm.trans H;with_reducible exact H2_)|with_reducible exact H|(rw [hy487];exact H)|exact H
       have Ny487 := zz00 hy487
       clear hy487
       have H' := zz00 H
       clear H
       go_wp2_with (first|((with_reducible refine zz23 (f:=63) rfl ?_);refine zz25 (some 40) rfl rfl Tryd.func63 (by kernel_rfl) rfl #[.int .i64 a0,.int .i64 3,.int .i64 25] rfl (by (try simp only [List.map_toArray,List.map_cons,List.map_nil]);first|done|rfl|(simp only [List.length_drop,List.length_take];rfl)) ?_;(with_reducible refine (r19_Day.calls k1 a0 3 25 t486 _ A37.out).mono ?_);rintro e w39 ⟨rfl,hb⟩;refine ⟨_,rfl,?_⟩;have n0_:=zz00 (zz19 (by (with_reducible repeat (first|apply zz05|apply zz04|apply zz06));exact HO_6.out) hb);have n1_:=zz00 (zz21 (by repeat (first|(with_reducible first|exact HB.out|apply zz03|apply zz01|apply zz02)|exact HB.out)) hb);clear HO_6;clear HB;have HO_6:=n0_;have HB:=n1_;clear n0_ n1_;(try clear hb);(try clear hb2);(try clear hk);(try clear hi))|((with_reducible refine gate_builtin (b:=.append) (xs:=#[.tmp 38,.tmp 44]) rfl ?_);at_builtin;refine Kd.R_append k48 (w0:=w) w.heap.size rfl (.tmp 38) (.tmp 44) 38 48 (.agg #[(.int .i64 0),(.int .i64 0)]) 16 rfl Tryd.underlying38 info48 rfl (by decide) (by omega) u6 x6_1 (⟨9,wrap64 (t486 + x7_1)⟩ : S48) [.int .i64 9,.int .i64 (wrap64 (t486 + x7_1))] (fun _=>True) (fun _=>False) rfl rfl ?aP (fun _ hk=>hk.elim) ?aF ?aO ?aB ?aS ?aL ?_;(case aP=>exact k48_mkM _ _ _ (⟨9,wrap64 (t486 + x7_1)⟩ : S48));(case aB=>exact (by repeat (first|(with_reducible first|exact HB.out|apply zz03|apply zz01|apply zz02)|exact HB.out)));(case aF=>exact (fun _ _=>trivial));(case aO=>exact (by (with_reducible repeat (first|apply zz05|apply zz04|apply zz06));exact HO_6.out));(case aS=>exact (zz22 (by repeat (first|(with_reducible first|exact HB.out|apply zz03|apply zz01|apply zz02)|exact HB.out))));(case aL=>have:=LMc38.out;omega);intro v488 w40 ho hb hg hat;rw [← Ny487.out] at ho;have n0_:=zz00 (hb);have n1_:=zz00 (ho);clear HB;clear HO_6;have HB:=n0_;have HO489:=n1_;clear n0_ n1_;clear ho hb hg hat))
       go_roundg k1
       case measure => have := HK1.out; omega
       case rel=>exact ⟨(y487),(wrap64 (x7_1 + 1)),(by first|rfl|(simp;done)|(simp [*];done)),H',⟨by have:=HK1.out;omega⟩,⟨by (with_reducible repeat (first|apply zz05|apply zz04|apply zz06));exact HO489.out⟩,⟨by repeat (first|(with_reducible first|exact HB.out|apply zz03|apply zz01|apply zz02)|exact HB.out)⟩⟩
      ·
       rw [if_neg c38] at H
       exact absurd H (by simp)
     ·
      rw [if_neg c36] at H
      have c36b0 : decide (x7_1 < 8) = false := decide_eq_false c36
      clear c36
      obtain ⟨y490, hy490⟩ : ∃ y_ : List Int, y_ = (([15] : List Int)) := ⟨_, rfl⟩
      replace H : ((r19_days.f k1 x6_1 11 a0 5 y490).bind fun t493=>((r03_Is.f a0).bind fun t496=>(if t496 = true then ((r19_Day.f k1 a0 5 30).bind fun t497=>(if t493.length < 8796093022208 then (r19_Of.j1 k1 a0 a1 (t493 ++ [(⟨12,wrap64 (t497 + 14)⟩ : S48)])) else (none))) else (r19_Of.j1 k1 a0 a1 t493)))) = some (r1,r2):=by first|(rw [hy490];with_reducible exact H)|(have H2_:=(Option.bind_some _ _).symm.trans H;rw [hy490];with_reducible exact H2_)|(have H2_:=(Option.bind_some _ _).symm.trans H;with_reducible exact H2_)|with_reducible exact H|(rw [hy490];exact H)|exact H
      have Ny490 := zz00 hy490
      clear hy490
      replace H := zz14.mp H
      obtain ⟨t493, A410, H⟩ := H
      replace H : ((r03_Is.f a0).bind fun t496=>(if t496 = true then ((r19_Day.f k1 a0 5 30).bind fun t497=>(if t493.length < 8796093022208 then (r19_Of.j1 k1 a0 a1 (t493 ++ [(⟨12,wrap64 (t497 + 14)⟩ : S48)])) else (none))) else (r19_Of.j1 k1 a0 a1 t493))) = some (r1,r2):=H
      have A41 := zz00 A410
      clear A410
      replace H := zz14.mp H
      obtain ⟨t496, A420, H⟩ := H
      replace H : (if t496 = true then ((r19_Day.f k1 a0 5 30).bind fun t497=>(if t493.length < 8796093022208 then (r19_Of.j1 k1 a0 a1 (t493 ++ [(⟨12,wrap64 (t497 + 14)⟩ : S48)])) else (none))) else (r19_Of.j1 k1 a0 a1 t493)) = some (r1,r2):=H
      have A42 := zz00 A420
      clear A420
      have HC43 := zz00 H
      clear H
      go_upto_if 51 with (first|((with_reducible refine zz24 (N:=48) rfl ?_);refine Kd.R_lit (Kd.int .i64) _ 3 ?hg (N:=48) ?hd (xs:=([15] : List Int)) (inner:=[.int .i64 15]) (ok:=fun _=>True) (okp:=fun _=>True) ?hr ?hp (fun _ hk=>hk) trivial (Below.refl _ _) (Nat.le_refl _) (by simp) ?_;(case hd=>rfl);(case hg=>rfl);(case hr=>first|(go_simp;done)|(go_simp;rfl));(case hp=>exact (Reps.one (show Kd.M (Kd.int .i64) _ _ _ 15 [.int .i64 15] from rfl) (Reps.none _ _)));intro v491 w44 ho45 hb hg_ hnew_;clear hg_ hnew_;(first|rw [← Ny490.out] at ho45|(simp only [Int.reduceToNat] at ho45;rw [← Ny490.out] at ho45));have n0_:=zz00 (zz19 (by (with_reducible repeat (first|apply zz05|apply zz04|apply zz06));exact HO_6.out) hb);have n1_:=zz00 (Kd.R_lower ho45 (zz22 (by repeat (first|(with_reducible first|exact HB.out|apply zz03|apply zz01|apply zz02)|exact HB.out))));have n2_:=zz00 (zz21 (by repeat (first|(with_reducible first|exact HB.out|apply zz03|apply zz01|apply zz02)|exact HB.out)) hb);clear HO_6;clear HB;have HO_6:=n0_;have HO492:=n1_;have HB:=n2_;clear n0_ n1_ n2_;clear hb ho45;obtain ⟨Ao46,co46,eo46⟩:=Kd.R_slice HO_6.out;subst eo46;obtain ⟨Ao47,co47,eo47⟩:=Kd.R_slice HO492.out;subst eo47)|((with_reducible refine zz23 (f:=62) rfl ?_);refine zz25 (some 49) rfl rfl Tryd.func62 (by kernel_rfl) rfl #[.slice Ao46 x6_1.length co46,.int .i64 11,.int .i64 a0,.int .i64 5,.slice Ao47 y490.length co47] rfl (by (try simp only [List.map_toArray,List.map_cons,List.map_nil]);first|done|rfl|(simp only [List.length_drop,List.length_take];rfl)) ?_;(with_reducible refine (r19_days.calls k1 (fun k_=>some k_ = (.slice Ao46 x6_1.length co46 : Value).ownBlock) (.slice Ao46 x6_1.length co46) x6_1 11 a0 5 _ _ y490 t493 w _ ?side1 ?side2 ?side3 ?side4 A41.out).mono ?_);(case side1=>repeat (first|(with_reducible first|exact HB.out|apply zz03|apply zz01|apply zz02)|exact HB.out));(case side2=>exact Kd.R_tight rfl HO_6.out);(case side3=>exact Kd.C_kept_own ((Kd.R_apart' HO492.out (Kd.R_typed HO_6.out) (by decide))) (fun k_ hk_ hs_=>(hk_.2) hs_));(case side4=>exact (Kd.R_reads' HO492.out).2.1);rintro e w48 ⟨v494,rfl,ho0,hb,hkp⟩;refine ⟨_,rfl,?_⟩;have n0_:=zz00 (Kd.R_mono (ok':=fun k_=>True) (Kd.R_keptB ((Kd.R_apart' HO492.out (Kd.R_typed HO_6.out) (by decide))) hkp (fun k_ hk_ hs_=>(hk_.2) hs_)) (fun k_ hk_=>trivial));have n1_:=zz00 (Kd.R_mono (ok':=fun k_=>True) ho0 (fun k_ hk_=>trivial));have n2_:=zz00 (hb);clear HO492;clear HB;clear HO_6;have HO492:=n0_;have HO495:=n1_;have HB:=n2_;clear n0_ n1_ n2_;(try clear hb);(try clear hkp);(try clear ho0))|((with_reducible refine zz23 (f:=60) rfl ?_);refine zz25 (some 51) rfl rfl Tryd.func60 (by kernel_rfl) rfl #[.int .i64 a0] rfl (by (try simp only [List.map_toArray,List.map_cons,List.map_nil]);first|done|rfl|(simp only [List.length_drop,List.length_take];rfl)) ?_;(with_reducible refine (r03_Is.calls a0 t496 _ A42.out).mono ?_);rintro e w' ⟨rfl,⟨nd,rfl⟩⟩;refine ⟨_,rfl,?_⟩))
      (try simp only [Act.put, zz11, zz12, zz13])
      go_cut [6] (fun v6 wc=>∃ (kq : Nat) (x6_42 : List (S48)),Aside0 (r19_Of.j1 kq a0 a1 x6_42 = some (r1,r2)) ∧ Aside0 (kq ≤ k1) ∧ Aside0 (Kd.R k48 48 wc w.heap.size (fun _=>True) v6 x6_42) ∧ Aside0 (Below w.heap.size w wc))
      case first =>
       have H := HC43.out
       clear HC43
       by_cases c49 : t496 = true
       ·
        subst c49
        have H1 : ((r19_Day.f k1 a0 5 30).bind fun t497=>(if t493.length < 8796093022208 then (r19_Of.j1 k1 a0 a1 (t493 ++ [(⟨12,wrap64 (t497 + 14)⟩ : S48)])) else (none))) = some (r1,r2):=by rw [if_pos rfl] at H;exact H
        clear H
        have H := H1
        clear H1
        replace H := zz14.mp H
        obtain ⟨t497, A500, H⟩ := H
        replace H : (if t493.length < 8796093022208 then (r19_Of.j1 k1 a0 a1 (t493 ++ [(⟨12, wrap64 (t497 + 14)⟩ : S48)])) else (none)) = some (r1, r2) := H
        have A50 := zz00 A500
        clear A500
        by_cases c51 : t493.length < 8796093022208
        ·
         rw [if_pos c51] at H
         have LMc51 := zz00 c51
         clear c51
         obtain ⟨y498, hy498⟩ : ∃ y_ : List (S48), y_ = (t493 ++ [(⟨12, wrap64 (t497 + 14)⟩ : S48)]) := ⟨_, rfl⟩
         replace H : (r19_Of.j1 k1 a0 a1 y498) = some (r1,r2):=by first|(rw [hy498];with_reducible exact H)|(have H2_:=(Option.bind_some _ _).symm.trans H;rw [hy498];with_reducible exact H2_)|(have H2_:=(Option.bind_some _ _).symm.trans H;with_reducible exact H2_)|with_reducible exact H|(rw [hy498];exact H)|exact H
         have Ny498 := zz00 hy498
         clear hy498
         have H' := zz00 H
         clear H
         go_wp2_with (first|((with_reducible refine zz23 (f:=63) rfl ?_);refine zz25 (some 54) rfl rfl Tryd.func63 (by kernel_rfl) rfl #[.int .i64 a0,.int .i64 5,.int .i64 30] rfl (by (try simp only [List.map_toArray,List.map_cons,List.map_nil]);first|done|rfl|(simp only [List.length_drop,List.length_take];rfl)) ?_;(with_reducible refine (r19_Day.calls k1 a0 5 30 t497 _ A50.out).mono ?_);rintro e w52 ⟨rfl,hb⟩;refine ⟨_,rfl,?_⟩;have n0_:=zz00 (zz19 (by (with_reducible repeat (first|apply zz05|apply zz04|apply zz06));exact HO492.out) hb);have n1_:=zz00 (zz19 (by (with_reducible repeat (first|apply zz05|apply zz04|apply zz06));exact HO495.out) hb);have n2_:=zz00 (zz21 (by repeat (first|(with_reducible first|exact HB.out|apply zz03|apply zz01|apply zz02)|exact HB.out)) hb);clear HO492;clear HO495;clear HB;have HO492:=n0_;have HO495:=n1_;have HB:=n2_;clear n0_ n1_ n2_;(try clear hb);(try clear hb2);(try clear hk);(try clear hi))|((with_reducible refine gate_builtin (b:=.append) (xs:=#[.tmp 52,.tmp 57]) rfl ?_);at_builtin;refine Kd.R_append k48 (w0:=w) w.heap.size rfl (.tmp 52) (.tmp 57) 38 48 (.agg #[(.int .i64 0),(.int .i64 0)]) 16 rfl Tryd.underlying38 info48 rfl (by decide) (by omega) v494 t493 (⟨12,wrap64 (t497 + 14)⟩ : S48) [.int .i64 12,.int .i64 (wrap64 (t497 + 14))] (fun _=>True) (fun _=>False) rfl rfl ?aP (fun _ hk=>hk.elim) ?aF ?aO ?aB ?aS ?aL ?_;(case aP=>exact k48_mkM _ _ _ (⟨12,wrap64 (t497 + 14)⟩ : S48));(case aB=>exact (by repeat (first|(with_reducible first|exact HB.out|apply zz03|apply zz01|apply zz02)|exact HB.out)));(case aF=>exact (fun _ _=>trivial));(case aO=>exact (by (with_reducible repeat (first|apply zz05|apply zz04|apply zz06));exact HO495.out));(case aS=>exact (zz22 (by repeat (first|(with_reducible first|exact HB.out|apply zz03|apply zz01|apply zz02)|exact HB.out))));(case aL=>have:=LMc51.out;omega);intro v499 w53 ho hb hg hat;rw [← Ny498.out] at ho;have n0_:=zz00 (Kd.R_over' (by (with_reducible repeat (first|apply zz05|apply zz04|apply zz06));exact HO492.out) (Kd.R_typed (by (with_reducible repeat (first|apply zz05|apply zz04|apply zz06));exact HO495.out)) (by decide) hg);have n1_:=zz00 (hb);have n2_:=zz00 (ho);clear HO492;clear HB;clear HO495;have HO492:=n0_;have HB:=n1_;have HO500:=n2_;clear n0_ n1_ n2_;clear ho hb hg hat))
         go_meet
         case rel=>exact ⟨_,(y498),H',⟨by have:=HK1.out;first|omega|exact Nat.le_refl _⟩,⟨by (with_reducible repeat (first|apply zz05|apply zz04|apply zz06));exact HO500.out⟩,⟨by repeat (first|(with_reducible first|exact HB.out|apply zz03|apply zz01|apply zz02)|exact HB.out)⟩⟩
        ·
         rw [if_neg c51] at H
         exact absurd H (by simp)
       ·
        replace c49 := zz32.mpr c49
        subst c49
        have H1 : (r19_Of.j1 k1 a0 a1 t493) = some (r1, r2) := by rw [if_neg (show ¬ (false = true) by decide)] at H; exact H
        clear H
        have H := H1
        clear H1
        have H' := zz00 H
        clear H
        go_wp2
        go_meet
        case rel=>exact ⟨_,(t493),H',⟨by have:=HK1.out;first|omega|exact Nat.le_refl _⟩,⟨by (with_reducible repeat (first|apply zz05|apply zz04|apply zz06));exact HO495.out⟩,⟨by repeat (first|(with_reducible first|exact HB.out|apply zz03|apply zz01|apply zz02)|exact HB.out)⟩⟩
      case rest =>
       clear HC43
       try clear p2
       try clear c3
       try clear c4
       try clear c5
       try clear c6
       try clear p6
       try clear c36
       try clear c36b0
       try clear c38
       try clear c49
       try clear c51
       try clear p2
       obtain ⟨kq, x6_42, HA, HJ42, HO_6, HB⟩ := hcut
       cases kq with
       | zero => exact absurd HA.out (by simp [r19_Of.j1])
       | succ kj42 =>
        have H := HA.out
        clear HA
        simp only [r19_Of.j1] at H
        obtain ⟨y501, hy501⟩ : ∃ y_ : List Int, y_ = (([14] : List Int)) := ⟨_, rfl⟩
        replace H : ((r19_days.f kj42 x6_42 14 a0 6 y501).bind fun t504=>((r19_days.f kj42 t504 15 a0 6 (([15] : List Int))).bind fun t510=>((r19_days.f kj42 t510 18 a0 7 (([17,18,19,20] : List Int))).bind fun t516=>((r19_days.f kj42 t516 22 a0 8 (([14] : List Int))).bind fun t522=>((r19_days.f kj42 t522 23 a0 8 (([18] : List Int))).bind fun t528=>((r19_days.f kj42 t528 28 a0 11 (([15] : List Int))).bind fun t534=>(if a1 = 1 then ((r19_days.f kj42 t534 4 a0 1 (([15] : List Int))).bind fun t540=>((r19_days.f kj42 t540 5 a0 1 (([16] : List Int))).bind fun t546=>((r19_days.f kj42 t546 8 a0 1 (([22] : List Int))).bind fun t552=>((r19_days.f kj42 t552 17 a0 7 (([15,21] : List Int))).bind fun t558=>((r19_days.f kj42 t558 18 a0 7 (([16] : List Int))).bind fun t564=>((r19_days.f kj42 t564 25 a0 9 (([6] : List Int))).bind fun t570=>((r19_Sort.f kj42 t570).bind fun t573=>(some (t573,0))))))))) else ((r19_days.f kj42 t534 4 a0 1 (([15,16] : List Int))).bind fun t579=>((r19_days.f kj42 t579 8 a0 1 (([23] : List Int))).bind fun t585=>((r19_days.f kj42 t585 17 a0 7 (([15,16,21,22] : List Int))).bind fun t591=>((r19_days.f kj42 t591 25 a0 9 (([6,7] : List Int))).bind fun t597=>((r19_Sort.f kj42 t597).bind fun t600=>(some (t600,0)))))))))))))) = some (r1,r2):=by first|(rw [hy501];with_reducible exact H)|(have H2_:=(Option.bind_some _ _).symm.trans H;rw [hy501];with_reducible exact H2_)|(have H2_:=(Option.bind_some _ _).symm.trans H;with_reducible exact H2_)|with_reducible exact H|(rw [hy501];exact H)|exact H
        have Ny501 := zz00 hy501
        clear hy501
        replace H := zz14.mp H
        obtain ⟨t504, A540, H⟩ := H
        replace H : ((r19_days.f kj42 t504 15 a0 6 (([15] : List Int))).bind fun t510=>((r19_days.f kj42 t510 18 a0 7 (([17,18,19,20] : List Int))).bind fun t516=>((r19_days.f kj42 t516 22 a0 8 (([14] : List Int))).bind fun t522=>((r19_days.f kj42 t522 23 a0 8 (([18] : List Int))).bind fun t528=>((r19_days.f kj42 t528 28 a0 11 (([15] : List Int))).bind fun t534=>(if a1 = 1 then ((r19_days.f kj42 t534 4 a0 1 (([15] : List Int))).bind fun t540=>((r19_days.f kj42 t540 5 a0 1 (([16] : List Int))).bind fun t546=>((r19_days.f kj42 t546 8 a0 1 (([22] : List Int))).bind fun t552=>((r19_days.f kj42 t552 17 a0 7 (([15,21] : List Int))).bind fun t558=>((r19_days.f kj42 t558 18 a0 7 (([16] : List Int))).bind fun t564=>((r19_days.f kj42 t564 25 a0 9 (([6] : List Int))).bind fun t570=>((r19_Sort.f kj42 t570).bind fun t573=>(some (t573,0))))))))) else ((r19_days.f kj42 t534 4 a0 1 (([15,16] : List Int))).bind fun t579=>((r19_days.f kj42 t579 8 a0 1 (([23] : List Int))).bind fun t585=>((r19_days.f kj42 t585 17 a0 7 (([15,16,21,22] : List Int))).bind fun t591=>((r19_days.f kj42 t591 25 a0 9 (([6,7] : List Int))).bind fun t597=>((r19_Sort.f kj42 t597).bind fun t600=>(some (t600,0))))))))))))) = some (r1,r2):=H
        have A54 := zz00 A540
        clear A540
        obtain ⟨y507, hy507⟩ : ∃ y_ : List Int, y_ = (([15] : List Int)) := ⟨_, rfl⟩
        replace H : ((r19_days.f kj42 t504 15 a0 6 y507).bind fun t510=>((r19_days.f kj42 t510 18 a0 7 (([17,18,19,20] : List Int))).bind fun t516=>((r19_days.f kj42 t516 22 a0 8 (([14] : List Int))).bind fun t522=>((r19_days.f kj42 t522 23 a0 8 (([18] : List Int))).bind fun t528=>((r19_days.f kj42 t528 28 a0 11 (([15] : List Int))).bind fun t534=>(if a1 = 1 then ((r19_days.f kj42 t534 4 a0 1 (([15] : List Int))).bind fun t540=>((r19_days.f kj42 t540 5 a0 1 (([16] : List Int))).bind fun t546=>((r19_days.f kj42 t546 8 a0 1 (([22] : List Int))).bind fun t552=>((r19_days.f kj42 t552 17 a0 7 (([15,21] : List Int))).bind fun t558=>((r19_days.f kj42 t558 18 a0 7 (([16] : List Int))).bind fun t564=>((r19_days.f kj42 t564 25 a0 9 (([6] : List Int))).bind fun t570=>((r19_Sort.f kj42 t570).bind fun t573=>(some (t573,0))))))))) else ((r19_days.f kj42 t534 4 a0 1 (([15,16] : List Int))).bind fun t579=>((r19_days.f kj42 t579 8 a0 1 (([23] : List Int))).bind fun t585=>((r19_days.f kj42 t585 17 a0 7 (([15,16,21,22] : List Int))).bind fun t591=>((r19_days.f kj42 t591 25 a0 9 (([6,7] : List Int))).bind fun t597=>((r19_Sort.f kj42 t597).bind fun t600=>(some (t600,0))))))))))))) = some (r1,r2):=by first|(rw [hy507];with_reducible exact H)|(have H2_:=(Option.bind_some _ _).symm.trans H;rw [hy507];with_reducible exact H2_)|(have H2_:=(Option.bind_some _ _).symm.trans H;with_reducible exact H2_)|with_reducible exact H|(rw [hy507];exact H)|exact H
        have Ny507 := zz00 hy507
        clear hy507
        replace H := zz14.mp H
        obtain ⟨t510, A550, H⟩ := H
        replace H : ((r19_days.f kj42 t510 18 a0 7 (([17,18,19,20] : List Int))).bind fun t516=>((r19_days.f kj42 t516 22 a0 8 (([14] : List Int))).bind fun t522=>((r19_days.f kj42 t522 23 a0 8 (([18] : List Int))).bind fun t528=>((r19_days.f kj42 t528 28 a0 11 (([15] : List Int))).bind fun t534=>(if a1 = 1 then ((r19_days.f kj42 t534 4 a0 1 (([15] : List Int))).bind fun t540=>((r19_days.f kj42 t540 5 a0 1 (([16] : List Int))).bind fun t546=>((r19_days.f kj42 t546 8 a0 1 (([22] : List Int))).bind fun t552=>((r19_days.f kj42 t552 17 a0 7 (([15,21] : List Int))).bind fun t558=>((r19_days.f kj42 t558 18 a0 7 (([16] : List Int))).bind fun t564=>((r19_days.f kj42 t564 25 a0 9 (([6] : List Int))).bind fun t570=>((r19_Sort.f kj42 t570).bind fun t573=>(some (t573,0))))))))) else ((r19_days.f kj42 t534 4 a0 1 (([15,16] : List Int))).bind fun t579=>((r19_days.f kj42 t579 8 a0 1 (([23] : List Int))).bind fun t585=>((r19_days.f kj42 t585 17 a0 7 (([15,16,21,22] : List Int))).bind fun t591=>((r19_days.f kj42 t591 25 a0 9 (([6,7] : List Int))).bind fun t597=>((r19_Sort.f kj42 t597).bind fun t600=>(some (t600,0)))))))))))) = some (r1,r2):=H
        have A55 := zz00 A550
        clear A550
        obtain ⟨y513, hy513⟩ : ∃ y_ : List Int, y_ = (([17, 18, 19, 20] : List Int)) := ⟨_, rfl⟩
        replace H : ((r19_days.f kj42 t510 18 a0 7 y513).bind fun t516=>((r19_days.f kj42 t516 22 a0 8 (([14] : List Int))).bind fun t522=>((r19_days.f kj42 t522 23 a0 8 (([18] : List Int))).bind fun t528=>((r19_days.f kj42 t528 28 a0 11 (([15] : List Int))).bind fun t534=>(if a1 = 1 then ((r19_days.f kj42 t534 4 a0 1 (([15] : List Int))).bind fun t540=>((r19_days.f kj42 t540 5 a0 1 (([16] : List Int))).bind fun t546=>((r19_days.f kj42 t546 8 a0 1 (([22] : List Int))).bind fun t552=>((r19_days.f kj42 t552 17 a0 7 (([15,21] : List Int))).bind fun t558=>((r19_days.f kj42 t558 18 a0 7 (([16] : List Int))).bind fun t564=>((r19_days.f kj42 t564 25 a0 9 (([6] : List Int))).bind fun t570=>((r19_Sort.f kj42 t570).bind fun t573=>(some (t573,0))))))))) else ((r19_days.f kj42 t534 4 a0 1 (([15,16] : List Int))).bind fun t579=>((r19_days.f kj42 t579 8 a0 1 (([23] : List Int))).bind fun t585=>((r19_days.f kj42 t585 17 a0 7 (([15,16,21,22] : List Int))).bind fun t591=>((r19_days.f kj42 t591 25 a0 9 (([6,7] : List Int))).bind fun t597=>((r19_Sort.f kj42 t597).bind fun t600=>(some (t600,0)))))))))))) = some (r1,r2):=by first|(rw [hy513];with_reducible exact H)|(have H2_:=(Option.bind_some _ _).symm.trans H;rw [hy513];with_reducible exact H2_)|(have H2_:=(Option.bind_some _ _).symm.trans H;with_reducible exact H2_)|with_reducible exact H|(rw [hy513];exact H)|exact H
        have Ny513 := zz00 hy513
        clear hy513
        replace H := zz14.mp H
        obtain ⟨t516, A560, H⟩ := H
        replace H : ((r19_days.f kj42 t516 22 a0 8 (([14] : List Int))).bind fun t522=>((r19_days.f kj42 t522 23 a0 8 (([18] : List Int))).bind fun t528=>((r19_days.f kj42 t528 28 a0 11 (([15] : List Int))).bind fun t534=>(if a1 = 1 then ((r19_days.f kj42 t534 4 a0 1 (([15] : List Int))).bind fun t540=>((r19_days.f kj42 t540 5 a0 1 (([16] : List Int))).bind fun t546=>((r19_days.f kj42 t546 8 a0 1 (([22] : List Int))).bind fun t552=>((r19_days.f kj42 t552 17 a0 7 (([15,21] : List Int))).bind fun t558=>((r19_days.f kj42 t558 18 a0 7 (([16] : List Int))).bind fun t564=>((r19_days.f kj42 t564 25 a0 9 (([6] : List Int))).bind fun t570=>((r19_Sort.f kj42 t570).bind fun t573=>(some (t573,0))))))))) else ((r19_days.f kj42 t534 4 a0 1 (([15,16] : List Int))).bind fun t579=>((r19_days.f kj42 t579 8 a0 1 (([23] : List Int))).bind fun t585=>((r19_days.f kj42 t585 17 a0 7 (([15,16,21,22] : List Int))).bind fun t591=>((r19_days.f kj42 t591 25 a0 9 (([6,7] : List Int))).bind fun t597=>((r19_Sort.f kj42 t597).bind fun t600=>(some (t600,0))))))))))) = some (r1,r2):=H
        have A56 := zz00 A560
        clear A560
        obtain ⟨y519, hy519⟩ : ∃ y_ : List Int, y_ = (([14] : List Int)) := ⟨_, rfl⟩
        replace H : ((r19_days.f kj42 t516 22 a0 8 y519).bind fun t522=>((r19_days.f kj42 t522 23 a0 8 (([18] : List Int))).bind fun t528=>((r19_days.f kj42 t528 28 a0 11 (([15] : List Int))).bind fun t534=>(if a1 = 1 then ((r19_days.f kj42 t534 4 a0 1 (([15] : List Int))).bind fun t540=>((r19_days.f kj42 t540 5 a0 1 (([16] : List Int))).bind fun t546=>((r19_days.f kj42 t546 8 a0 1 (([22] : List Int))).bind fun t552=>((r19_days.f kj42 t552 17 a0 7 (([15,21] : List Int))).bind fun t558=>((r19_days.f kj42 t558 18 a0 7 (([16] : List Int))).bind fun t564=>((r19_days.f kj42 t564 25 a0 9 (([6] : List Int))).bind fun t570=>((r19_Sort.f kj42 t570).bind fun t573=>(some (t573,0))))))))) else ((r19_days.f kj42 t534 4 a0 1 (([15,16] : List Int))).bind fun t579=>((r19_days.f kj42 t579 8 a0 1 (([23] : List Int))).bind fun t585=>((r19_days.f kj42 t585 17 a0 7 (([15,16,21,22] : List Int))).bind fun t591=>((r19_days.f kj42 t591 25 a0 9 (([6,7] : List Int))).bind fun t597=>((r19_Sort.f kj42 t597).bind fun t600=>(some (t600,0))))))))))) = some (r1,r2):=by first|(rw [hy519];with_reducible exact H)|(have H2_:=(Option.bind_some _ _).symm.trans H;rw [hy519];with_reducible exact H2_)|(have H2_:=(Option.bind_some _ _).symm.trans H;with_reducible exact H2_)|with_reducible exact H|(rw [hy519];exact H)|exact H
        have Ny519 := zz00 hy519
        clear hy519
        replace H := zz14.mp H
        obtain ⟨t522, A570, H⟩ := H
        replace H : ((r19_days.f kj42 t522 23 a0 8 (([18] : List Int))).bind fun t528=>((r19_days.f kj42 t528 28 a0 11 (([15] : List Int))).bind fun t534=>(if a1 = 1 then ((r19_days.f kj42 t534 4 a0 1 (([15] : List Int))).bind fun t540=>((r19_days.f kj42 t540 5 a0 1 (([16] : List Int))).bind fun t546=>((r19_days.f kj42 t546 8 a0 1 (([22] : List Int))).bind fun t552=>((r19_days.f kj42 t552 17 a0 7 (([15,21] : List Int))).bind fun t558=>((r19_days.f kj42 t558 18 a0 7 (([16] : List Int))).bind fun t564=>((r19_days.f kj42 t564 25 a0 9 (([6] : List Int))).bind fun t570=>((r19_Sort.f kj42 t570).bind fun t573=>(some (t573,0))))))))) else ((r19_days.f kj42 t534 4 a0 1 (([15,16] : List Int))).bind fun t579=>((r19_days.f kj42 t579 8 a0 1 (([23] : List Int))).bind fun t585=>((r19_days.f kj42 t585 17 a0 7 (([15,16,21,22] : List Int))).bind fun t591=>((r19_days.f kj42 t591 25 a0 9 (([6,7] : List Int))).bind fun t597=>((r19_Sort.f kj42 t597).bind fun t600=>(some (t600,0)))))))))) = some (r1,r2):=H
        have A57 := zz00 A570
        clear A570
        obtain ⟨y525, hy525⟩ : ∃ y_ : List Int, y_ = (([18] : List Int)) := ⟨_, rfl⟩
        replace H : ((r19_days.f kj42 t522 23 a0 8 y525).bind fun t528=>((r19_days.f kj42 t528 28 a0 11 (([15] : List Int))).bind fun t534=>(if a1 = 1 then ((r19_days.f kj42 t534 4 a0 1 (([15] : List Int))).bind fun t540=>((r19_days.f kj42 t540 5 a0 1 (([16] : List Int))).bind fun t546=>((r19_days.f kj42 t546 8 a0 1 (([22] : List Int))).bind fun t552=>((r19_days.f kj42 t552 17 a0 7 (([15,21] : List Int))).bind fun t558=>((r19_days.f kj42 t558 18 a0 7 (([16] : List Int))).bind fun t564=>((r19_days.f kj42 t564 25 a0 9 (([6] : List Int))).bind fun t570=>((r19_Sort.f kj42 t570).bind fun t573=>(some (t573,0))))))))) else ((r19_days.f kj42 t534 4 a0 1 (([15,16] : List Int))).bind fun t579=>((r19_days.f kj42 t579 8 a0 1 (([23] : List Int))).bind fun t585=>((r19_days.f kj42 t585 17 a0 7 (([15,16,21,22] : List Int))).bind fun t591=>((r19_days.f kj42 t591 25 a0 9 (([6,7] : List Int))).bind fun t597=>((r19_Sort.f kj42 t597).bind fun t600=>(some (t600,0)))))))))) = some (r1,r2):=by first|(rw [hy525];with_reducible exact H)|(have H2_:=(Option.bind_some _ _).symm.trans H;rw [hy525];with_reducible exact H2_)|(have H2_:=(Option.bind_some _ _).symm.trans H;with_reducible exact H2_)|with_reducible exact H|(rw [hy525];exact H)|exact H
        have Ny525 := zz00 hy525
        clear hy525
        replace H := zz14.mp H
        obtain ⟨t528, A580, H⟩ := H
        replace H : ((r19_days.f kj42 t528 28 a0 11 (([15] : List Int))).bind fun t534=>(if a1 = 1 then ((r19_days.f kj42 t534 4 a0 1 (([15] : List Int))).bind fun t540=>((r19_days.f kj42 t540 5 a0 1 (([16] : List Int))).bind fun t546=>((r19_days.f kj42 t546 8 a0 1 (([22] : List Int))).bind fun t552=>((r19_days.f kj42 t552 17 a0 7 (([15,21] : List Int))).bind fun t558=>((r19_days.f kj42 t558 18 a0 7 (([16] : List Int))).bind fun t564=>((r19_days.f kj42 t564 25 a0 9 (([6] : List Int))).bind fun t570=>((r19_Sort.f kj42 t570).bind fun t573=>(some (t573,0))))))))) else ((r19_days.f kj42 t534 4 a0 1 (([15,16] : List Int))).bind fun t579=>((r19_days.f kj42 t579 8 a0 1 (([23] : List Int))).bind fun t585=>((r19_days.f kj42 t585 17 a0 7 (([15,16,21,22] : List Int))).bind fun t591=>((r19_days.f kj42 t591 25 a0 9 (([6,7] : List Int))).bind fun t597=>((r19_Sort.f kj42 t597).bind fun t600=>(some (t600,0))))))))) = some (r1,r2):=H
        have A58 := zz00 A580
        clear A580
        obtain ⟨y531, hy531⟩ : ∃ y_ : List Int, y_ = (([15] : List Int)) := ⟨_, rfl⟩
        replace H : ((r19_days.f kj42 t528 28 a0 11 y531).bind fun t534=>(if a1 = 1 then ((r19_days.f kj42 t534 4 a0 1 (([15] : List Int))).bind fun t540=>((r19_days.f kj42 t540 5 a0 1 (([16] : List Int))).bind fun t546=>((r19_days.f kj42 t546 8 a0 1 (([22] : List Int))).bind fun t552=>((r19_days.f kj42 t552 17 a0 7 (([15,21] : List Int))).bind fun t558=>((r19_days.f kj42 t558 18 a0 7 (([16] : List Int))).bind fun t564=>((r19_days.f kj42 t564 25 a0 9 (([6] : List Int))).bind fun t570=>((r19_Sort.f kj42 t570).bind fun t573=>(some (t573,0))))))))) else ((r19_days.f kj42 t534 4 a0 1 (([15,16] : List Int))).bind fun t579=>((r19_days.f kj42 t579 8 a0 1 (([23] : List Int))).bind fun t585=>((r19_days.f kj42 t585 17 a0 7 (([15,16,21,22] : List Int))).bind fun t591=>((r19_days.f kj42 t591 25 a0 9 (([6,7] : List Int))).bind fun t597=>((r19_Sort.f kj42 t597).bind fun t600=>(some (t600,0))))))))) = some (r1,r2):=by first|(rw [hy531];with_reducible exact H)|(have H2_:=(Option.bind_some _ _).symm.trans H;rw [hy531];with_reducible exact H2_)|(have H2_:=(Option.bind_some _ _).symm.trans H;with_reducible exact H2_)|with_reducible exact H|(rw [hy531];exact H)|exact H
        have Ny531 := zz00 hy531
        clear hy531
        replace H := zz14.mp H
        obtain ⟨t534, A590, H⟩ := H
        replace H : (if a1 = 1 then ((r19_days.f kj42 t534 4 a0 1 (([15] : List Int))).bind fun t540=>((r19_days.f kj42 t540 5 a0 1 (([16] : List Int))).bind fun t546=>((r19_days.f kj42 t546 8 a0 1 (([22] : List Int))).bind fun t552=>((r19_days.f kj42 t552 17 a0 7 (([15,21] : List Int))).bind fun t558=>((r19_days.f kj42 t558 18 a0 7 (([16] : List Int))).bind fun t564=>((r19_days.f kj42 t564 25 a0 9 (([6] : List Int))).bind fun t570=>((r19_Sort.f kj42 t570).bind fun t573=>(some (t573,0))))))))) else ((r19_days.f kj42 t534 4 a0 1 (([15,16] : List Int))).bind fun t579=>((r19_days.f kj42 t579 8 a0 1 (([23] : List Int))).bind fun t585=>((r19_days.f kj42 t585 17 a0 7 (([15,16,21,22] : List Int))).bind fun t591=>((r19_days.f kj42 t591 25 a0 9 (([6,7] : List Int))).bind fun t597=>((r19_Sort.f kj42 t597).bind fun t600=>(some (t600,0)))))))) = some (r1,r2):=H
        have A59 := zz00 A590
        clear A590
        by_cases c60 : a1 = 1
        ·
         rw [if_pos c60] at H
         have c60b0 : (a1 == 1) = true := zz29.mpr c60
         have c60b1 : (a1 != 1) = false := zz26.mpr c60
         clear c60
         obtain ⟨y537, hy537⟩ : ∃ y_ : List Int, y_ = (([15] : List Int)) := ⟨_, rfl⟩
         replace H : ((r19_days.f kj42 t534 4 a0 1 y537).bind fun t540=>((r19_days.f kj42 t540 5 a0 1 (([16] : List Int))).bind fun t546=>((r19_days.f kj42 t546 8 a0 1 (([22] : List Int))).bind fun t552=>((r19_days.f kj42 t552 17 a0 7 (([15,21] : List Int))).bind fun t558=>((r19_days.f kj42 t558 18 a0 7 (([16] : List Int))).bind fun t564=>((r19_days.f kj42 t564 25 a0 9 (([6] : List Int))).bind fun t570=>((r19_Sort.f kj42 t570).bind fun t573=>(some (t573,0))))))))) = some (r1,r2):=by first|(rw [hy537];with_reducible exact H)|(have H2_:=(Option.bind_some _ _).symm.trans H;rw [hy537];with_reducible exact H2_)|(have H2_:=(Option.bind_some _ _).symm.trans H;with_reducible exact H2_)|with_reducible exact H|(rw [hy537];exact H)|exact H
         have Ny537 := zz00 hy537
         clear hy537
         replace H := zz14.mp H
         obtain ⟨t540, A610, H⟩ := H
         replace H : ((r19_days.f kj42 t540 5 a0 1 (([16] : List Int))).bind fun t546=>((r19_days.f kj42 t546 8 a0 1 (([22] : List Int))).bind fun t552=>((r19_days.f kj42 t552 17 a0 7 (([15,21] : List Int))).bind fun t558=>((r19_days.f kj42 t558 18 a0 7 (([16] : List Int))).bind fun t564=>((r19_days.f kj42 t564 25 a0 9 (([6] : List Int))).bind fun t570=>((r19_Sort.f kj42 t570).bind fun t573=>(some (t573,0)))))))) = some (r1,r2):=H
         have A61 := zz00 A610
         clear A610
         obtain ⟨y543, hy543⟩ : ∃ y_ : List Int, y_ = (([16] : List Int)) := ⟨_, rfl⟩
         replace H : ((r19_days.f kj42 t540 5 a0 1 y543).bind fun t546=>((r19_days.f kj42 t546 8 a0 1 (([22] : List Int))).bind fun t552=>((r19_days.f kj42 t552 17 a0 7 (([15,21] : List Int))).bind fun t558=>((r19_days.f kj42 t558 18 a0 7 (([16] : List Int))).bind fun t564=>((r19_days.f kj42 t564 25 a0 9 (([6] : List Int))).bind fun t570=>((r19_Sort.f kj42 t570).bind fun t573=>(some (t573,0)))))))) = some (r1,r2):=by first|(rw [hy543];with_reducible exact H)|(have H2_:=(Option.bind_some _ _).symm.trans H;rw [hy543];with_reducible exact H2_)|(have H2_:=(Option.bind_some _ _).symm.trans H;with_reducible exact H2_)|with_reducible exact H|(rw [hy543];exact H)|exact H
         have Ny543 := zz00 hy543
         clear hy543
         replace H := zz14.mp H
         obtain ⟨t546, A620, H⟩ := H
         replace H : ((r19_days.f kj42 t546 8 a0 1 (([22] : List Int))).bind fun t552=>((r19_days.f kj42 t552 17 a0 7 (([15,21] : List Int))).bind fun t558=>((r19_days.f kj42 t558 18 a0 7 (([16] : List Int))).bind fun t564=>((r19_days.f kj42 t564 25 a0 9 (([6] : List Int))).bind fun t570=>((r19_Sort.f kj42 t570).bind fun t573=>(some (t573,0))))))) = some (r1,r2):=H
         have A62 := zz00 A620
         clear A620
         obtain ⟨y549, hy549⟩ : ∃ y_ : List Int, y_ = (([22] : List Int)) := ⟨_, rfl⟩
         replace H : ((r19_days.f kj42 t546 8 a0 1 y549).bind fun t552=>((r19_days.f kj42 t552 17 a0 7 (([15,21] : List Int))).bind fun t558=>((r19_days.f kj42 t558 18 a0 7 (([16] : List Int))).bind fun t564=>((r19_days.f kj42 t564 25 a0 9 (([6] : List Int))).bind fun t570=>((r19_Sort.f kj42 t570).bind fun t573=>(some (t573,0))))))) = some (r1,r2):=by first|(rw [hy549];with_reducible exact H)|(have H2_:=(Option.bind_some _ _).symm.trans H;rw [hy549];with_reducible exact H2_)|(have H2_:=(Option.bind_some _ _).symm.trans H;with_reducible exact H2_)|with_reducible exact H|(rw [hy549];exact H)|exact H
         have Ny549 := zz00 hy549
         clear hy549
         replace H := zz14.mp H
         obtain ⟨t552, A630, H⟩ := H
         replace H : ((r19_days.f kj42 t552 17 a0 7 (([15,21] : List Int))).bind fun t558=>((r19_days.f kj42 t558 18 a0 7 (([16] : List Int))).bind fun t564=>((r19_days.f kj42 t564 25 a0 9 (([6] : List Int))).bind fun t570=>((r19_Sort.f kj42 t570).bind fun t573=>(some (t573,0)))))) = some (r1,r2):=H
         have A63 := zz00 A630
         clear A630
         obtain ⟨y555, hy555⟩ : ∃ y_ : List Int, y_ = (([15, 21] : List Int)) := ⟨_, rfl⟩
         replace H : ((r19_days.f kj42 t552 17 a0 7 y555).bind fun t558=>((r19_days.f kj42 t558 18 a0 7 (([16] : List Int))).bind fun t564=>((r19_days.f kj42 t564 25 a0 9 (([6] : List Int))).bind fun t570=>((r19_Sort.f kj42 t570).bind fun t573=>(some (t573,0)))))) = some (r1,r2):=by first|(rw [hy555];with_reducible exact H)|(have H2_:=(Option.bind_some _ _).symm.trans H;rw [hy555];with_reducible exact H2_)|(have H2_:=(Option.bind_some _ _).symm.trans H;with_reducible exact H2_)|with_reducible exact H|(rw [hy555];exact H)|exact H
         have Ny555 := zz00 hy555
         clear hy555
         replace H := zz14.mp H
         obtain ⟨t558, A640, H⟩ := H
         replace H : ((r19_days.f kj42 t558 18 a0 7 (([16] : List Int))).bind fun t564=>((r19_days.f kj42 t564 25 a0 9 (([6] : List Int))).bind fun t570=>((r19_Sort.f kj42 t570).bind fun t573=>(some (t573,0))))) = some (r1,r2):=H
         have A64 := zz00 A640
         clear A640
         obtain ⟨y561, hy561⟩ : ∃ y_ : List Int, y_ = (([16] : List Int)) := ⟨_, rfl⟩
         replace H : ((r19_days.f kj42 t558 18 a0 7 y561).bind fun t564=>((r19_days.f kj42 t564 25 a0 9 (([6] : List Int))).bind fun t570=>((r19_Sort.f kj42 t570).bind fun t573=>(some (t573,0))))) = some (r1,r2):=by first|(rw [hy561];with_reducible exact H)|(have H2_:=(Option.bind_some _ _).symm.trans H;rw [hy561];with_reducible exact H2_)|(have H2_:=(Option.bind_some _ _).symm.trans H;with_reducible exact H2_)|with_reducible exact H|(rw [hy561];exact H)|exact H
         have Ny561 := zz00 hy561
         clear hy561
         replace H := zz14.mp H
         obtain ⟨t564, A650, H⟩ := H
         replace H : ((r19_days.f kj42 t564 25 a0 9 (([6] : List Int))).bind fun t570 => ((r19_Sort.f kj42 t570).bind fun t573 => (some (t573, 0)))) = some (r1, r2) := H
         have A65 := zz00 A650
         clear A650
         obtain ⟨y567, hy567⟩ : ∃ y_ : List Int, y_ = (([6] : List Int)) := ⟨_, rfl⟩
         replace H : ((r19_days.f kj42 t564 25 a0 9 y567).bind fun t570=>((r19_Sort.f kj42 t570).bind fun t573=>(some (t573,0)))) = some (r1,r2):=by first|(rw [hy567];with_reducible exact H)|(have H2_:=(Option.bind_some _ _).symm.trans H;rw [hy567];with_reducible exact H2_)|(have H2_:=(Option.bind_some _ _).symm.trans H;with_reducible exact H2_)|with_reducible exact H|(rw [hy567];exact H)|exact H
         have Ny567 := zz00 hy567
         clear hy567
         replace H := zz14.mp H
         obtain ⟨t570, A660, H⟩ := H
         replace H : ((r19_Sort.f kj42 t570).bind fun t573 => (some (t573, 0))) = some (r1, r2) := H
         have A66 := zz00 A660
         clear A660
         replace H := zz14.mp H
         obtain ⟨t573, A670, H⟩ := H
         replace H : (some (t573, 0)) = some (r1, r2) := H
         have A67 := zz00 A670
         clear A670
         simp only [zz15, zz16] at H
         obtain ⟨rfl, rfl⟩ := H
         go_wp2_with (first|((with_reducible refine zz24 (N:=61) rfl ?_);refine Kd.R_lit (Kd.int .i64) _ 3 ?hg (N:=61) ?hd (xs:=([14] : List Int)) (inner:=[.int .i64 14]) (ok:=fun _=>True) (okp:=fun _=>True) ?hr ?hp (fun _ hk=>hk) trivial (Below.refl _ _) (Nat.le_refl _) (by simp) ?_;(case hd=>rfl);(case hg=>rfl);(case hr=>first|(go_simp;done)|(go_simp;rfl));(case hp=>exact (Reps.one (show Kd.M (Kd.int .i64) _ _ _ 14 [.int .i64 14] from rfl) (Reps.none _ _)));intro v502 w68 ho69 hb hg_ hnew_;clear hg_ hnew_;(first|rw [← Ny501.out] at ho69|(simp only [Int.reduceToNat] at ho69;rw [← Ny501.out] at ho69));have n0_:=zz00 (zz19 (by (with_reducible repeat (first|apply zz05|apply zz04|apply zz06));exact HO_6.out) hb);have n1_:=zz00 (Kd.R_lower ho69 (zz22 (by repeat (first|(with_reducible first|exact HB.out|apply zz03|apply zz01|apply zz02)|exact HB.out))));have n2_:=zz00 (zz21 (by repeat (first|(with_reducible first|exact HB.out|apply zz03|apply zz01|apply zz02)|exact HB.out)) hb);clear HO_6;clear HB;have HO_6:=n0_;have HO503:=n1_;have HB:=n2_;clear n0_ n1_ n2_;clear hb ho69;obtain ⟨Ao70,co70,eo70⟩:=Kd.R_slice HO_6.out;subst eo70;obtain ⟨Ao71,co71,eo71⟩:=Kd.R_slice HO503.out;subst eo71)|((with_reducible refine zz23 (f:=62) rfl ?_);refine zz25 (some 62) rfl rfl Tryd.func62 (by kernel_rfl) rfl #[.slice Ao70 x6_42.length co70,.int .i64 14,.int .i64 a0,.int .i64 6,.slice Ao71 y501.length co71] rfl (by (try simp only [List.map_toArray,List.map_cons,List.map_nil]);first|done|rfl|(simp only [List.length_drop,List.length_take];rfl)) ?_;(with_reducible refine (r19_days.calls kj42 (fun k_=>some k_ = (.slice Ao70 x6_42.length co70 : Value).ownBlock) (.slice Ao70 x6_42.length co70) x6_42 14 a0 6 _ _ y501 t504 w _ ?side1 ?side2 ?side3 ?side4 A54.out).mono ?_);(case side1=>repeat (first|(with_reducible first|exact HB.out|apply zz03|apply zz01|apply zz02)|exact HB.out));(case side2=>exact Kd.R_tight rfl HO_6.out);(case side3=>exact Kd.C_kept_own ((Kd.R_apart' HO503.out (Kd.R_typed HO_6.out) (by decide))) (fun k_ hk_ hs_=>(hk_.2) hs_));(case side4=>exact (Kd.R_reads' HO503.out).2.1);rintro e w72 ⟨v505,rfl,ho0,hb,hkp⟩;refine ⟨_,rfl,?_⟩;have n1_:=zz00 (Kd.R_mono (ok':=fun k_=>True) ho0 (fun k_ hk_=>trivial));have n2_:=zz00 (hb);(try clear HO503);clear HB;clear HO_6;have HO506:=n1_;have HB:=n2_;clear n1_ n2_;(try clear hb);(try clear hkp);(try clear ho0))|((with_reducible refine zz24 (N:=65) rfl ?_);refine Kd.R_lit (Kd.int .i64) _ 3 ?hg (N:=65) ?hd (xs:=([15] : List Int)) (inner:=[.int .i64 15]) (ok:=fun _=>True) (okp:=fun _=>True) ?hr ?hp (fun _ hk=>hk) trivial (Below.refl _ _) (Nat.le_refl _) (by simp) ?_;(case hd=>rfl);(case hg=>rfl);(case hr=>first|(go_simp;done)|(go_simp;rfl));(case hp=>exact (Reps.one (show Kd.M (Kd.int .i64) _ _ _ 15 [.int .i64 15] from rfl) (Reps.none _ _)));intro v508 w73 ho74 hb hg_ hnew_;clear hg_ hnew_;(first|rw [← Ny507.out] at ho74|(simp only [Int.reduceToNat] at ho74;rw [← Ny507.out] at ho74));have n1_:=zz00 (zz19 (by (with_reducible repeat (first|apply zz05|apply zz04|apply zz06));exact HO506.out) hb);have n2_:=zz00 (Kd.R_lower ho74 (zz22 (by repeat (first|(with_reducible first|exact HB.out|apply zz03|apply zz01|apply zz02)|exact HB.out))));have n3_:=zz00 (zz21 (by repeat (first|(with_reducible first|exact HB.out|apply zz03|apply zz01|apply zz02)|exact HB.out)) hb);(try clear HO503);clear HO506;clear HB;have HO506:=n1_;have HO509:=n2_;have HB:=n3_;clear n1_ n2_ n3_;clear hb ho74;obtain ⟨Ao75,co75,eo75⟩:=Kd.R_slice HO506.out;subst eo75;obtain ⟨Ao76,co76,eo76⟩:=Kd.R_slice HO509.out;subst eo76)|((with_reducible refine zz23 (f:=62) rfl ?_);refine zz25 (some 66) rfl rfl Tryd.func62 (by kernel_rfl) rfl #[.slice Ao75 t504.length co75,.int .i64 15,.int .i64 a0,.int .i64 6,.slice Ao76 y507.length co76] rfl (by (try simp only [List.map_toArray,List.map_cons,List.map_nil]);first|done|rfl|(simp only [List.length_drop,List.length_take];rfl)) ?_;(with_reducible refine (r19_days.calls kj42 (fun k_=>some k_ = (.slice Ao75 t504.length co75 : Value).ownBlock) (.slice Ao75 t504.length co75) t504 15 a0 6 _ _ y507 t510 w _ ?side1 ?side2 ?side3 ?side4 A55.out).mono ?_);(case side1=>repeat (first|(with_reducible first|exact HB.out|apply zz03|apply zz01|apply zz02)|exact HB.out));(case side2=>exact Kd.R_tight rfl HO506.out);(case side3=>exact Kd.C_kept_own ((Kd.R_apart' HO509.out (Kd.R_typed HO506.out) (by decide))) (fun k_ hk_ hs_=>(hk_.2) hs_));(case side4=>exact (Kd.R_reads' HO509.out).2.1);rintro e w77 ⟨v511,rfl,ho0,hb,hkp⟩;refine ⟨_,rfl,?_⟩;have n2_:=zz00 (Kd.R_mono (ok':=fun k_=>True) ho0 (fun k_ hk_=>trivial));have n3_:=zz00 (hb);(try clear HO503);(try clear HO509);clear HB;clear HO506;have HO512:=n2_;have HB:=n3_;clear n2_ n3_;(try clear hb);(try clear hkp);(try clear ho0))|((with_reducible refine zz24 (N:=69) rfl ?_);refine Kd.R_lit (Kd.int .i64) _ 3 ?hg (N:=69) ?hd (xs:=([17,18,19,20] : List Int)) (inner:=[.int .i64 17,.int .i64 18,.int .i64 19,.int .i64 20]) (ok:=fun _=>True) (okp:=fun _=>True) ?hr ?hp (fun _ hk=>hk) trivial (Below.refl _ _) (Nat.le_refl _) (by simp) ?_;(case hd=>rfl);(case hg=>rfl);(case hr=>first|(go_simp;done)|(go_simp;rfl));(case hp=>exact (Reps.one (show Kd.M (Kd.int .i64) _ _ _ 17 [.int .i64 17] from rfl) (Reps.one (show Kd.M (Kd.int .i64) _ _ _ 18 [.int .i64 18] from rfl) (Reps.one (show Kd.M (Kd.int .i64) _ _ _ 19 [.int .i64 19] from rfl) (Reps.one (show Kd.M (Kd.int .i64) _ _ _ 20 [.int .i64 20] from rfl) (Reps.none _ _))))));intro v514 w78 ho79 hb hg_ hnew_;clear hg_ hnew_;(first|rw [← Ny513.out] at ho79|(simp only [Int.reduceToNat] at ho79;rw [← Ny513.out] at ho79));have n2_:=zz00 (zz19 (by (with_reducible repeat (first|apply zz05|apply zz04|apply zz06));exact HO512.out) hb);have n3_:=zz00 (Kd.R_lower ho79 (zz22 (by repeat (first|(with_reducible first|exact HB.out|apply zz03|apply zz01|apply zz02)|exact HB.out))));have n4_:=zz00 (zz21 (by repeat (first|(with_reducible first|exact HB.out|apply zz03|apply zz01|apply zz02)|exact HB.out)) hb);(try clear HO503);(try clear HO509);clear HO512;clear HB;have HO512:=n2_;have HO515:=n3_;have HB:=n4_;clear n2_ n3_ n4_;clear hb ho79;obtain ⟨Ao80,co80,eo80⟩:=Kd.R_slice HO512.out;subst eo80;obtain ⟨Ao81,co81,eo81⟩:=Kd.R_slice HO515.out;subst eo81)|((with_reducible refine zz23 (f:=62) rfl ?_);refine zz25 (some 70) rfl rfl Tryd.func62 (by kernel_rfl) rfl #[.slice Ao80 t510.length co80,.int .i64 18,.int .i64 a0,.int .i64 7,.slice Ao81 y513.length co81] rfl (by (try simp only [List.map_toArray,List.map_cons,List.map_nil]);first|done|rfl|(simp only [List.length_drop,List.length_take];rfl)) ?_;(with_reducible refine (r19_days.calls kj42 (fun k_=>some k_ = (.slice Ao80 t510.length co80 : Value).ownBlock) (.slice Ao80 t510.length co80) t510 18 a0 7 _ _ y513 t516 w _ ?side1 ?side2 ?side3 ?side4 A56.out).mono ?_);(case side1=>repeat (first|(with_reducible first|exact HB.out|apply zz03|apply zz01|apply zz02)|exact HB.out));(case side2=>exact Kd.R_tight rfl HO512.out);(case side3=>exact Kd.C_kept_own ((Kd.R_apart' HO515.out (Kd.R_typed HO512.out) (by decide))) (fun k_ hk_ hs_=>(hk_.2) hs_));(case side4=>exact (Kd.R_reads' HO515.out).2.1);rintro e w82 ⟨v517,rfl,ho0,hb,hkp⟩;refine ⟨_,rfl,?_⟩;have n3_:=zz00 (Kd.R_mono (ok':=fun k_=>True) ho0 (fun k_ hk_=>trivial));have n4_:=zz00 (hb);(try clear HO503);(try clear HO509);(try clear HO515);clear HB;clear HO512;have HO518:=n3_;have HB:=n4_;clear n3_ n4_;(try clear hb);(try clear hkp);(try clear ho0))|((with_reducible refine zz24 (N:=73) rfl ?_);refine Kd.R_lit (Kd.int .i64) _ 3 ?hg (N:=73) ?hd (xs:=([14] : List Int)) (inner:=[.int .i64 14]) (ok:=fun _=>True) (okp:=fun _=>True) ?hr ?hp (fun _ hk=>hk) trivial (Below.refl _ _) (Nat.le_refl _) (by simp) ?_;(case hd=>rfl);(case hg=>rfl);(case hr=>first|(go_simp;done)|(go_simp;rfl));(case hp=>exact (Reps.one (show Kd.M (Kd.int .i64) _ _ _ 14 [.int .i64 14] from rfl) (Reps.none _ _)));intro v520 w83 ho84 hb hg_ hnew_;clear hg_ hnew_;(first|rw [← Ny519.out] at ho84|(simp only [Int.reduceToNat] at ho84;rw [← Ny519.out] at ho84));have n3_:=zz00 (zz19 (by (with_reducible repeat (first|apply zz05|apply zz04|apply zz06));exact HO518.out) hb);have n4_:=zz00 (Kd.R_lower ho84 (zz22 (by repeat (first|(with_reducible first|exact HB.out|apply zz03|apply zz01|apply zz02)|exact HB.out))));have n5_:=zz00 (zz21 (by repeat (first|(with_reducible first|exact HB.out|apply zz03|apply zz01|apply zz02)|exact HB.out)) hb);(try clear HO503);(try clear HO509);(try clear HO515);clear HO518;clear HB;have HO518:=n3_;have HO521:=n4_;have HB:=n5_;clear n3_ n4_ n5_;clear hb ho84;obtain ⟨Ao85,co85,eo85⟩:=Kd.R_slice HO518.out;subst eo85;obtain ⟨Ao86,co86,eo86⟩:=Kd.R_slice HO521.out;subst eo86)|((with_reducible refine zz23 (f:=62) rfl ?_);refine zz25 (some 74) rfl rfl Tryd.func62 (by kernel_rfl) rfl #[.slice Ao85 t516.length co85,.int .i64 22,.int .i64 a0,.int .i64 8,.slice Ao86 y519.length co86] rfl (by (try simp only [List.map_toArray,List.map_cons,List.map_nil]);first|done|rfl|(simp only [List.length_drop,List.length_take];rfl)) ?_;(with_reducible refine (r19_days.calls kj42 (fun k_=>some k_ = (.slice Ao85 t516.length co85 : Value).ownBlock) (.slice Ao85 t516.length co85) t516 22 a0 8 _ _ y519 t522 w _ ?side1 ?side2 ?side3 ?side4 A57.out).mono ?_);(case side1=>repeat (first|(with_reducible first|exact HB.out|apply zz03|apply zz01|apply zz02)|exact HB.out));(case side2=>exact Kd.R_tight rfl HO518.out);(case side3=>exact Kd.C_kept_own ((Kd.R_apart' HO521.out (Kd.R_typed HO518.out) (by decide))) (fun k_ hk_ hs_=>(hk_.2) hs_));(case side4=>exact (Kd.R_reads' HO521.out).2.1);rintro e w87 ⟨v523,rfl,ho0,hb,hkp⟩;refine ⟨_,rfl,?_⟩;have n4_:=zz00 (Kd.R_mono (ok':=fun k_=>True) ho0 (fun k_ hk_=>trivial));have n5_:=zz00 (hb);(try clear HO503);(try clear HO509);(try clear HO515);(try clear HO521);clear HB;clear HO518;have HO524:=n4_;have HB:=n5_;clear n4_ n5_;(try clear hb);(try clear hkp);(try clear ho0))|((with_reducible refine zz24 (N:=77) rfl ?_);refine Kd.R_lit (Kd.int .i64) _ 3 ?hg (N:=77) ?hd (xs:=([18] : List Int)) (inner:=[.int .i64 18]) (ok:=fun _=>True) (okp:=fun _=>True) ?hr ?hp (fun _ hk=>hk) trivial (Below.refl _ _) (Nat.le_refl _) (by simp) ?_;(case hd=>rfl);(case hg=>rfl);(case hr=>first|(go_simp;done)|(go_simp;rfl));(case hp=>exact (Reps.one (show Kd.M (Kd.int .i64) _ _ _ 18 [.int .i64 18] from rfl) (Reps.none _ _)));intro v526 w88 ho89 hb hg_ hnew_;clear hg_ hnew_;(first|rw [← Ny525.out] at ho89|(simp only [Int.reduceToNat] at ho89;rw [← Ny525.out] at ho89));have n4_:=zz00 (zz19 (by (with_reducible repeat (first|apply zz05|apply zz04|apply zz06));exact HO524.out) hb);have n5_:=zz00 (Kd.R_lower ho89 (zz22 (by repeat (first|(with_reducible first|exact HB.out|apply zz03|apply zz01|apply zz02)|exact HB.out))));have n6_:=zz00 (zz21 (by repeat (first|(with_reducible first|exact HB.out|apply zz03|apply zz01|apply zz02)|exact HB.out)) hb);(try clear HO503);(try clear HO509);(try clear HO515);(try clear HO521);clear HO524;clear HB;have HO524:=n4_;have HO527:=n5_;have HB:=n6_;clear n4_ n5_ n6_;clear hb ho89;obtain ⟨Ao90,co90,eo90⟩:=Kd.R_slice HO524.out;subst eo90;obtain ⟨Ao91,co91,eo91⟩:=Kd.R_slice HO527.out;subst eo91)|((with_reducible refine zz23 (f:=62) rfl ?_);refine zz25 (some 78) rfl rfl Tryd.func62 (by kernel_rfl) rfl #[.slice Ao90 t522.length co90,.int .i64 23,.int .i64 a0,.int .i64 8,.slice Ao91 y525.length co91] rfl (by (try simp only [List.map_toArray,List.map_cons,List.map_nil]);first|done|rfl|(simp only [List.length_drop,List.length_take];rfl)) ?_;(with_reducible refine (r19_days.calls kj42 (fun k_=>some k_ = (.slice Ao90 t522.length co90 : Value).ownBlock) (.slice Ao90 t522.length co90) t522 23 a0 8 _ _ y525 t528 w _ ?side1 ?side2 ?side3 ?side4 A58.out).mono ?_);(case side1=>repeat (first|(with_reducible first|exact HB.out|apply zz03|apply zz01|apply zz02)|exact HB.out));(case side2=>exact Kd.R_tight rfl HO524.out);(case side3=>exact Kd.C_kept_own ((Kd.R_apart' HO527.out (Kd.R_typed HO524.out) (by decide))) (fun k_ hk_ hs_=>(hk_.2) hs_));(case side4=>exact (Kd.R_reads' HO527.out).2.1);rintro e w92 ⟨v529,rfl,ho0,hb,hkp⟩;refine ⟨_,rfl,?_⟩;have n5_:=zz00 (Kd.R_mono (ok':=fun k_=>True) ho0 (fun k_ hk_=>trivial));have n6_:=zz00 (hb);(try clear HO503);(try clear HO509);(try clear HO515);(try clear HO521);(try clear HO527);clear HB;clear HO524;have HO530:=n5_;have HB:=n6_;clear n5_ n6_;(try clear hb);(try clear hkp);(try clear ho0))|((with_reducible refine zz24 (N:=81) rfl ?_);refine Kd.R_lit (Kd.int .i64) _ 3 ?hg (N:=81) ?hd (xs:=([15] : List Int)) (inner:=[.int .i64 15]) (ok:=fun _=>True) (okp:=fun _=>True) ?hr ?hp (fun _ hk=>hk) trivial (Below.refl _ _) (Nat.le_refl _) (by simp) ?_;(case hd=>rfl);(case hg=>rfl);(case hr=>first|(go_simp;done)|(go_simp;rfl));(case hp=>exact (Reps.one (show Kd.M (Kd.int .i64) _ _ _ 15 [.int .i64 15] from rfl) (Reps.none _ _)));intro v532 w93 ho94 hb hg_ hnew_;clear hg_ hnew_;(first|rw [← Ny531.out] at ho94|(simp only [Int.reduceToNat] at ho94;rw [← Ny531.out] at ho94));have n5_:=zz00 (zz19 (by (with_reducible repeat (first|apply zz05|apply zz04|apply zz06));exact HO530.out) hb);have n6_:=zz00 (Kd.R_lower ho94 (zz22 (by repeat (first|(with_reducible first|exact HB.out|apply zz03|apply zz01|apply zz02)|exact HB.out))));have n7_:=zz00 (zz21 (by repeat (first|(with_reducible first|exact HB.out|apply zz03|apply zz01|apply zz02)|exact HB.out)) hb);(try clear HO503);(try clear HO509);(try clear HO515);(try clear HO521);(try clear HO527);clear HO530;clear HB;have HO530:=n5_;have HO533:=n6_;have HB:=n7_;clear n5_ n6_ n7_;clear hb ho94;obtain ⟨Ao95,co95,eo95⟩:=Kd.R_slice HO530.out;subst eo95;obtain ⟨Ao96,co96,eo96⟩:=Kd.R_slice HO533.out;subst eo96)|((with_reducible refine zz23 (f:=62) rfl ?_);refine zz25 (some 82) rfl rfl Tryd.func62 (by kernel_rfl) rfl #[.slice Ao95 t528.length co95,.int .i64 28,.int .i64 a0,.int .i64 11,.slice Ao96 y531.length co96] rfl (by (try simp only [List.map_toArray,List.map_cons,List.map_nil]);first|done|rfl|(simp only [List.length_drop,List.length_take];rfl)) ?_;(with_reducible refine (r19_days.calls kj42 (fun k_=>some k_ = (.slice Ao95 t528.length co95 : Value).ownBlock) (.slice Ao95 t528.length co95) t528 28 a0 11 _ _ y531 t534 w _ ?side1 ?side2 ?side3 ?side4 A59.out).mono ?_);(case side1=>repeat (first|(with_reducible first|exact HB.out|apply zz03|apply zz01|apply zz02)|exact HB.out));(case side2=>exact Kd.R_tight rfl HO530.out);(case side3=>exact Kd.C_kept_own ((Kd.R_apart' HO533.out (Kd.R_typed HO530.out) (by decide))) (fun k_ hk_ hs_=>(hk_.2) hs_));(case side4=>exact (Kd.R_reads' HO533.out).2.1);rintro e w97 ⟨v535,rfl,ho0,hb,hkp⟩;refine ⟨_,rfl,?_⟩;have n6_:=zz00 (Kd.R_mono (ok':=fun k_=>True) ho0 (fun k_ hk_=>trivial));have n7_:=zz00 (hb);(try clear HO503);(try clear HO509);(try clear HO515);(try clear HO521);(try clear HO527);(try clear HO533);clear HB;clear HO530;have HO536:=n6_;have HB:=n7_;clear n6_ n7_;(try clear hb);(try clear hkp);(try clear ho0))|((with_reducible refine zz24 (N:=87) rfl ?_);refine Kd.R_lit (Kd.int .i64) _ 3 ?hg (N:=87) ?hd (xs:=([15] : List Int)) (inner:=[.int .i64 15]) (ok:=fun _=>True) (okp:=fun _=>True) ?hr ?hp (fun _ hk=>hk) trivial (Below.refl _ _) (Nat.le_refl _) (by simp) ?_;(case hd=>rfl);(case hg=>rfl);(case hr=>first|(go_simp;done)|(go_simp;rfl));(case hp=>exact (Reps.one (show Kd.M (Kd.int .i64) _ _ _ 15 [.int .i64 15] from rfl) (Reps.none _ _)));intro v538 w98 ho99 hb hg_ hnew_;clear hg_ hnew_;(first|rw [← Ny537.out] at ho99|(simp only [Int.reduceToNat] at ho99;rw [← Ny537.out] at ho99));have n6_:=zz00 (zz19 (by (with_reducible repeat (first|apply zz05|apply zz04|apply zz06));exact HO536.out) hb);have n7_:=zz00 (Kd.R_lower ho99 (zz22 (by repeat (first|(with_reducible first|exact HB.out|apply zz03|apply zz01|apply zz02)|exact HB.out))));have n8_:=zz00 (zz21 (by repeat (first|(with_reducible first|exact HB.out|apply zz03|apply zz01|apply zz02)|exact HB.out)) hb);(try clear HO503);(try clear HO509);(try clear HO515);(try clear HO521);(try clear HO527);(try clear HO533);clear HO536;clear HB;have HO536:=n6_;have HO539:=n7_;have HB:=n8_;clear n6_ n7_ n8_;clear hb ho99;obtain ⟨Ao100,co100,eo100⟩:=Kd.R_slice HO536.out;subst eo100;obtain ⟨Ao101,co101,eo101⟩:=Kd.R_slice HO539.out;subst eo101)|((with_reducible refine zz23 (f:=62) rfl ?_);refine zz25 (some 88) rfl rfl Tryd.func62 (by kernel_rfl) rfl #[.slice Ao100 t534.length co100,.int .i64 4,.int .i64 a0,.int .i64 1,.slice Ao101 y537.length co101] rfl (by (try simp only [List.map_toArray,List.map_cons,List.map_nil]);first|done|rfl|(simp only [List.length_drop,List.length_take];rfl)) ?_;(with_reducible refine (r19_days.calls kj42 (fun k_=>some k_ = (.slice Ao100 t534.length co100 : Value).ownBlock) (.slice Ao100 t534.length co100) t534 4 a0 1 _ _ y537 t540 w _ ?side1 ?side2 ?side3 ?side4 A61.out).mono ?_);(case side1=>repeat (first|(with_reducible first|exact HB.out|apply zz03|apply zz01|apply zz02)|exact HB.out));(case side2=>exact Kd.R_tight rfl HO536.out);(case side3=>exact Kd.C_kept_own ((Kd.R_apart' HO539.out (Kd.R_typed HO536.out) (by decide))) (fun k_ hk_ hs_=>(hk_.2) hs_));(case side4=>exact (Kd.R_reads' HO539.out).2.1);rintro e w102 ⟨v541,rfl,ho0,hb,hkp⟩;refine ⟨_,rfl,?_⟩;have n7_:=zz00 (Kd.R_mono (ok':=fun k_=>True) ho0 (fun k_ hk_=>trivial));have n8_:=zz00 (hb);(try clear HO503);(try clear HO509);(try clear HO515);(try clear HO521);(try clear HO527);(try clear HO533);(try clear HO539);clear HB;clear HO536;have HO542:=n7_;have HB:=n8_;clear n7_ n8_;(try clear hb);(try clear hkp);(try clear ho0))|((with_reducible refine zz24 (N:=91) rfl ?_);refine Kd.R_lit (Kd.int .i64) _ 3 ?hg (N:=91) ?hd (xs:=([16] : List Int)) (inner:=[.int .i64 16]) (ok:=fun _=>True) (okp:=fun _=>True) ?hr ?hp (fun _ hk=>hk) trivial (Below.refl _ _) (Nat.le_refl _) (by simp) ?_;(case hd=>rfl);(case hg=>rfl);(case hr=>first|(go_simp;done)|(go_simp;rfl));(case hp=>exact (Reps.one (show Kd.M (Kd.int .i64) _ _ _ 16 [.int .i64 16] from rfl) (Reps.none _ _)));intro v544 w103 ho104 hb hg_ hnew_;clear hg_ hnew_;(first|rw [← Ny543.out] at ho104|(simp only [Int.reduceToNat] at ho104;rw [← Ny543.out] at ho104));have n7_:=zz00 (zz19 (by (with_reducible repeat (first|apply zz05|apply zz04|apply zz06));exact HO542.out) hb);have n8_:=zz00 (Kd.R_lower ho104 (zz22 (by repeat (first|(with_reducible first|exact HB.out|apply zz03|apply zz01|apply zz02)|exact HB.out))));have n9_:=zz00 (zz21 (by repeat (first|(with_reducible first|exact HB.out|apply zz03|apply zz01|apply zz02)|exact HB.out)) hb);(try clear HO503);(try clear HO509);(try clear HO515);(try clear HO521);(try clear HO527);(try clear HO533);(try clear HO539);clear HO542;clear HB;have HO542:=n7_;have HO545:=n8_;have HB:=n9_;clear n7_ n8_ n9_;clear hb ho104;obtain ⟨Ao105,co105,eo105⟩:=Kd.R_slice HO542.out;subst eo105;obtain ⟨Ao106,co106,eo106⟩:=Kd.R_slice HO545.out;subst eo106)|((with_reducible refine zz23 (f:=62) rfl ?_);refine zz25 (some 92) rfl rfl Tryd.func62 (by kernel_rfl) rfl #[.slice Ao105 t540.length co105,.int .i64 5,.int .i64 a0,.int .i64 1,.slice Ao106 y543.length co106] rfl (by (try simp only [List.map_toArray,List.map_cons,List.map_nil]);first|done|rfl|(simp only [List.length_drop,List.length_take];rfl)) ?_;(with_reducible refine (r19_days.calls kj42 (fun k_=>some k_ = (.slice Ao105 t540.length co105 : Value).ownBlock) (.slice Ao105 t540.length co105) t540 5 a0 1 _ _ y543 t546 w _ ?side1 ?side2 ?side3 ?side4 A62.out).mono ?_);(case side1=>repeat (first|(with_reducible first|exact HB.out|apply zz03|apply zz01|apply zz02)|exact HB.out));(case side2=>exact Kd.R_tight rfl HO542.out);(case side3=>exact Kd.C_kept_own ((Kd.R_apart' HO545.out (Kd.R_typed HO542.out) (by decide))) (fun k_ hk_ hs_=>(hk_.2) hs_));(case side4=>exact (Kd.R_reads' HO545.out).2.1);rintro e w107 ⟨v547,rfl,ho0,hb,hkp⟩;refine ⟨_,rfl,?_⟩;have n8_:=zz00 (Kd.R_mono (ok':=fun k_=>True) ho0 (fun k_ hk_=>trivial));have n9_:=zz00 (hb);(try clear HO503);(try clear HO509);(try clear HO515);(try clear HO521);(try clear HO527);(try clear HO533);(try clear HO539);(try clear HO545);clear HB;clear HO542;have HO548:=n8_;have HB:=n9_;clear n8_ n9_;(try clear hb);(try clear hkp);(try clear ho0))|((with_reducible refine zz24 (N:=95) rfl ?_);refine Kd.R_lit (Kd.int .i64) _ 3 ?hg (N:=95) ?hd (xs:=([22] : List Int)) (inner:=[.int .i64 22]) (ok:=fun _=>True) (okp:=fun _=>True) ?hr ?hp (fun _ hk=>hk) trivial (Below.refl _ _) (Nat.le_refl _) (by simp) ?_;(case hd=>rfl);(case hg=>rfl);(case hr=>first|(go_simp;done)|(go_simp;rfl));(case hp=>exact (Reps.one (show Kd.M (Kd.int .i64) _ _ _ 22 [.int .i64 22] from rfl) (Reps.none _ _)));intro v550 w108 ho109 hb hg_ hnew_;clear hg_ hnew_;(first|rw [← Ny549.out] at ho109|(simp only [Int.reduceToNat] at ho109;rw [← Ny549.out] at ho109));have n8_:=zz00 (zz19 (by (with_reducible repeat (first|apply zz05|apply zz04|apply zz06));exact HO548.out) hb);have n9_:=zz00 (Kd.R_lower ho109 (zz22 (by repeat (first|(with_reducible first|exact HB.out|apply zz03|apply zz01|apply zz02)|exact HB.out))));have n10_:=zz00 (zz21 (by repeat (first|(with_reducible first|exact HB.out|apply zz03|apply zz01|apply zz02)|exact HB.out)) hb);(try clear HO503);(try clear HO509);(try clear HO515);(try clear HO521);(try clear HO527);(try clear HO533);(try clear HO539);(try clear HO545);clear HO548;clear HB;have HO548:=n8_;have HO551:=n9_;have HB:=n10_;clear n8_ n9_ n10_;clear hb ho109;obtain ⟨Ao110,co110,eo110⟩:=Kd.R_slice HO548.out;subst eo110;obtain ⟨Ao111,co111,eo111⟩:=Kd.R_slice HO551.out;subst eo111)|((with_reducible refine zz23 (f:=62) rfl ?_);refine zz25 (some 96) rfl rfl Tryd.func62 (by kernel_rfl) rfl #[.slice Ao110 t546.length co110,.int .i64 8,.int .i64 a0,.int .i64 1,.slice Ao111 y549.length co111] rfl (by (try simp only [List.map_toArray,List.map_cons,List.map_nil]);first|done|rfl|(simp only [List.length_drop,List.length_take];rfl)) ?_;(with_reducible refine (r19_days.calls kj42 (fun k_=>some k_ = (.slice Ao110 t546.length co110 : Value).ownBlock) (.slice Ao110 t546.length co110) t546 8 a0 1 _ _ y549 t552 w _ ?side1 ?side2 ?side3 ?side4 A63.out).mono ?_);(case side1=>repeat (first|(with_reducible first|exact HB.out|apply zz03|apply zz01|apply zz02)|exact HB.out));(case side2=>exact Kd.R_tight rfl HO548.out);(case side3=>exact Kd.C_kept_own ((Kd.R_apart' HO551.out (Kd.R_typed HO548.out) (by decide))) (fun k_ hk_ hs_=>(hk_.2) hs_));(case side4=>exact (Kd.R_reads' HO551.out).2.1);rintro e w112 ⟨v553,rfl,ho0,hb,hkp⟩;refine ⟨_,rfl,?_⟩;have n9_:=zz00 (Kd.R_mono (ok':=fun k_=>True) ho0 (fun k_ hk_=>trivial));have n10_:=zz00 (hb);(try clear HO503);(try clear HO509);(try clear HO515);(try clear HO521);(try clear HO527);(try clear HO533);(try clear HO539);(try clear HO545);(try clear HO551);clear HB;clear HO548;have HO554:=n9_;have HB:=n10_;clear n9_ n10_;(try clear hb);(try clear hkp);(try clear ho0))|((with_reducible refine zz24 (N:=99) rfl ?_);refine Kd.R_lit (Kd.int .i64) _ 3 ?hg (N:=99) ?hd (xs:=([15,21] : List Int)) (inner:=[.int .i64 15,.int .i64 21]) (ok:=fun _=>True) (okp:=fun _=>True) ?hr ?hp (fun _ hk=>hk) trivial (Below.refl _ _) (Nat.le_refl _) (by simp) ?_;(case hd=>rfl);(case hg=>rfl);(case hr=>first|(go_simp;done)|(go_simp;rfl));(case hp=>exact (Reps.one (show Kd.M (Kd.int .i64) _ _ _ 15 [.int .i64 15] from rfl) (Reps.one (show Kd.M (Kd.int .i64) _ _ _ 21 [.int .i64 21] from rfl) (Reps.none _ _))));intro v556 w113 ho114 hb hg_ hnew_;clear hg_ hnew_;(first|rw [← Ny555.out] at ho114|(simp only [Int.reduceToNat] at ho114;rw [← Ny555.out] at ho114));have n9_:=zz00 (zz19 (by (with_reducible repeat (first|apply zz05|apply zz04|apply zz06));exact HO554.out) hb);have n10_:=zz00 (Kd.R_lower ho114 (zz22 (by repeat (first|(with_reducible first|exact HB.out|apply zz03|apply zz01|apply zz02)|exact HB.out))));have n11_:=zz00 (zz21 (by repeat (first|(with_reducible first|exact HB.out|apply zz03|apply zz01|apply zz02)|exact HB.out)) hb);(try clear HO503);(try clear HO509);(try clear HO515);(try clear HO521);(try clear HO527);(try clear HO533);(try clear HO539);(try clear HO545);(try clear HO551);clear HO554;clear HB;have HO554:=n9_;have HO557:=n10_;have HB:=n11_;clear n9_ n10_ n11_;clear hb ho114;obtain ⟨Ao115,co115,eo115⟩:=Kd.R_slice HO554.out;subst eo115;obtain ⟨Ao116,co116,eo116⟩:=Kd.R_slice HO557.out;subst eo116)|((with_reducible refine zz23 (f:=62) rfl ?_);refine zz25 (some 100) rfl rfl Tryd.func62 (by kernel_rfl) rfl #[.slice Ao115 t552.length co115,.int .i64 17,.int .i64 a0,.int .i64 7,.slice Ao116 y555.length co116] rfl (by (try simp only [List.map_toArray,List.map_cons,List.map_nil]);first|done|rfl|(simp only [List.length_drop,List.length_take];rfl)) ?_;(with_reducible refine (r19_days.calls kj42 (fun k_=>some k_ = (.slice Ao115 t552.length co115 : Value).ownBlock) (.slice Ao115 t552.length co115) t552 17 a0 7 _ _ y555 t558 w _ ?side1 ?side2 ?side3 ?side4 A64.out).mono ?_);(case side1=>repeat (first|(with_reducible first|exact HB.out|apply zz03|apply zz01|apply zz02)|exact HB.out));(case side2=>exact Kd.R_tight rfl HO554.out);(case side3=>exact Kd.C_kept_own ((Kd.R_apart' HO557.out (Kd.R_typed HO554.out) (by decide))) (fun k_ hk_ hs_=>(hk_.2) hs_));(case side4=>exact (Kd.R_reads' HO557.out).2.1);rintro e w117 ⟨v559,rfl,ho0,hb,hkp⟩;refine ⟨_,rfl,?_⟩;have n10_:=zz00 (Kd.R_mono (ok':=fun k_=>True) ho0 (fun k_ hk_=>trivial));have n11_:=zz00 (hb);(try clear HO503);(try clear HO509);(try clear HO515);(try clear HO521);(try clear HO527);(try clear HO533);(try clear HO539);(try clear HO545);(try clear HO551);(try clear HO557);clear HB;clear HO554;have HO560:=n10_;have HB:=n11_;clear n10_ n11_;(try clear hb);(try clear hkp);(try clear ho0))|((with_reducible refine zz24 (N:=103) rfl ?_);refine Kd.R_lit (Kd.int .i64) _ 3 ?hg (N:=103) ?hd (xs:=([16] : List Int)) (inner:=[.int .i64 16]) (ok:=fun _=>True) (okp:=fun _=>True) ?hr ?hp (fun _ hk=>hk) trivial (Below.refl _ _) (Nat.le_refl _) (by simp) ?_;(case hd=>rfl);(case hg=>rfl);(case hr=>first|(go_simp;done)|(go_simp;rfl));(case hp=>exact (Reps.one (show Kd.M (Kd.int .i64) _ _ _ 16 [.int .i64 16] from rfl) (Reps.none _ _)));intro v562 w118 ho119 hb hg_ hnew_;clear hg_ hnew_;(first|rw [← Ny561.out] at ho119|(simp only [Int.reduceToNat] at ho119;rw [← Ny561.out] at ho119));have n10_:=zz00 (zz19 (by (with_reducible repeat (first|apply zz05|apply zz04|apply zz06));exact HO560.out) hb);have n11_:=zz00 (Kd.R_lower ho119 (zz22 (by repeat (first|(with_reducible first|exact HB.out|apply zz03|apply zz01|apply zz02)|exact HB.out))));have n12_:=zz00 (zz21 (by repeat (first|(with_reducible first|exact HB.out|apply zz03|apply zz01|apply zz02)|exact HB.out)) hb);(try clear HO503);(try clear HO509);(try clear HO515);(try clear HO521);(try clear HO527);(try clear HO533);(try clear HO539);(try clear HO545);(try clear HO551);(try clear HO557);clear HO560;clear HB;have HO560:=n10_;have HO563:=n11_;have HB:=n12_;clear n10_ n11_ n12_;clear hb ho119;obtain ⟨Ao120,co120,eo120⟩:=Kd.R_slice HO560.out;subst eo120;obtain ⟨Ao121,co121,eo121⟩:=Kd.R_slice HO563.out;subst eo121)|((with_reducible refine zz23 (f:=62) rfl ?_);refine zz25 (some 104) rfl rfl Tryd.func62 (by kernel_rfl) rfl #[.slice Ao120 t558.length co120,.int .i64 18,.int .i64 a0,.int .i64 7,.slice Ao121 y561.length co121] rfl (by (try simp only [List.map_toArray,List.map_cons,List.map_nil]);first|done|rfl|(simp only [List.length_drop,List.length_take];rfl)) ?_;(with_reducible refine (r19_days.calls kj42 (fun k_=>some k_ = (.slice Ao120 t558.length co120 : Value).ownBlock) (.slice Ao120 t558.length co120) t558 18 a0 7 _ _ y561 t564 w _ ?side1 ?side2 ?side3 ?side4 A65.out).mono ?_);(case side1=>repeat (first|(with_reducible first|exact HB.out|apply zz03|apply zz01|apply zz02)|exact HB.out));(case side2=>exact Kd.R_tight rfl HO560.out);(case side3=>exact Kd.C_kept_own ((Kd.R_apart' HO563.out (Kd.R_typed HO560.out) (by decide))) (fun k_ hk_ hs_=>(hk_.2) hs_));(case side4=>exact (Kd.R_reads' HO563.out).2.1);rintro e w122 ⟨v565,rfl,ho0,hb,hkp⟩;refine ⟨_,rfl,?_⟩;have n11_:=zz00 (Kd.R_mono (ok':=fun k_=>True) ho0 (fun k_ hk_=>trivial));have n12_:=zz00 (hb);(try clear HO503);(try clear HO509);(try clear HO515);(try clear HO521);(try clear HO527);(try clear HO533);(try clear HO539);(try clear HO545);(try clear HO551);(try clear HO557);(try clear HO563);clear HB;clear HO560;have HO566:=n11_;have HB:=n12_;clear n11_ n12_;(try clear hb);(try clear hkp);(try clear ho0))|((with_reducible refine zz24 (N:=107) rfl ?_);refine Kd.R_lit (Kd.int .i64) _ 3 ?hg (N:=107) ?hd (xs:=([6] : List Int)) (inner:=[.int .i64 6]) (ok:=fun _=>True) (okp:=fun _=>True) ?hr ?hp (fun _ hk=>hk) trivial (Below.refl _ _) (Nat.le_refl _) (by simp) ?_;(case hd=>rfl);(case hg=>rfl);(case hr=>first|(go_simp;done)|(go_simp;rfl));(case hp=>exact (Reps.one (show Kd.M (Kd.int .i64) _ _ _ 6 [.int .i64 6] from rfl) (Reps.none _ _)));intro v568 w123 ho124 hb hg_ hnew_;clear hg_ hnew_;(first|rw [← Ny567.out] at ho124|(simp only [Int.reduceToNat] at ho124;rw [← Ny567.out] at ho124));have n11_:=zz00 (zz19 (by (with_reducible repeat (first|apply zz05|apply zz04|apply zz06));exact HO566.out) hb);have n12_:=zz00 (Kd.R_lower ho124 (zz22 (by repeat (first|(with_reducible first|exact HB.out|apply zz03|apply zz01|apply zz02)|exact HB.out))));have n13_:=zz00 (zz21 (by repeat (first|(with_reducible first|exact HB.out|apply zz03|apply zz01|apply zz02)|exact HB.out)) hb);(try clear HO503);(try clear HO509);(try clear HO515);(try clear HO521);(try clear HO527);(try clear HO533);(try clear HO539);(try clear HO545);(try clear HO551);(try clear HO557);(try clear HO563);clear HO566;clear HB;have HO566:=n11_;have HO569:=n12_;have HB:=n13_;clear n11_ n12_ n13_;clear hb ho124;obtain ⟨Ao125,co125,eo125⟩:=Kd.R_slice HO566.out;subst eo125;obtain ⟨Ao126,co126,eo126⟩:=Kd.R_slice HO569.out;subst eo126)|((with_reducible refine zz23 (f:=62) rfl ?_);refine zz25 (some 108) rfl rfl Tryd.func62 (by kernel_rfl) rfl #[.slice Ao125 t564.length co125,.int .i64 25,.int .i64 a0,.int .i64 9,.slice Ao126 y567.length co126] rfl (by (try simp only [List.map_toArray,List.map_cons,List.map_nil]);first|done|rfl|(simp only [List.length_drop,List.length_take];rfl)) ?_;(with_reducible refine (r19_days.calls kj42 (fun k_=>some k_ = (.slice Ao125 t564.length co125 : Value).ownBlock) (.slice Ao125 t564.length co125) t564 25 a0 9 _ _ y567 t570 w _ ?side1 ?side2 ?side3 ?side4 A66.out).mono ?_);(case side1=>repeat (first|(with_reducible first|exact HB.out|apply zz03|apply zz01|apply zz02)|exact HB.out));(case side2=>exact Kd.R_tight rfl HO566.out);(case side3=>exact Kd.C_kept_own ((Kd.R_apart' HO569.out (Kd.R_typed HO566.out) (by decide))) (fun k_ hk_ hs_=>(hk_.2) hs_));(case side4=>exact (Kd.R_reads' HO569.out).2.1);rintro e w127 ⟨v571,rfl,ho0,hb,hkp⟩;refine ⟨_,rfl,?_⟩;have n12_:=zz00 (Kd.R_mono (ok':=fun k_=>True) ho0 (fun k_ hk_=>trivial));have n13_:=zz00 (hb);(try clear HO503);(try clear HO509);(try clear HO515);(try clear HO521);(try clear HO527);(try clear HO533);(try clear HO539);(try clear HO545);(try clear HO551);(try clear HO557);(try clear HO563);(try clear HO569);clear HB;clear HO566;have HO572:=n12_;have HB:=n13_;clear n12_ n13_;(try clear hb);(try clear hkp);(try clear ho0);obtain ⟨Ao128,co128,eo128⟩:=Kd.R_slice HO572.out;subst eo128)|((with_reducible refine zz23 (f:=40) rfl ?_);refine zz25 (some 126) rfl rfl Tryd.func40 (by kernel_rfl) rfl #[.slice Ao128 t570.length co128] rfl (by (try simp only [List.map_toArray,List.map_cons,List.map_nil]);first|done|rfl|(simp only [List.length_drop,List.length_take];rfl)) ?_;(with_reducible refine (r19_Sort.calls kj42 _ _ t570 t573 _ ?side1 ?side2 A67.out).mono ?_);(case side1=>repeat (first|exact (Kd.R_reads' HO572.out).2.2|(with_reducible refine Kd.C_alloc ?_ _)|(with_reducible refine Kd.C_drewN ?_ _)|(with_reducible refine Kd.C_drew ?_)));(case side2=>exact (Kd.R_reads' HO572.out).2.1);rintro e w129 ⟨v574,rfl,ho0,hb⟩;refine ⟨_,rfl,?_⟩;have n12_:=zz00 (zz20 (by (with_reducible repeat (first|apply zz05|apply zz04|apply zz06));exact HO572.out) (Kd.R_base ho0) hb);have n13_:=zz00 (Kd.R_lower (Kd.R_new' ho0 (Kd.R_lt (by (with_reducible repeat (first|apply zz05|apply zz04|apply zz06));exact HO572.out))) (zz22 (by repeat (first|(with_reducible first|exact HB.out|apply zz03|apply zz01|apply zz02)|exact HB.out))));have n14_:=zz00 (zz21 (by repeat (first|(with_reducible first|exact HB.out|apply zz03|apply zz01|apply zz02)|exact HB.out)) hb);(try clear HO503);(try clear HO509);(try clear HO515);(try clear HO521);(try clear HO527);(try clear HO533);(try clear HO539);(try clear HO545);(try clear HO551);(try clear HO557);(try clear HO563);(try clear HO569);clear HO572;clear HB;have HO572:=n12_;have HO575:=n13_;have HB:=n14_;clear n12_ n13_ n14_;(try clear hb);(try clear hb2);(try clear hk);(try clear hi);(try clear ho0)))
         go_ret2
         exact ⟨_,by first|rfl|(simp [errW_none,errW_some] <;> rfl)|(simp [*,errW_none,errW_some] <;> rfl),by (with_reducible repeat (first|apply zz05|apply zz04|apply zz06));exact Kd.R_mono HO575.out (fun _ hk=>trivial),by repeat (first|(with_reducible first|exact HB.out|apply zz03|apply zz01|apply zz02)|exact HB.out)⟩
        ·
         rw [if_neg c60] at H
         have c60b0 : (a1 == 1) = false := zz27.mpr c60
         have c60b1 : (a1 != 1) = true := zz28.mpr c60
         obtain ⟨y576, hy576⟩ : ∃ y_ : List Int, y_ = (([15, 16] : List Int)) := ⟨_, rfl⟩
         replace H : ((r19_days.f kj42 t534 4 a0 1 y576).bind fun t579=>((r19_days.f kj42 t579 8 a0 1 (([23] : List Int))).bind fun t585=>((r19_days.f kj42 t585 17 a0 7 (([15,16,21,22] : List Int))).bind fun t591=>((r19_days.f kj42 t591 25 a0 9 (([6,7] : List Int))).bind fun t597=>((r19_Sort.f kj42 t597).bind fun t600=>(some (t600,0))))))) = some (r1,r2):=by first|(rw [hy576];with_reducible exact H)|(have H2_:=(Option.bind_some _ _).symm.trans H;rw [hy576];with_reducible exact H2_)|(have H2_:=(Option.bind_some _ _).symm.trans H;with_reducible exact H2_)|with_reducible exact H|(rw [hy576];exact H)|exact H
         have Ny576 := zz00 hy576
         clear hy576
         replace H := zz14.mp H
         obtain ⟨t579, A1300, H⟩ := H
         replace H : ((r19_days.f kj42 t579 8 a0 1 (([23] : List Int))).bind fun t585=>((r19_days.f kj42 t585 17 a0 7 (([15,16,21,22] : List Int))).bind fun t591=>((r19_days.f kj42 t591 25 a0 9 (([6,7] : List Int))).bind fun t597=>((r19_Sort.f kj42 t597).bind fun t600=>(some (t600,0)))))) = some (r1,r2):=H
         have A130 := zz00 A1300
         clear A1300
         obtain ⟨y582, hy582⟩ : ∃ y_ : List Int, y_ = (([23] : List Int)) := ⟨_, rfl⟩
         replace H : ((r19_days.f kj42 t579 8 a0 1 y582).bind fun t585=>((r19_days.f kj42 t585 17 a0 7 (([15,16,21,22] : List Int))).bind fun t591=>((r19_days.f kj42 t591 25 a0 9 (([6,7] : List Int))).bind fun t597=>((r19_Sort.f kj42 t597).bind fun t600=>(some (t600,0)))))) = some (r1,r2):=by first|(rw [hy582];with_reducible exact H)|(have H2_:=(Option.bind_some _ _).symm.trans H;rw [hy582];with_reducible exact H2_)|(have H2_:=(Option.bind_some _ _).symm.trans H;with_reducible exact H2_)|with_reducible exact H|(rw [hy582];exact H)|exact H
         have Ny582 := zz00 hy582
         clear hy582
         replace H := zz14.mp H
         obtain ⟨t585, A1310, H⟩ := H
         replace H : ((r19_days.f kj42 t585 17 a0 7 (([15,16,21,22] : List Int))).bind fun t591=>((r19_days.f kj42 t591 25 a0 9 (([6,7] : List Int))).bind fun t597=>((r19_Sort.f kj42 t597).bind fun t600=>(some (t600,0))))) = some (r1,r2):=H
         have A131 := zz00 A1310
         clear A1310
         obtain ⟨y588, hy588⟩ : ∃ y_ : List Int, y_ = (([15, 16, 21, 22] : List Int)) := ⟨_, rfl⟩
         replace H : ((r19_days.f kj42 t585 17 a0 7 y588).bind fun t591=>((r19_days.f kj42 t591 25 a0 9 (([6,7] : List Int))).bind fun t597=>((r19_Sort.f kj42 t597).bind fun t600=>(some (t600,0))))) = some (r1,r2):=by first|(rw [hy588];with_reducible exact H)|(have H2_:=(Option.bind_some _ _).symm.trans H;rw [hy588];with_reducible exact H2_)|(have H2_:=(Option.bind_some _ _).symm.trans H;with_reducible exact H2_)|with_reducible exact H|(rw [hy588];exact H)|exact H
         have Ny588 := zz00 hy588
         clear hy588
         replace H := zz14.mp H
         obtain ⟨t591, A1320, H⟩ := H
         replace H : ((r19_days.f kj42 t591 25 a0 9 (([6, 7] : List Int))).bind fun t597 => ((r19_Sort.f kj42 t597).bind fun t600 => (some (t600, 0)))) = some (r1, r2) := H
         have A132 := zz00 A1320
         clear A1320
         obtain ⟨y594, hy594⟩ : ∃ y_ : List Int, y_ = (([6, 7] : List Int)) := ⟨_, rfl⟩
         replace H : ((r19_days.f kj42 t591 25 a0 9 y594).bind fun t597=>((r19_Sort.f kj42 t597).bind fun t600=>(some (t600,0)))) = some (r1,r2):=by first|(rw [hy594];with_reducible exact H)|(have H2_:=(Option.bind_some _ _).symm.trans H;rw [hy594];with_reducible exact H2_)|(have H2_:=(Option.bind_some _ _).symm.trans H;with_reducible exact H2_)|with_reducible exact H|(rw [hy594];exact H)|exact H
         have Ny594 := zz00 hy594
         clear hy594
         replace H := zz14.mp H
         obtain ⟨t597, A1330, H⟩ := H
         replace H : ((r19_Sort.f kj42 t597).bind fun t600 => (some (t600, 0))) = some (r1, r2) := H
         have A133 := zz00 A1330
         clear A1330
         replace H := zz14.mp H
         obtain ⟨t600, A1340, H⟩ := H
         replace H : (some (t600, 0)) = some (r1, r2) := H
         have A134 := zz00 A1340
         clear A1340
         simp only [zz15, zz16] at H
         obtain ⟨rfl, rfl⟩ := H
         go_wp2_with (first|((with_reducible refine zz24 (N:=61) rfl ?_);refine Kd.R_lit (Kd.int .i64) _ 3 ?hg (N:=61) ?hd (xs:=([14] : List Int)) (inner:=[.int .i64 14]) (ok:=fun _=>True) (okp:=fun _=>True) ?hr ?hp (fun _ hk=>hk) trivial (Below.refl _ _) (Nat.le_refl _) (by simp) ?_;(case hd=>rfl);(case hg=>rfl);(case hr=>first|(go_simp;done)|(go_simp;rfl));(case hp=>exact (Reps.one (show Kd.M (Kd.int .i64) _ _ _ 14 [.int .i64 14] from rfl) (Reps.none _ _)));intro v502 w135 ho136 hb hg_ hnew_;clear hg_ hnew_;(first|rw [← Ny501.out] at ho136|(simp only [Int.reduceToNat] at ho136;rw [← Ny501.out] at ho136));have n0_:=zz00 (zz19 (by (with_reducible repeat (first|apply zz05|apply zz04|apply zz06));exact HO_6.out) hb);have n1_:=zz00 (Kd.R_lower ho136 (zz22 (by repeat (first|(with_reducible first|exact HB.out|apply zz03|apply zz01|apply zz02)|exact HB.out))));have n2_:=zz00 (zz21 (by repeat (first|(with_reducible first|exact HB.out|apply zz03|apply zz01|apply zz02)|exact HB.out)) hb);clear HO_6;clear HB;have HO_6:=n0_;have HO503:=n1_;have HB:=n2_;clear n0_ n1_ n2_;clear hb ho136;obtain ⟨Ao137,co137,eo137⟩:=Kd.R_slice HO_6.out;subst eo137;obtain ⟨Ao138,co138,eo138⟩:=Kd.R_slice HO503.out;subst eo138)|((with_reducible refine zz23 (f:=62) rfl ?_);refine zz25 (some 62) rfl rfl Tryd.func62 (by kernel_rfl) rfl #[.slice Ao137 x6_42.length co137,.int .i64 14,.int .i64 a0,.int .i64 6,.slice Ao138 y501.length co138] rfl (by (try simp only [List.map_toArray,List.map_cons,List.map_nil]);first|done|rfl|(simp only [List.length_drop,List.length_take];rfl)) ?_;(with_reducible refine (r19_days.calls kj42 (fun k_=>some k_ = (.slice Ao137 x6_42.length co137 : Value).ownBlock) (.slice Ao137 x6_42.length co137) x6_42 14 a0 6 _ _ y501 t504 w _ ?side1 ?side2 ?side3 ?side4 A54.out).mono ?_);(case side1=>repeat (first|(with_reducible first|exact HB.out|apply zz03|apply zz01|apply zz02)|exact HB.out));(case side2=>exact Kd.R_tight rfl HO_6.out);(case side3=>exact Kd.C_kept_own ((Kd.R_apart' HO503.out (Kd.R_typed HO_6.out) (by decide))) (fun k_ hk_ hs_=>(hk_.2) hs_));(case side4=>exact (Kd.R_reads' HO503.out).2.1);rintro e w139 ⟨v505,rfl,ho0,hb,hkp⟩;refine ⟨_,rfl,?_⟩;have n1_:=zz00 (Kd.R_mono (ok':=fun k_=>True) ho0 (fun k_ hk_=>trivial));have n2_:=zz00 (hb);(try clear HO503);clear HB;clear HO_6;have HO506:=n1_;have HB:=n2_;clear n1_ n2_;(try clear hb);(try clear hkp);(try clear ho0))|((with_reducible refine zz24 (N:=65) rfl ?_);refine Kd.R_lit (Kd.int .i64) _ 3 ?hg (N:=65) ?hd (xs:=([15] : List Int)) (inner:=[.int .i64 15]) (ok:=fun _=>True) (okp:=fun _=>True) ?hr ?hp (fun _ hk=>hk) trivial (Below.refl _ _) (Nat.le_refl _) (by simp) ?_;(case hd=>rfl);(case hg=>rfl);(case hr=>first|(go_simp;done)|(go_simp;rfl));(case hp=>exact (Reps.one (show Kd.M (Kd.int .i64) _ _ _ 15 [.int .i64 15] from rfl) (Reps.none _ _)));intro v508 w140 ho141 hb hg_ hnew_;clear hg_ hnew_;(first|rw [← Ny507.out] at ho141|(simp only [Int.reduceToNat] at ho141;rw [← Ny507.out] at ho141));have n1_:=zz00 (zz19 (by (with_reducible repeat (first|apply zz05|apply zz04|apply zz06));exact HO506.out) hb);have n2_:=zz00 (Kd.R_lower ho141 (zz22 (by repeat (first|(with_reducible first|exact HB.out|apply zz03|apply zz01|apply zz02)|exact HB.out))));have n3_:=zz00 (zz21 (by repeat (first|(with_reducible first|exact HB.out|apply zz03|apply zz01|apply zz02)|exact HB.out)) hb);(try clear HO503);clear HO506;clear HB;have HO506:=n1_;have HO509:=n2_;have HB:=n3_;clear n1_ n2_ n3_;clear hb ho141;obtain ⟨Ao142,co142,eo142⟩:=Kd.R_slice HO506.out;subst eo142;obtain ⟨Ao143,co143,eo143⟩:=Kd.R_slice HO509.out;subst eo143)|((with_reducible refine zz23 (f:=62) rfl ?_);refine zz25 (some 66) rfl rfl Tryd.func62 (by kernel_rfl) rfl #[.slice Ao142 t504.length co142,.int .i64 15,.int .i64 a0,.int .i64 6,.slice Ao143 y507.length co143] rfl (by (try simp only [List.map_toArray,List.map_cons,List.map_nil]);first|done|rfl|(simp only [List.length_drop,List.length_take];rfl)) ?_;(with_reducible refine (r19_days.calls kj42 (fun k_=>some k_ = (.slice Ao142 t504.length co142 : Value).ownBlock) (.slice Ao142 t504.length co142) t504 15 a0 6 _ _ y507 t510 w _ ?side1 ?side2 ?side3 ?side4 A55.out).mono ?_);(case side1=>repeat (first|(with_reducible first|exact HB.out|apply zz03|apply zz01|apply zz02)|exact HB.out));(case side2=>exact Kd.R_tight rfl HO506.out);(case side3=>exact Kd.C_kept_own ((Kd.R_apart' HO509.out (Kd.R_typed HO506.out) (by decide))) (fun k_ hk_ hs_=>(hk_.2) hs_));(case side4=>exact (Kd.R_reads' HO509.out).2.1);rintro e w144 ⟨v511,rfl,ho0,hb,hkp⟩;refine ⟨_,rfl,?_⟩;have n2_:=zz00 (Kd.R_mono (ok':=fun k_=>True) ho0 (fun k_ hk_=>trivial));have n3_:=zz00 (hb);(try clear HO503);(try clear HO509);clear HB;clear HO506;have HO512:=n2_;have HB:=n3_;clear n2_ n3_;(try clear hb);(try clear hkp);(try clear ho0))|((with_reducible refine zz24 (N:=69) rfl ?_);refine Kd.R_lit (Kd.int .i64) _ 3 ?hg (N:=69) ?hd (xs:=([17,18,19,20] : List Int)) (inner:=[.int .i64 17,.int .i64 18,.int .i64 19,.int .i64 20]) (ok:=fun _=>True) (okp:=fun _=>True) ?hr ?hp (fun _ hk=>hk) trivial (Below.refl _ _) (Nat.le_refl _) (by simp) ?_;(case hd=>rfl);(case hg=>rfl);(case hr=>first|(go_simp;done)|(go_simp;rfl));(case hp=>exact (Reps.one (show Kd.M (Kd.int .i64) _ _ _ 17 [.int .i64 17] from rfl) (Reps.one (show Kd.M (Kd.int .i64) _ _ _ 18 [.int .i64 18] from rfl) (Reps.one (show Kd.M (Kd.int .i64) _ _ _ 19 [.int .i64 19] from rfl) (Reps.one (show Kd.M (Kd.int .i64) _ _ _ 20 [.int .i64 20] from rfl) (Reps.none _ _))))));intro v514 w145 ho146 hb hg_ hnew_;clear hg_ hnew_;(first|rw [← Ny513.out] at ho146|(simp only [Int.reduceToNat] at ho146;rw [← Ny513.out] at ho146));have n2_:=zz00 (zz19 (by (with_reducible repeat (first|apply zz05|apply zz04|apply zz06));exact HO512.out) hb);have n3_:=zz00 (Kd.R_lower ho146 (zz22 (by repeat (first|(with_reducible first|exact HB.out|apply zz03|apply zz01|apply zz02)|exact HB.out))));have n4_:=zz00 (zz21 (by repeat (first|(with_reducible first|exact HB.out|apply zz03|apply zz01|apply zz02)|exact HB.out)) hb);(try clear HO503);(try clear HO509);clear HO512;clear HB;have HO512:=n2_;have HO515:=n3_;have HB:=n4_;clear n2_ n3_ n4_;clear hb ho146;obtain ⟨Ao147,co147,eo147⟩:=Kd.R_slice HO512.out;subst eo147;obtain ⟨Ao148,co148,eo148⟩:=Kd.R_slice HO515.out;subst eo148)|((with_reducible refine zz23 (f:=62) rfl ?_);refine zz25 (some 70) rfl rfl Tryd.func62 (by kernel_rfl) rfl #[.slice Ao147 t510.length co147,.int .i64 18,.int .i64 a0,.int .i64 7,.slice Ao148 y513.length co148] rfl (by (try simp only [List.map_toArray,List.map_cons,List.map_nil]);first|done|rfl|(simp only [List.length_drop,List.length_take];rfl)) ?_;(with_reducible refine (r19_days.calls kj42 (fun k_=>some k_ = (.slice Ao147 t510.length co147 : Value).ownBlock) (.slice Ao147 t510.length co147) t510 18 a0 7 _ _ y513 t516 w _ ?side1 ?side2 ?side3 ?side4 A56.out).mono ?_);(case side1=>repeat (first|(with_reducible first|exact HB.out|apply zz03|apply zz01|apply zz02)|exact HB.out));(case side2=>exact Kd.R_tight rfl HO512.out);(case side3=>exact Kd.C_kept_own ((Kd.R_apart' HO515.out (Kd.R_typed HO512.out) (by decide))) (fun k_ hk_ hs_=>(hk_.2) hs_));(case side4=>exact (Kd.R_reads' HO515.out).2.1);rintro e w149 ⟨v517,rfl,ho0,hb,hkp⟩;refine ⟨_,rfl,?_⟩;have n3_:=zz00 (Kd.R_mono (ok':=fun k_=>True) ho0 (fun k_ hk_=>trivial));have n4_:=zz00 (hb);(try clear HO503);(try clear HO509);(try clear HO515);clear HB;clear HO512;have HO518:=n3_;have HB:=n4_;clear n3_ n4_;(try clear hb);(try clear hkp);(try clear ho0))|((with_reducible refine zz24 (N:=73) rfl ?_);refine Kd.R_lit (Kd.int .i64) _ 3 ?hg (N:=73) ?hd (xs:=([14] : List Int)) (inner:=[.int .i64 14]) (ok:=fun _=>True) (okp:=fun _=>True) ?hr ?hp (fun _ hk=>hk) trivial (Below.refl _ _) (Nat.le_refl _) (by simp) ?_;(case hd=>rfl);(case hg=>rfl);(case hr=>first|(go_simp;done)|(go_simp;rfl));(case hp=>exact (Reps.one (show Kd.M (Kd.int .i64) _ _ _ 14 [.int .i64 14] from rfl) (Reps.none _ _)));intro v520 w150 ho151 hb hg_ hnew_;clear hg_ hnew_;(first|rw [← Ny519.out] at ho151|(simp only [Int.reduceToNat] at ho151;rw [← Ny519.out] at ho151));have n3_:=zz00 (zz19 (by (with_reducible repeat (first|apply zz05|apply zz04|apply zz06));exact HO518.out) hb);have n4_:=zz00 (Kd.R_lower ho151 (zz22 (by repeat (first|(with_reducible first|exact HB.out|apply zz03|apply zz01|apply zz02)|exact HB.out))));have n5_:=zz00 (zz21 (by repeat (first|(with_reducible first|exact HB.out|apply zz03|apply zz01|apply zz02)|exact HB.out)) hb);(try clear HO503);(try clear HO509);(try clear HO515);clear HO518;clear HB;have HO518:=n3_;have HO521:=n4_;have HB:=n5_;clear n3_ n4_ n5_;clear hb ho151;obtain ⟨Ao152,co152,eo152⟩:=Kd.R_slice HO518.out;subst eo152;obtain ⟨Ao153,co153,eo153⟩:=Kd.R_slice HO521.out;subst eo153)|((with_reducible refine zz23 (f:=62) rfl ?_);refine zz25 (some 74) rfl rfl Tryd.func62 (by kernel_rfl) rfl #[.slice Ao152 t516.length co152,.int .i64 22,.int .i64 a0,.int .i64 8,.slice Ao153 y519.length co153] rfl (by (try simp only [List.map_toArray,List.map_cons,List.map_nil]);first|done|rfl|(simp only [List.length_drop,List.length_take];rfl)) ?_;(with_reducible refine (r19_days.calls kj42 (fun k_=>some k_ = (.slice Ao152 t516.length co152 : Value).ownBlock) (.slice Ao152 t516.length co152) t516 22 a0 8 _ _ y519 t522 w _ ?side1 ?side2 ?side3 ?side4 A57.out).mono ?_);(case side1=>repeat (first|(with_reducible first|exact HB.out|apply zz03|apply zz01|apply zz02)|exact HB.out));(case side2=>exact Kd.R_tight rfl HO518.out);(case side3=>exact Kd.C_kept_own ((Kd.R_apart' HO521.out (Kd.R_typed HO518.out) (by decide))) (fun k_ hk_ hs_=>(hk_.2) hs_));(case side4=>exact (Kd.R_reads' HO521.out).2.1);rintro e w154 ⟨v523,rfl,ho0,hb,hkp⟩;refine ⟨_,rfl,?_⟩;have n4_:=zz00 (Kd.R_mono (ok':=fun k_=>True) ho0 (fun k_ hk_=>trivial));have n5_:=zz00 (hb);(try clear HO503);(try clear HO509);(try clear HO515);(try clear HO521);clear HB;clear HO518;have HO524:=n4_;have HB:=n5_;clear n4_ n5_;(try clear hb);(try clear hkp);(try clear ho0))|((with_reducible refine zz24 (N:=77) rfl ?_);refine Kd.R_lit (Kd.int .i64) _ 3 ?hg (N:=77) ?hd (xs:=([18] : List Int)) (inner:=[.int .i64 18]) (ok:=fun _=>True) (okp:=fun _=>True) ?hr ?hp (fun _ hk=>hk) trivial (Below.refl _ _) (Nat.le_refl _) (by simp) ?_;(case hd=>rfl);(case hg=>rfl);(case hr=>first|(go_simp;done)|(go_simp;rfl));(case hp=>exact (Reps.one (show Kd.M (Kd.int .i64) _ _ _ 18 [.int .i64 18] from rfl) (Reps.none _ _)));intro v526 w155 ho156 hb hg_ hnew_;clear hg_ hnew_;(first|rw [← Ny525.out] at ho156|(simp only [Int.reduceToNat] at ho156;rw [← Ny525.out] at ho156));have n4_:=zz00 (zz19 (by (with_reducible repeat (first|apply zz05|apply zz04|apply zz06));exact HO524.out) hb);have n5_:=zz00 (Kd.R_lower ho156 (zz22 (by repeat (first|(with_reducible first|exact HB.out|apply zz03|apply zz01|apply zz02)|exact HB.out))));have n6_:=zz00 (zz21 (by repeat (first|(with_reducible first|exact HB.out|apply zz03|apply zz01|apply zz02)|exact HB.out)) hb);(try clear HO503);(try clear HO509);(try clear HO515);(try clear HO521);clear HO524;clear HB;have HO524:=n4_;have HO527:=n5_;have HB:=n6_;clear n4_ n5_ n6_;clear hb ho156;obtain ⟨Ao157,co157,eo157⟩:=Kd.R_slice HO524.out;subst eo157;obtain ⟨Ao158,co158,eo158⟩:=Kd.R_slice HO527.out;subst eo158)|((with_reducible refine zz23 (f:=62) rfl ?_);refine zz25 (some 78) rfl rfl Tryd.func62 (by kernel_rfl) rfl #[.slice Ao157 t522.length co157,.int .i64 23,.int .i64 a0,.int .i64 8,.slice Ao158 y525.length co158] rfl (by (try simp only [List.map_toArray,List.map_cons,List.map_nil]);first|done|rfl|(simp only [List.length_drop,List.length_take];rfl)) ?_;(with_reducible refine (r19_days.calls kj42 (fun k_=>some k_ = (.slice Ao157 t522.length co157 : Value).ownBlock) (.slice Ao157 t522.length co157) t522 23 a0 8 _ _ y525 t528 w _ ?side1 ?side2 ?side3 ?side4 A58.out).mono ?_);(case side1=>repeat (first|(with_reducible first|exact HB.out|apply zz03|apply zz01|apply zz02)|exact HB.out));(case side2=>exact Kd.R_tight rfl HO524.out);(case side3=>exact Kd.C_kept_own ((Kd.R_apart' HO527.out (Kd.R_typed HO524.out) (by decide))) (fun k_ hk_ hs_=>(hk_.2) hs_));(case side4=>exact (Kd.R_reads' HO527.out).2.1);rintro e w159 ⟨v529,rfl,ho0,hb,hkp⟩;refine ⟨_,rfl,?_⟩;have n5_:=zz00 (Kd.R_mono (ok':=fun k_=>True) ho0 (fun k_ hk_=>trivial));have n6_:=zz00 (hb);(try clear HO503);(try clear HO509);(try clear HO515);(try clear HO521);(try clear HO527);clear HB;clear HO524;have HO530:=n5_;have HB:=n6_;clear n5_ n6_;(try clear hb);(try clear hkp);(try clear ho0))|((with_reducible refine zz24 (N:=81) rfl ?_);refine Kd.R_lit (Kd.int .i64) _ 3 ?hg (N:=81) ?hd (xs:=([15] : List Int)) (inner:=[.int .i64 15]) (ok:=fun _=>True) (okp:=fun _=>True) ?hr ?hp (fun _ hk=>hk) trivial (Below.refl _ _) (Nat.le_refl _) (by simp) ?_;(case hd=>rfl);(case hg=>rfl);(case hr=>first|(go_simp;done)|(go_simp;rfl));(case hp=>exact (Reps.one (show Kd.M (Kd.int .i64) _ _ _ 15 [.int .i64 15] from rfl) (Reps.none _ _)));intro v532 w160 ho161 hb hg_ hnew_;clear hg_ hnew_;(first|rw [← Ny531.out] at ho161|(simp only [Int.reduceToNat] at ho161;rw [← Ny531.out] at ho161));have n5_:=zz00 (zz19 (by (with_reducible repeat (first|apply zz05|apply zz04|apply zz06));exact HO530.out) hb);have n6_:=zz00 (Kd.R_lower ho161 (zz22 (by repeat (first|(with_reducible first|exact HB.out|apply zz03|apply zz01|apply zz02)|exact HB.out))));have n7_:=zz00 (zz21 (by repeat (first|(with_reducible first|exact HB.out|apply zz03|apply zz01|apply zz02)|exact HB.out)) hb);(try clear HO503);(try clear HO509);(try clear HO515);(try clear HO521);(try clear HO527);clear HO530;clear HB;have HO530:=n5_;have HO533:=n6_;have HB:=n7_;clear n5_ n6_ n7_;clear hb ho161;obtain ⟨Ao162,co162,eo162⟩:=Kd.R_slice HO530.out;subst eo162;obtain ⟨Ao163,co163,eo163⟩:=Kd.R_slice HO533.out;subst eo163)|((with_reducible refine zz23 (f:=62) rfl ?_);refine zz25 (some 82) rfl rfl Tryd.func62 (by kernel_rfl) rfl #[.slice Ao162 t528.length co162,.int .i64 28,.int .i64 a0,.int .i64 11,.slice Ao163 y531.length co163] rfl (by (try simp only [List.map_toArray,List.map_cons,List.map_nil]);first|done|rfl|(simp only [List.length_drop,List.length_take];rfl)) ?_;(with_reducible refine (r19_days.calls kj42 (fun k_=>some k_ = (.slice Ao162 t528.length co162 : Value).ownBlock) (.slice Ao162 t528.length co162) t528 28 a0 11 _ _ y531 t534 w _ ?side1 ?side2 ?side3 ?side4 A59.out).mono ?_);(case side1=>repeat (first|(with_reducible first|exact HB.out|apply zz03|apply zz01|apply zz02)|exact HB.out));(case side2=>exact Kd.R_tight rfl HO530.out);(case side3=>exact Kd.C_kept_own ((Kd.R_apart' HO533.out (Kd.R_typed HO530.out) (by decide))) (fun k_ hk_ hs_=>(hk_.2) hs_));(case side4=>exact (Kd.R_reads' HO533.out).2.1);rintro e w164 ⟨v535,rfl,ho0,hb,hkp⟩;refine ⟨_,rfl,?_⟩;have n6_:=zz00 (Kd.R_mono (ok':=fun k_=>True) ho0 (fun k_ hk_=>trivial));have n7_:=zz00 (hb);(try clear HO503);(try clear HO509);(try clear HO515);(try clear HO521);(try clear HO527);(try clear HO533);clear HB;clear HO530;have HO536:=n6_;have HB:=n7_;clear n6_ n7_;(try clear hb);(try clear hkp);(try clear ho0))|((with_reducible refine zz24 (N:=111) rfl ?_);refine Kd.R_lit (Kd.int .i64) _ 3 ?hg (N:=111) ?hd (xs:=([15,16] : List Int)) (inner:=[.int .i64 15,.int .i64 16]) (ok:=fun _=>True) (okp:=fun _=>True) ?hr ?hp (fun _ hk=>hk) trivial (Below.refl _ _) (Nat.le_refl _) (by simp) ?_;(case hd=>rfl);(case hg=>rfl);(case hr=>first|(go_simp;done)|(go_simp;rfl));(case hp=>exact (Reps.one (show Kd.M (Kd.int .i64) _ _ _ 15 [.int .i64 15] from rfl) (Reps.one (show Kd.M (Kd.int .i64) _ _ _ 16 [.int .i64 16] from rfl) (Reps.none _ _))));intro v577 w165 ho166 hb hg_ hnew_;clear hg_ hnew_;(first|rw [← Ny576.out] at ho166|(simp only [Int.reduceToNat] at ho166;rw [← Ny576.out] at ho166));have n6_:=zz00 (zz19 (by (with_reducible repeat (first|apply zz05|apply zz04|apply zz06));exact HO536.out) hb);have n7_:=zz00 (Kd.R_lower ho166 (zz22 (by repeat (first|(with_reducible first|exact HB.out|apply zz03|apply zz01|apply zz02)|exact HB.out))));have n8_:=zz00 (zz21 (by repeat (first|(with_reducible first|exact HB.out|apply zz03|apply zz01|apply zz02)|exact HB.out)) hb);(try clear HO503);(try clear HO509);(try clear HO515);(try clear HO521);(try clear HO527);(try clear HO533);clear HO536;clear HB;have HO536:=n6_;have HO578:=n7_;have HB:=n8_;clear n6_ n7_ n8_;clear hb ho166;obtain ⟨Ao167,co167,eo167⟩:=Kd.R_slice HO536.out;subst eo167;obtain ⟨Ao168,co168,eo168⟩:=Kd.R_slice HO578.out;subst eo168)|((with_reducible refine zz23 (f:=62) rfl ?_);refine zz25 (some 112) rfl rfl Tryd.func62 (by kernel_rfl) rfl #[.slice Ao167 t534.length co167,.int .i64 4,.int .i64 a0,.int .i64 1,.slice Ao168 y576.length co168] rfl (by (try simp only [List.map_toArray,List.map_cons,List.map_nil]);first|done|rfl|(simp only [List.length_drop,List.length_take];rfl)) ?_;(with_reducible refine (r19_days.calls kj42 (fun k_=>some k_ = (.slice Ao167 t534.length co167 : Value).ownBlock) (.slice Ao167 t534.length co167) t534 4 a0 1 _ _ y576 t579 w _ ?side1 ?side2 ?side3 ?side4 A130.out).mono ?_);(case side1=>repeat (first|(with_reducible first|exact HB.out|apply zz03|apply zz01|apply zz02)|exact HB.out));(case side2=>exact Kd.R_tight rfl HO536.out);(case side3=>exact Kd.C_kept_own ((Kd.R_apart' HO578.out (Kd.R_typed HO536.out) (by decide))) (fun k_ hk_ hs_=>(hk_.2) hs_));(case side4=>exact (Kd.R_reads' HO578.out).2.1);rintro e w169 ⟨v580,rfl,ho0,hb,hkp⟩;refine ⟨_,rfl,?_⟩;have n7_:=zz00 (Kd.R_mono (ok':=fun k_=>True) ho0 (fun k_ hk_=>trivial));have n8_:=zz00 (hb);(try clear HO503);(try clear HO509);(try clear HO515);(try clear HO521);(try clear HO527);(try clear HO533);(try clear HO578);clear HB;clear HO536;have HO581:=n7_;have HB:=n8_;clear n7_ n8_;(try clear hb);(try clear hkp);(try clear ho0))|((with_reducible refine zz24 (N:=115) rfl ?_);refine Kd.R_lit (Kd.int .i64) _ 3 ?hg (N:=115) ?hd (xs:=([23] : List Int)) (inner:=[.int .i64 23]) (ok:=fun _=>True) (okp:=fun _=>True) ?hr ?hp (fun _ hk=>hk) trivial (Below.refl _ _) (Nat.le_refl _) (by simp) ?_;(case hd=>rfl);(case hg=>rfl);(case hr=>first|(go_simp;done)|(go_simp;rfl));(case hp=>exact (Reps.one (show Kd.M (Kd.int .i64) _ _ _ 23 [.int .i64 23] from rfl) (Reps.none _ _)));intro v583 w170 ho171 hb hg_ hnew_;clear hg_ hnew_;(first|rw [← Ny582.out] at ho171|(simp only [Int.reduceToNat] at ho171;rw [← Ny582.out] at ho171));have n7_:=zz00 (zz19 (by (with_reducible repeat (first|apply zz05|apply zz04|apply zz06));exact HO581.out) hb);have n8_:=zz00 (Kd.R_lower ho171 (zz22 (by repeat (first|(with_reducible first|exact HB.out|apply zz03|apply zz01|apply zz02)|exact HB.out))));have n9_:=zz00 (zz21 (by repeat (first|(with_reducible first|exact HB.out|apply zz03|apply zz01|apply zz02)|exact HB.out)) hb);(try clear HO503);(try clear HO509);(try clear HO515);(try clear HO521);(try clear HO527);(try clear HO533);(try clear HO578);clear HO581;clear HB;have HO581:=n7_;have HO584:=n8_;have HB:=n9_;clear n7_ n8_ n9_;clear hb ho171;obtain ⟨Ao172,co172,eo172⟩:=Kd.R_slice HO581.out;subst eo172;obtain ⟨Ao173,co173,eo173⟩:=Kd.R_slice HO584.out;subst eo173)|((with_reducible refine zz23 (f:=62) rfl ?_);refine zz25 (some 116) rfl rfl Tryd.func62 (by kernel_rfl) rfl #[.slice Ao172 t579.length co172,.int .i64 8,.int .i64 a0,.int .i64 1,.slice Ao173 y582.length co173] rfl (by (try simp only [List.map_toArray,List.map_cons,List.map_nil]);first|done|rfl|(simp only [List.length_drop,List.length_take];rfl)) ?_;(with_reducible refine (r19_days.calls kj42 (fun k_=>some k_ = (.slice Ao172 t579.length co172 : Value).ownBlock) (.slice Ao172 t579.length co172) t579 8 a0 1 _ _ y582 t585 w _ ?side1 ?side2 ?side3 ?side4 A131.out).mono ?_);(case side1=>repeat (first|(with_reducible first|exact HB.out|apply zz03|apply zz01|apply zz02)|exact HB.out));(case side2=>exact Kd.R_tight rfl HO581.out);(case side3=>exact Kd.C_kept_own ((Kd.R_apart' HO584.out (Kd.R_typed HO581.out) (by decide))) (fun k_ hk_ hs_=>(hk_.2) hs_));(case side4=>exact (Kd.R_reads' HO584.out).2.1);rintro e w174 ⟨v586,rfl,ho0,hb,hkp⟩;refine ⟨_,rfl,?_⟩;have n8_:=zz00 (Kd.R_mono (ok':=fun k_=>True) ho0 (fun k_ hk_=>trivial));have n9_:=zz00 (hb);(try clear HO503);(try clear HO509);(try clear HO515);(try clear HO521);(try clear HO527);(try clear HO533);(try clear HO578);(try clear HO584);clear HB;clear HO581;have HO587:=n8_;have HB:=n9_;clear n8_ n9_;(try clear hb);(try clear hkp);(try clear ho0))|((with_reducible refine zz24 (N:=119) rfl ?_);refine Kd.R_lit (Kd.int .i64) _ 3 ?hg (N:=119) ?hd (xs:=([15,16,21,22] : List Int)) (inner:=[.int .i64 15,.int .i64 16,.int .i64 21,.int .i64 22]) (ok:=fun _=>True) (okp:=fun _=>True) ?hr ?hp (fun _ hk=>hk) trivial (Below.refl _ _) (Nat.le_refl _) (by simp) ?_;(case hd=>rfl);(case hg=>rfl);(case hr=>first|(go_simp;done)|(go_simp;rfl));(case hp=>exact (Reps.one (show Kd.M (Kd.int .i64) _ _ _ 15 [.int .i64 15] from rfl) (Reps.one (show Kd.M (Kd.int .i64) _ _ _ 16 [.int .i64 16] from rfl) (Reps.one (show Kd.M (Kd.int .i64) _ _ _ 21 [.int .i64 21] from rfl) (Reps.one (show Kd.M (Kd.int .i64) _ _ _ 22 [.int .i64 22] from rfl) (Reps.none _ _))))));intro v589 w175 ho176 hb hg_ hnew_;clear hg_ hnew_;(first|rw [← Ny588.out] at ho176|(simp only [Int.reduceToNat] at ho176;rw [← Ny588.out] at ho176));have n8_:=zz00 (zz19 (by (with_reducible repeat (first|apply zz05|apply zz04|apply zz06));exact HO587.out) hb);have n9_:=zz00 (Kd.R_lower ho176 (zz22 (by repeat (first|(with_reducible first|exact HB.out|apply zz03|apply zz01|apply zz02)|exact HB.out))));have n10_:=zz00 (zz21 (by repeat (first|(with_reducible first|exact HB.out|apply zz03|apply zz01|apply zz02)|exact HB.out)) hb);(try clear HO503);(try clear HO509);(try clear HO515);(try clear HO521);(try clear HO527);(try clear HO533);(try clear HO578);(try clear HO584);clear HO587;clear HB;have HO587:=n8_;have HO590:=n9_;have HB:=n10_;clear n8_ n9_ n10_;clear hb ho176;obtain ⟨Ao177,co177,eo177⟩:=Kd.R_slice HO587.out;subst eo177;obtain ⟨Ao178,co178,eo178⟩:=Kd.R_slice HO590.out;subst eo178)|((with_reducible refine zz23 (f:=62) rfl ?_);refine zz25 (some 120) rfl rfl Tryd.func62 (by kernel_rfl) rfl #[.slice Ao177 t585.length co177,.int .i64 17,.int .i64 a0,.int .i64 7,.slice Ao178 y588.length co178] rfl (by (try simp only [List.map_toArray,List.map_cons,List.map_nil]);first|done|rfl|(simp only [List.length_drop,List.length_take];rfl)) ?_;(with_reducible refine (r19_days.calls kj42 (fun k_=>some k_ = (.slice Ao177 t585.length co177 : Value).ownBlock) (.slice Ao177 t585.length co177) t585 17 a0 7 _ _ y588 t591 w _ ?side1 ?side2 ?side3 ?side4 A132.out).mono ?_);(case side1=>repeat (first|(with_reducible first|exact HB.out|apply zz03|apply zz01|apply zz02)|exact HB.out));(case side2=>exact Kd.R_tight rfl HO587.out);(case side3=>exact Kd.C_kept_own ((Kd.R_apart' HO590.out (Kd.R_typed HO587.out) (by decide))) (fun k_ hk_ hs_=>(hk_.2) hs_));(case side4=>exact (Kd.R_reads' HO590.out).2.1);rintro e w179 ⟨v592,rfl,ho0,hb,hkp⟩;refine ⟨_,rfl,?_⟩;have n9_:=zz00 (Kd.R_mono (ok':=fun k_=>True) ho0 (fun k_ hk_=>trivial));have n10_:=zz00 (hb);(try clear HO503);(try clear HO509);(try clear HO515);(try clear HO521);(try clear HO527);(try clear HO533);(try clear HO578);(try clear HO584);(try clear HO590);clear HB;clear HO587;have HO593:=n9_;have HB:=n10_;clear n9_ n10_;(try clear hb);(try clear hkp);(try clear ho0))|((with_reducible refine zz24 (N:=123) rfl ?_);refine Kd.R_lit (Kd.int .i64) _ 3 ?hg (N:=123) ?hd (xs:=([6,7] : List Int)) (inner:=[.int .i64 6,.int .i64 7]) (ok:=fun _=>True) (okp:=fun _=>True) ?hr ?hp (fun _ hk=>hk) trivial (Below.refl _ _) (Nat.le_refl _) (by simp) ?_;(case hd=>rfl);(case hg=>rfl);(case hr=>first|(go_simp;done)|(go_simp;rfl));(case hp=>exact (Reps.one (show Kd.M (Kd.int .i64) _ _ _ 6 [.int .i64 6] from rfl) (Reps.one (show Kd.M (Kd.int .i64) _ _ _ 7 [.int .i64 7] from rfl) (Reps.none _ _))));intro v595 w180 ho181 hb hg_ hnew_;clear hg_ hnew_;(first|rw [← Ny594.out] at ho181|(simp only [Int.reduceToNat] at ho181;rw [← Ny594.out] at ho181));have n9_:=zz00 (zz19 (by (with_reducible repeat (first|apply zz05|apply zz04|apply zz06));exact HO593.out) hb);have n10_:=zz00 (Kd.R_lower ho181 (zz22 (by repeat (first|(with_reducible first|exact HB.out|apply zz03|apply zz01|apply zz02)|exact HB.out))));have n11_:=zz00 (zz21 (by repeat (first|(with_reducible first|exact HB.out|apply zz03|apply zz01|apply zz02)|exact HB.out)) hb);(try clear HO503);(try clear HO509);(try clear HO515);(try clear HO521);(try clear HO527);(try clear HO533);(try clear HO578);(try clear HO584);(try clear HO590);clear HO593;clear HB;have HO593:=n9_;have HO596:=n10_;have HB:=n11_;clear n9_ n10_ n11_;clear hb ho181;obtain ⟨Ao182,co182,eo182⟩:=Kd.R_slice HO593.out;subst eo182;obtain ⟨Ao183,co183,eo183⟩:=Kd.R_slice HO596.out;subst eo183)|((with_reducible refine zz23 (f:=62) rfl ?_);refine zz25 (some 124) rfl rfl Tryd.func62 (by kernel_rfl) rfl #[.slice Ao182 t591.length co182,.int .i64 25,.int .i64 a0,.int .i64 9,.slice Ao183 y594.length co183] rfl (by (try simp only [List.map_toArray,List.map_cons,List.map_nil]);first|done|rfl|(simp only [List.length_drop,List.length_take];rfl)) ?_;(with_reducible refine (r19_days.calls kj42 (fun k_=>some k_ = (.slice Ao182 t591.length co182 : Value).ownBlock) (.slice Ao182 t591.length co182) t591 25 a0 9 _ _ y594 t597 w _ ?side1 ?side2 ?side3 ?side4 A133.out).mono ?_);(case side1=>repeat (first|(with_reducible first|exact HB.out|apply zz03|apply zz01|apply zz02)|exact HB.out));(case side2=>exact Kd.R_tight rfl HO593.out);(case side3=>exact Kd.C_kept_own ((Kd.R_apart' HO596.out (Kd.R_typed HO593.out) (by decide))) (fun k_ hk_ hs_=>(hk_.2) hs_));(case side4=>exact (Kd.R_reads' HO596.out).2.1);rintro e w184 ⟨v598,rfl,ho0,hb,hkp⟩;refine ⟨_,rfl,?_⟩;have n10_:=zz00 (Kd.R_mono (ok':=fun k_=>True) ho0 (fun k_ hk_=>trivial));have n11_:=zz00 (hb);(try clear HO503);(try clear HO509);(try clear HO515);(try clear HO521);(try clear HO527);(try clear HO533);(try clear HO578);(try clear HO584);(try clear HO590);(try clear HO596);clear HB;clear HO593;have HO599:=n10_;have HB:=n11_;clear n10_ n11_;(try clear hb);(try clear hkp);(try clear ho0);obtain ⟨Ao185,co185,eo185⟩:=Kd.R_slice HO599.out;subst eo185)|((with_reducible refine zz23 (f:=40) rfl ?_);refine zz25 (some 126) rfl rfl Tryd.func40 (by kernel_rfl) rfl #[.slice Ao185 t597.length co185] rfl (by (try simp only [List.map_toArray,List.map_cons,List.map_nil]);first|done|rfl|(simp only [List.length_drop,List.length_take];rfl)) ?_;(with_reducible refine (r19_Sort.calls kj42 _ _ t597 t600 _ ?side1 ?side2 A134.out).mono ?_);(case side1=>repeat (first|exact (Kd.R_reads' HO599.out).2.2|(with_reducible refine Kd.C_alloc ?_ _)|(with_reducible refine Kd.C_drewN ?_ _)|(with_reducible refine Kd.C_drew ?_)));(case side2=>exact (Kd.R_reads' HO599.out).2.1);rintro e w186 ⟨v601,rfl,ho0,hb⟩;refine ⟨_,rfl,?_⟩;have n10_:=zz00 (zz20 (by (with_reducible repeat (first|apply zz05|apply zz04|apply zz06));exact HO599.out) (Kd.R_base ho0) hb);have n11_:=zz00 (Kd.R_lower (Kd.R_new' ho0 (Kd.R_lt (by (with_reducible repeat (first|apply zz05|apply zz04|apply zz06));exact HO599.out))) (zz22 (by repeat (first|(with_reducible first|exact HB.out|apply zz03|apply zz01|apply zz02)|exact HB.out))));have n12_:=zz00 (zz21 (by repeat (first|(with_reducible first|exact HB.out|apply zz03|apply zz01|apply zz02)|exact HB.out)) hb);(try clear HO503);(try clear HO509);(try clear HO515);(try clear HO521);(try clear HO527);(try clear HO533);(try clear HO578);(try clear HO584);(try clear HO590);(try clear HO596);clear HO599;clear HB;have HO599:=n10_;have HO602:=n11_;have HB:=n12_;clear n10_ n11_ n12_;(try clear hb);(try clear hb2);(try clear hk);(try clear hi);(try clear ho0)))
         go_ret2
         exact ⟨_,by first|rfl|(simp [errW_none,errW_some] <;> rfl)|(simp [*,errW_none,errW_some] <;> rfl),by (with_reducible repeat (first|apply zz05|apply zz04|apply zz06));exact Kd.R_mono HO602.out (fun _ hk=>trivial),by repeat (first|(with_reducible first|exact HB.out|apply zz03|apply zz01|apply zz02)|exact HB.out)⟩
  ·
   replace c6 := zz32.mpr c6
   subst c6
   have H1 : (some (([] : List (S48)), 2)) = some (r1, r2) := by rw [if_neg (show ¬ (false = true) by decide)] at H; exact H
   clear H
   have H := H1
   clear H1
   simp only [zz15, zz16] at H
   obtain ⟨rfl, rfl⟩ := H
   go_enter Tryd.func36, Tryd.ntmps36
   go_wp2_with (first|((with_reducible refine zz23 (f:=61) rfl ?_);refine zz25 (some 9) rfl rfl Tryd.func61 (by kernel_rfl) rfl #[.int .i64 a1] rfl (by (try simp only [List.map_toArray,List.map_cons,List.map_nil]);first|done|rfl|(simp only [List.length_drop,List.length_take];rfl)) ?_;(with_reducible refine (r19_Place.calls a1 true _ A3.out).mono ?_);rintro e w' ⟨rfl,⟨nd,rfl⟩⟩;refine ⟨_,rfl,?_⟩)|((with_reducible refine zz23 (f:=54) rfl ?_);refine zz25 (some 12) rfl rfl Tryd.func54 (by kernel_rfl) rfl #[.int .i64 a0] rfl (by (try simp only [List.map_toArray,List.map_cons,List.map_nil]);first|done|rfl|(simp only [List.length_drop,List.length_take];rfl)) ?_;(with_reducible refine (r07_Right.calls a0 false _ A5.out).mono ?_);rintro e w' ⟨rfl,⟨nd,rfl⟩⟩;refine ⟨_,rfl,?_⟩))
   go_ret2
   exact ⟨_,by first|rfl|(simp [errW_none,errW_some] <;> rfl)|(simp [*,errW_none,errW_some] <;> rfl),by first|exact Kd.R_nil _ _ _ _ _|exact Kd.N_nil _ _ _ _ _|exact Kd.V_nil _ _ _ _ _|exact Kd.Q_nil _ _ _ _ _|exact Kd.S_nil _ _ _ _ _,by repeat (first|(with_reducible first|exact HB.out|apply zz03|apply zz01|apply zz02)|exact HB.out)⟩
 ·
  replace c4 := zz32.mpr c4
  subst c4
  have H1 : (some (([] : List (S48)), 1)) = some (r1, r2) := by rw [if_neg (show ¬ (false = true) by decide)] at H; exact H
  clear H
  have H := H1
  clear H1
  simp only [zz15, zz16] at H
  obtain ⟨rfl, rfl⟩ := H
  go_enter Tryd.func36, Tryd.ntmps36
  go_wp2_with (first|((with_reducible refine zz23 (f:=61) rfl ?_);refine zz25 (some 9) rfl rfl Tryd.func61 (by kernel_rfl) rfl #[.int .i64 a1] rfl (by (try simp only [List.map_toArray,List.map_cons,List.map_nil]);first|done|rfl|(simp only [List.length_drop,List.length_take];rfl)) ?_;(with_reducible refine (r19_Place.calls a1 false _ A3.out).mono ?_);rintro e w' ⟨rfl,⟨nd,rfl⟩⟩;refine ⟨_,rfl,?_⟩))
  go_ret2
  exact ⟨_,by first|rfl|(simp [errW_none,errW_some] <;> rfl)|(simp [*,errW_none,errW_some] <;> rfl),by first|exact Kd.R_nil _ _ _ _ _|exact Kd.N_nil _ _ _ _ _|exact Kd.V_nil _ _ _ _ _|exact Kd.Q_nil _ _ _ _ _|exact Kd.S_nil _ _ _ _ _,by repeat (first|(with_reducible first|exact HB.out|apply zz03|apply zz01|apply zz02)|exact HB.out)⟩

end Go.Proofs.YtflpddhoiafhcaaDoor.T
end

section
-- Written by wip/hprint.py of this repo (holes typed by hand, all else by a program) over the seat YtflpddhoiafhcaaDoor.
namespace Go.Proofs.YtflpddhoiafhcaaDoor.T
open Go.Proofs.YtflpddhoiafhcaaDoor.H
open Go.RowKit Go.Proofs.YtflpddhoiafhcaaDoorW.PrintWords Go.Proofs.YtflpddhoiafhcaaDoorW.PrintLast Go.Proofs.YtflpddhoiafhcaaDoorW.PrintMore
attribute [local go_sem] max2_int min2_int max_two min_two max_three min_three max_four min_four   -- for this text's walks alone
set_option linter.unusedVariables false
set_option linter.unusedSimpArgs false

def r19_Rest.f (a0 : Int) : Option (Bool) := if a0 = 1 then (some true) else (if a0 = 3 then (some true) else (if a0 = 4 then (some true) else (if a0 = 5 then (some true) else (if a0 = 6 then (some true) else (if a0 = 7 then (some true) else (if a0 = 8 then (some true) else (if a0 = 17 then (some true) else (if a0 = 18 then (some true) else (if a0 = 25 then (some true) else (some false))))))))))
set_option maxHeartbeats 8000000 in
set_option maxRecDepth 100000 in
theorem r19_Rest.calls (a0 : Int) (r : Bool) (w : World) (h : r19_Rest.f a0 = some r) :
    Calls Tryd.prog 38 #[.int .i64 a0] w fun e w' => e = .returned (.bool r) ∧ Drawn0 w w' := by
  have H : (if a0 = 1 then (some true) else (if a0 = 3 then (some true) else (if a0 = 4 then (some true) else (if a0 = 5 then (some true) else (if a0 = 6 then (some true) else (if a0 = 7 then (some true) else (if a0 = 8 then (some true) else (if a0 = 17 then (some true) else (if a0 = 18 then (some true) else (if a0 = 25 then (some true) else (some false))))))))))) = some r:=h
  clear h
  by_cases c2 : a0 = 1
  · rw [if_pos c2] at H
    have c2b0 : (a0 == 1) = true := zz29.mpr c2
    have c2b1 : (a0 != 1) = false := zz26.mpr c2
    clear c2
    obtain rfl := Option.some.inj H
    go_enter Tryd.func38, Tryd.ntmps38
    go_wp2
    go_ret
    exact ⟨by first | rfl | (simp; done) | (simp [*]; done), by repeat (first | exact Drawn0.refl _ | apply Drawn0.step)⟩
  · rw [if_neg c2] at H
    have c2b0 : (a0 == 1) = false := zz27.mpr c2
    have c2b1 : (a0 != 1) = true := zz28.mpr c2
    by_cases c3 : a0 = 3
    · rw [if_pos c3] at H
      have c3b0 : (a0 == 3) = true := zz29.mpr c3
      have c3b1 : (a0 != 3) = false := zz26.mpr c3
      clear c3
      obtain rfl := Option.some.inj H
      go_enter Tryd.func38, Tryd.ntmps38
      go_wp2
      go_ret
      exact ⟨by first | rfl | (simp; done) | (simp [*]; done), by repeat (first | exact Drawn0.refl _ | apply Drawn0.step)⟩
    · rw [if_neg c3] at H
      have c3b0 : (a0 == 3) = false := zz27.mpr c3
      have c3b1 : (a0 != 3) = true := zz28.mpr c3
      by_cases c4 : a0 = 4
      · rw [if_pos c4] at H
        have c4b0 : (a0 == 4) = true := zz29.mpr c4
        have c4b1 : (a0 != 4) = false := zz26.mpr c4
        clear c4
        obtain rfl := Option.some.inj H
        go_enter Tryd.func38, Tryd.ntmps38
        go_wp2
        go_ret
        exact ⟨by first | rfl | (simp; done) | (simp [*]; done), by repeat (first | exact Drawn0.refl _ | apply Drawn0.step)⟩
      · rw [if_neg c4] at H
        have c4b0 : (a0 == 4) = false := zz27.mpr c4
        have c4b1 : (a0 != 4) = true := zz28.mpr c4
        by_cases c5 : a0 = 5
        · rw [if_pos c5] at H
          have c5b0 : (a0 == 5) = true := zz29.mpr c5
          have c5b1 : (a0 != 5) = false := zz26.mpr c5
          clear c5
          obtain rfl := Option.some.inj H
          go_enter Tryd.func38, Tryd.ntmps38
          go_wp2
          go_ret
          exact ⟨by first | rfl | (simp; done) | (simp [*]; done), by repeat (first | exact Drawn0.refl _ | apply Drawn0.step)⟩
        · rw [if_neg c5] at H
          have c5b0 : (a0 == 5) = false := zz27.mpr c5
          have c5b1 : (a0 != 5) = true := zz28.mpr c5
          by_cases c6 : a0 = 6
          · rw [if_pos c6] at H
            have c6b0 : (a0 == 6) = true := zz29.mpr c6
            have c6b1 : (a0 != 6) = false := zz26.mpr c6
            clear c6
            obtain rfl := Option.some.inj H
            go_enter Tryd.func38, Tryd.ntmps38
            go_wp2
            go_ret
            exact ⟨by first | rfl | (simp; done) | (simp [*]; done), by repeat (first | exact Drawn0.refl _ | apply Drawn0.step)⟩
          · rw [if_neg c6] at H
            have c6b0 : (a0 == 6) = false := zz27.mpr c6
            have c6b1 : (a0 != 6) = true := zz28.mpr c6
            by_cases c7 : a0 = 7
            · rw [if_pos c7] at H
              have c7b0 : (a0 == 7) = true := zz29.mpr c7
              have c7b1 : (a0 != 7) = false := zz26.mpr c7
              clear c7
              obtain rfl := Option.some.inj H
              go_enter Tryd.func38, Tryd.ntmps38
              go_wp2
              go_ret
              exact ⟨by first | rfl | (simp; done) | (simp [*]; done), by repeat (first | exact Drawn0.refl _ | apply Drawn0.step)⟩
            · rw [if_neg c7] at H
              have c7b0 : (a0 == 7) = false := zz27.mpr c7
              have c7b1 : (a0 != 7) = true := zz28.mpr c7
              by_cases c8 : a0 = 8
              · rw [if_pos c8] at H
                have c8b0 : (a0 == 8) = true := zz29.mpr c8
                have c8b1 : (a0 != 8) = false := zz26.mpr c8
                clear c8
                obtain rfl := Option.some.inj H
                go_enter Tryd.func38, Tryd.ntmps38
                go_wp2
                go_ret
                exact ⟨by first | rfl | (simp; done) | (simp [*]; done), by repeat (first | exact Drawn0.refl _ | apply Drawn0.step)⟩
              · rw [if_neg c8] at H
                have c8b0 : (a0 == 8) = false := zz27.mpr c8
                have c8b1 : (a0 != 8) = true := zz28.mpr c8
                by_cases c9 : a0 = 17
                · rw [if_pos c9] at H
                  have c9b0 : (a0 == 17) = true := zz29.mpr c9
                  have c9b1 : (a0 != 17) = false := zz26.mpr c9
                  clear c9
                  obtain rfl := Option.some.inj H
                  go_enter Tryd.func38, Tryd.ntmps38
                  go_wp2
                  go_ret
                  exact ⟨by first | rfl | (simp; done) | (simp [*]; done), by repeat (first | exact Drawn0.refl _ | apply Drawn0.step)⟩
                · rw [if_neg c9] at H
                  have c9b0 : (a0 == 17) = false := zz27.mpr c9
                  have c9b1 : (a0 != 17) = true := zz28.mpr c9
                  by_cases c10 : a0 = 18
                  · rw [if_pos c10] at H
                    have c10b0 : (a0 == 18) = true := zz29.mpr c10
                    have c10b1 : (a0 != 18) = false := zz26.mpr c10
                    clear c10
                    obtain rfl := Option.some.inj H
                    go_enter Tryd.func38, Tryd.ntmps38
                    go_wp2
                    go_ret
                    exact ⟨by first | rfl | (simp; done) | (simp [*]; done), by repeat (first | exact Drawn0.refl _ | apply Drawn0.step)⟩
                  · rw [if_neg c10] at H
                    have c10b0 : (a0 == 18) = false := zz27.mpr c10
                    have c10b1 : (a0 != 18) = true := zz28.mpr c10
                    by_cases c11 : a0 = 25
                    · rw [if_pos c11] at H
                      have c11b0 : (a0 == 25) = true := zz29.mpr c11
                      have c11b1 : (a0 != 25) = false := zz26.mpr c11
                      clear c11
                      obtain rfl := Option.some.inj H
                      go_enter Tryd.func38, Tryd.ntmps38
                      go_wp2
                      go_ret
                      exact ⟨by first | rfl | (simp; done) | (simp [*]; done), by repeat (first | exact Drawn0.refl _ | apply Drawn0.step)⟩
                    · rw [if_neg c11] at H
                      have c11b0 : (a0 == 25) = false := zz27.mpr c11
                      have c11b1 : (a0 != 25) = true := zz28.mpr c11
                      obtain rfl := Option.some.inj H
                      go_enter Tryd.func38, Tryd.ntmps38
                      go_wp2
                      go_ret
                      exact ⟨by first | rfl | (simp; done) | (simp [*]; done), by repeat (first | exact Drawn0.refl _ | apply Drawn0.step)⟩

end Go.Proofs.YtflpddhoiafhcaaDoor.T
end
